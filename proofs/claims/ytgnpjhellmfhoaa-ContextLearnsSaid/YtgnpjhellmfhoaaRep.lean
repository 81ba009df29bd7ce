/-
  How Go's data lie in immutable memory, by type (El, Sl); what a contract says (RetS, RetV).
-/
import Derived.Test.YtgnpjhellmfhoaaCall
namespace Go.Proofs.Ytgnpjhellmfhoaa.Sy
open Go.RowKit

class El (α : Type) where
  sz : Nat
  rep : Mem → (Nat → Option Value) → α → Prop
  mono : ∀ {n : Nat} {μ μ' : Mem} {f f' : Nat → Option Value} {x : α}, Mem.ext n μ μ' → (∀ j v, f j = some v → f' j = some v) → rep μ f x → rep μ' f' x

/-- A slice value '.slice ad xs.length c' reads as xs. -/
def Sl {α : Type} [El α] (μ : Mem) (ad : Option Addr) (c : Nat) (xs : List α) : Prop :=
  xs.length ≤ c ∧ c ≤ maxLen ∧ ∀ i (h : i < xs.length), ∃ b off, ad = some ⟨b, off, none⟩ ∧ El.rep μ (fun j => μ.cell b (off + i * El.sz α + j)) xs[i]

/-- Cells that read as xs. -/
def RepL {α : Type} [El α] (μ : Mem) (us : List Value) (xs : List α) : Prop :=
  us.length = xs.length * El.sz α ∧ ∀ i (h : i < xs.length), El.rep μ (fun j => if j < El.sz α then us[i * El.sz α + j]? else none) xs[i]

section
variable {α : Type} [El α] {n : Nat} {μ μ' : Mem} {ad : Option Addr} {c : Nat} {xs : List α}

theorem Sl.mono (h : Sl μ ad c xs) (hm : Mem.ext n μ μ') : Sl μ' ad c xs :=
  ⟨h.1, h.2.1, fun i hi => let ⟨b, off, e, hr⟩ := h.2.2 i hi; ⟨b, off, e, El.mono hm (fun _ _ hv => hm.cell hv) hr⟩⟩
theorem RepL.mono {us : List Value} (h : RepL μ us xs) (hm : Mem.ext n μ μ') : RepL μ' us xs := ⟨h.1, fun i hi => El.mono hm (fun _ _ hv => hv) (h.2 i hi)⟩
theorem Sl.nil (μ : Mem) (ad : Option Addr) (c : Nat) (hc : c ≤ maxLen) : Sl μ ad c ([] : List α) := ⟨Nat.zero_le _, hc, fun _ hi => absurd hi (Nat.not_lt_zero _)⟩
theorem RepL.nil (μ : Mem) : RepL μ [] ([] : List α) := ⟨by simp, fun i hi => absurd hi (Nat.not_lt_zero _)⟩
theorem Sl.at (h : Sl μ ad c xs) {i : Nat} (hi : i < xs.length) : ∃ b off, ad = some ⟨b, off, none⟩ ∧ El.rep μ (fun j => μ.cell b (off + i * El.sz α + j)) xs[i] := h.2.2 i hi

theorem RepL.snoc {us vs : List Value} {x : α} (h : RepL μ us xs) (hl : vs.length = El.sz α) (hr : El.rep μ (fun j => vs[j]?) x) : RepL μ (us ++ vs) (xs ++ [x]) := by
  refine ⟨by simp [h.1, hl, Nat.add_mul], fun i hi => ?_⟩
  simp only [List.length_append, List.length_cons, List.length_nil] at hi
  by_cases hlt : i < xs.length
  · rw [List.getElem_append_left hlt]
    refine El.mono (Mem.ext.refl 0 μ) (fun j v hv => ?_) (h.2 i hlt)
    split at hv
    · rename_i hj
      rw [if_pos hj, List.getElem?_append_left]
      · exact hv
      · exact (List.getElem?_eq_some_iff.1 hv).1
    · cases hv
  · have e : i = xs.length := by omega
    subst e
    rw [List.getElem_append_right (Nat.le_refl _)]
    simp only [Nat.sub_self, List.getElem_cons_zero]
    refine El.mono (Mem.ext.refl 0 μ) (fun j v hv => ?_) hr
    have hj : j < El.sz α := by rw [← hl]; exact (List.getElem?_eq_some_iff.1 hv).1
    rw [if_pos hj, List.getElem?_append_right (by rw [h.1]; omega), h.1]
    rw [show xs.length * El.sz α + j - xs.length * El.sz α = j by omega]
    exact hv

theorem RepL.take {us : List Value} (h : RepL μ us xs) (k : Nat) (hk : k ≤ xs.length) : RepL μ (us.take (k * El.sz α)) (xs.take k) := by
  refine ⟨by rw [List.length_take, List.length_take, h.1, Nat.min_eq_left (Nat.mul_le_mul_right _ hk), Nat.min_eq_left hk], fun i hi => ?_⟩
  rw [List.length_take, Nat.min_eq_left hk] at hi
  rw [List.getElem_take]
  refine El.mono (Mem.ext.refl 0 μ) (fun j v hv => ?_) (h.2 i (by omega))
  split at hv
  · rename_i hj
    rw [if_pos hj, List.getElem?_take, if_pos ?_]
    · exact hv
    · calc i * El.sz α + j < i * El.sz α + El.sz α := by omega
        _ = (i + 1) * El.sz α := by rw [Nat.add_mul, Nat.one_mul]
        _ ≤ k * El.sz α := Nat.mul_le_mul_right _ hi
  · cases hv

/-- What has been shut reads as before. -/
theorem Sl.of_own {bs : List Nat} {l : Nat} {E : TypeId} {us : List Value} (h : (Own.sl ad l c E (El.sz α) us).φ bs μ) (hr : RepL μ us xs) (hl : l = xs.length) : Sl μ ad c xs := by
  subst hl
  obtain ⟨hlen, hφ⟩ := h
  rcases hφ with ⟨rfl, h0, rfl, rfl⟩ | ⟨g, cur, rfl, rfl, hh, h1, h2, h3, h4⟩
  · exact ⟨by omega, by simp [maxLen], fun i hi => by omega⟩
  · refine ⟨h1, h2, fun i hi => ⟨g, 0, rfl, ?_⟩⟩
    refine El.mono (Mem.ext.refl 0 μ) (fun j v hv => ?_) (hr.2 i hi)
    split at hv
    · rename_i hj
      simp only [Mem.cell, hh]
      rw [← h4, List.getElem?_take] at hv
      split at hv
      · simpa using hv
      · cases hv
    · cases hv

end

/-- A contract of a function whose result is a plain value. -/
def RetS (w : World) (v : Value) (e : Ending) (w' : World) : Prop := e = .returned v ∧ Bel w.heap.size w w'
/-- A contract of a function that hands back data: in immutable memory, which may have grown. -/
def RetV (w : World) (μ : Mem) (Φ : Mem → Value → Prop) (e : Ending) (w' : World) : Prop :=
  ∃ v μ', e = .returned v ∧ Bel w.heap.size w w' ∧ Mem.ext w.heap.size μ μ' ∧ Imm μ' w' ∧ Φ μ' v
/-- The data: a slice. -/
def IsSl {α : Type} [El α] (xs : List α) (μ : Mem) (v : Value) : Prop := ∃ ad c, v = .slice ad xs.length c ∧ Sl μ ad c xs

theorem St.retS {w w' : World} {μ : Mem} {L : List Own} {v : Value} (h : St w w' μ L) : RetS w v (.returned v) w' := ⟨rfl, h.below⟩

section
variable {P : Program} {m : List (Nat × Value)} {w : World}
/-- A call whose result is a plain value: for the caller. -/
theorem Hv.callS {o' : Call} {c : Operand} {as : List Operand} {ats : Array TypeId} {f : FuncId} {cap : Array Value} {args : List Value} {w0 : World} {μ : Mem} {L : List Own} {v : Value} (hS : St w0 w μ L)
    (ho' : o' = { callee := .value c, args := as.toArray, argTypes := ats }) (hc : ev m c = some (.func (.func f) #[] cap)) (has : evs m as = some args) (hf : Callable P f)
    (hC : Calls P f (args ++ cap.toList).toArray w (RetS w v)) : Hv P m (.call o') w (fun u w' => u = v ∧ St w0 w' μ L) :=
  Hv.call ho' hc has hf (hC.mono fun _ _ ⟨he, hb⟩ => ⟨v, he, rfl, hS.grow hb⟩)
/-- A call that hands back data. -/
theorem Hv.callV {o' : Call} {c : Operand} {as : List Operand} {ats : Array TypeId} {f : FuncId} {cap : Array Value} {args : List Value} {w0 : World} {μ : Mem} {L : List Own} {Φ : Mem → Value → Prop} (hS : St w0 w μ L)
    (ho' : o' = { callee := .value c, args := as.toArray, argTypes := ats }) (hc : ev m c = some (.func (.func f) #[] cap)) (has : evs m as = some args) (hf : Callable P f)
    (hC : Calls P f (args ++ cap.toList).toArray w (RetV w μ Φ)) : Hv P m (.call o') w (fun u w' => ∃ μ', Φ μ' u ∧ Mem.ext w.heap.size μ μ' ∧ St w0 w' μ' L) :=
  Hv.call ho' hc has hf (hC.mono fun _ _ ⟨v, μ', he, hb, hm, hi, hv⟩ => ⟨v, he, μ', hv, hm, hS.mem hb hm hi⟩)
end

instance : El Int := ⟨1, fun _ f x => f 0 = some (.int .i64 x), fun _ hf h => hf _ _ h⟩
instance : El UInt8 := ⟨1, fun _ f x => f 0 = some (.int .u8 x.toNat), fun _ hf h => hf _ _ h⟩
instance : El Bool := ⟨1, fun _ f x => f 0 = some (.bool x), fun _ hf h => hf _ _ h⟩
instance : El ByteArray := ⟨1, fun _ f x => f 0 = some (.string x), fun _ hf h => hf _ _ h⟩

theorem RepL.ints1 (μ : Mem) (x : Int) : RepL μ [.int .i64 x] [x] := (RepL.nil μ).snoc rfl rfl
theorem RepL.ints2 (μ : Mem) (x y : Int) : RepL μ [.int .i64 x, .int .i64 y] [x, y] := (RepL.ints1 μ x).snoc rfl rfl
theorem RepL.ints3 (μ : Mem) (x y z : Int) : RepL μ [.int .i64 x, .int .i64 y, .int .i64 z] [x, y, z] := (RepL.ints2 μ x y).snoc rfl rfl

theorem RepL.ints (μ : Mem) : ∀ xs : List Int, RepL μ (xs.map fun x => Value.int .i64 x) xs := fun xs =>
  ⟨by show _ = xs.length * 1; simp, fun i hi => by show (if 0 < 1 then _ else _) = _; simp; show xs[i * 1]? = _; simp [hi]⟩

/-! ### Lending: a callee that hands back a plain value may read what the call owns -/
theorem imm_memOf (w : World) : Imm (memOf w) w := fun _ _ h => h
theorem St.lend_obj {α : Type} [El α] {w0 w : World} {μ : Mem} {L : List Own} {k b : Nat} {cs : List Value} {E : TypeId} {xs : List α} (h : St w0 w μ L) (hk : L[k]? = some (Own.obj b cs E)) (hr : RepL (memOf w) cs xs) (hm : xs.length ≤ maxLen) :
    Sl (memOf w) (some ⟨b, 0, none⟩) xs.length xs := by
  obtain ⟨bs, _, hb⟩ := h.rd.get hk
  refine ⟨Nat.le_refl _, hm, fun i hi => ⟨b, 0, rfl, ?_⟩⟩
  refine El.mono (Mem.ext.refl 0 _) (fun j v hv => ?_) (hr.2 i hi)
  split at hv
  · simp only [Mem.cell, hb]; simpa using hv
  · cases hv
theorem St.lend_sl {α : Type} [El α] {w0 w : World} {μ : Mem} {L : List Own} {ad : Option Addr} {l c : Nat} {us : List Value} {E : TypeId} {xs : List α} (h : St w0 w μ L) (k : Nat) (hk : L[k]? = some (Own.sl ad l c E (El.sz α) us)) (hr : RepL (memOf w) us xs) (hl : l = xs.length) :
    Sl (memOf w) ad c xs := by
  obtain ⟨bs, hb⟩ := h.rd.get hk
  exact Sl.of_own hb hr hl
/-- What lies in immutable memory lies in the world. -/
theorem Imm.ext {μ : Mem} {w : World} (h : Imm μ w) : Mem.ext 0 μ (memOf w) := ⟨h, fun _ hb => absurd hb (Nat.not_lt_zero _)⟩

end Go.Proofs.Ytgnpjhellmfhoaa.Sy
