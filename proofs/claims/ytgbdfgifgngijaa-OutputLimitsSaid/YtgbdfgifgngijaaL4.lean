import Derived.Test.YtgbdfgifgngijaaL3
import Derived.ProofKit
import Derived.OpenShut

/-
  What a statement's reader finds among the arguments is data of immutable memory; what a law hands back.
-/
namespace Go.Proofs.Ytgbdfgifgngijaa.Sy
open Go.RowKit Go.ChangeShapes Go.WideShapes Go.ChangeAt

section
variable {H : Type} {enc : TypeId × Value → H} {P : Program} {w : World} {base : Nat} {spare : Nat → Bool} {held : Bool} {fuel : Nat} {t e : TypeId} {cs : List Value} {x : DataW H × List MemPlace}

/-- What is read at a type is data of α. -/
structure Reads (P : Program) (t : TypeId) (α : Type) [El α] : Prop where
  size : P.cellsOf t = El.sz α
  pos : 0 < El.sz α
  read : ∀ {H : Type} {enc : TypeId × Value → H} {w : World} {base : Nat} {spare : Nat → Bool} {held : Bool} {fuel : Nat} {cs : List Value} {x : DataW H × List MemPlace},
    DataW.trod enc P w base spare held fuel t cs = some x → ∃ a : α, cs.length = El.sz α ∧ El.rep (memOf w) (fun j => cs[j]?) a

theorem memOf_cell {w : World} {b off : Nat} {v : Value} (h : w.cell? ⟨b, off, none⟩ = some v) : (memOf w).cell b off = some v := by
  unfold World.cell? at h
  unfold Mem.cell memOf
  simp only [Option.isSome_none, Bool.false_eq_true, if_false] at h
  cases hb : w.heap[b]? with
  | none => rw [hb] at h; cases h
  | some o => rw [hb] at h; cases o <;> first | exact h | cases h
theorem mapM_get {β : Type} {f : Nat → Option β} {n : Nat} {l : List β} (h : (List.range n).mapM f = some l) {j : Nat} {v : β} (hv : l[j]? = some v) : f j = some v := by
  have h1 := mapM_some_length h
  have hj : j < n := by have := (List.getElem?_eq_some_iff.1 hv).1; simp at h1; omega
  have h2 := mapM_some_get h j j (by simp [hj])
  rw [h2, hv]

theorem Reads.slice {α : Type} [El α] (T : Reads P e α) (ht : P.underlying t = some (.slice e)) (h : DataW.trod enc P w base spare held fuel t cs = some x) : ∃ (ad : Option Addr) (cap : Nat) (xs : List α), cs = [.slice ad xs.length cap] ∧ Sl (memOf w) ad cap xs := by
  rcases DataW.trod_slice ht h with ⟨rfl, _⟩ | ⟨a, len, cap, elems, rest, n, rfl, rfl, rfl, _, hlc, hcm, hel, hi, _, _⟩
  · exact ⟨none, 0, [], rfl, Sl.nil _ _ _ (by simp [maxLen])⟩
  have hone : ∀ i : Fin len, ∃ y : α, ∃ b off, a = ⟨b, off, none⟩ ∧ El.rep (memOf w) (fun j => (memOf w).cell b (off + i * El.sz α + j)) y := by
    intro ⟨i, hil⟩
    have h1 := hi i hil
    rw [List.getElem?_eq_getElem (by omega), T.size] at h1
    cases hc : w.cells? base (a.add (i * El.sz α)) (El.sz α) with
    | none => rw [hc] at h1; cases h1
    | some cells =>
      rw [hc] at h1
      obtain ⟨y, _, hy⟩ := T.read h1
      unfold World.cells? at hc
      split at hc
      · have hcell : ∀ j v, cells[j]? = some v → w.cell? ((a.add (i * El.sz α)).add j) = some v := fun j v hv => mapM_get hc hv
        have hpos := T.pos
        obtain ⟨b, off, sp⟩ := a
        have hsp : sp = none := by
          have h0 := hi 0 (by omega)
          rw [List.getElem?_eq_getElem (by omega), T.size] at h0
          cases hc0 : w.cells? base ((⟨b, off, sp⟩ : Addr).add (0 * El.sz α)) (El.sz α) with
          | none => rw [hc0] at h0; cases h0
          | some cells0 =>
            unfold World.cells? at hc0
            split at hc0
            · have hl := mapM_some_length hc0
              simp only [List.length_range] at hl
              have h2 := mapM_get hc0 (List.getElem?_eq_getElem (show 0 < cells0.length by omega))
              simp only [Addr.add, Nat.zero_mul, if_true] at h2
              unfold World.cell? at h2
              cases sp with
              | none => rfl
              | some s => split at h2 <;> simp at h2
            · cases hc0
        subst hsp
        refine ⟨y, b, off, rfl, El.mono (Mem.ext.refl 0 _) (fun j v hv => memOf_cell ?_) hy⟩
        have h3 := hcell j v hv
        have e1 : ((⟨b, off, none⟩ : Addr).add (i * El.sz α)).add j = ⟨b, off + i * El.sz α + j, none⟩ := by
          unfold Addr.add; split <;> split <;> simp_all
        rw [e1] at h3; exact h3
      · cases hc
  have hfun : ∃ f : Fin len → α, ∀ i : Fin len, ∃ b off, a = ⟨b, off, none⟩ ∧ El.rep (memOf w) (fun j => (memOf w).cell b (off + (i : Nat) * El.sz α + j)) (f i) := Classical.axiomOfChoice hone
  obtain ⟨f, hf⟩ := hfun
  refine ⟨some a, cap, List.ofFn f, by simp, by simpa using hlc, hcm, fun i hi' => ?_⟩
  have hil : i < len := by simpa using hi'
  obtain ⟨b, off, ea, hr⟩ := hf ⟨i, hil⟩
  refine ⟨b, off, by rw [ea], ?_⟩
  rw [List.getElem_ofFn]
  exact hr
end

section
variable {P : Program} {t : TypeId}
theorem Reads.int (ht : P.underlying t = some (.int .i64)) (hc : P.cellsOf t = 1) : Reads P t Int := ⟨hc, Nat.one_pos, fun h => by
  obtain ⟨n, rfl, _, _⟩ := DataW.trod_int ht h
  exact ⟨n, rfl, rfl⟩⟩
theorem u8_of {n : Int} (h : (Lit.int .u8 n).wf = true) : ∃ b : UInt8, n = (b.toNat : Int) := by
  have e1 : IntKind.u8.min = 0 := rfl
  have e2 : IntKind.u8.max = 255 := rfl
  simp only [Lit.wf, e1, e2, Bool.and_eq_true, decide_eq_true_eq] at h
  refine ⟨UInt8.ofNat n.toNat, ?_⟩
  rw [UInt8.toNat_ofNat']; omega
theorem Reads.u8 (ht : P.underlying t = some (.int .u8)) (hc : P.cellsOf t = 1) : Reads P t UInt8 := ⟨hc, Nat.one_pos, fun h => by
  obtain ⟨n, rfl, _, hw⟩ := DataW.trod_int ht h
  obtain ⟨b, rfl⟩ := u8_of hw
  exact ⟨b, rfl, rfl⟩⟩
theorem Reads.string (ht : P.underlying t = some .string) (hc : P.cellsOf t = 1) : Reads P t ByteArray := ⟨hc, Nat.one_pos, fun h => by
  obtain ⟨n, rfl, _, _⟩ := DataW.trod_string ht h
  exact ⟨n, rfl, rfl⟩⟩
theorem Reads.bool (ht : P.underlying t = some .bool) (hc : P.cellsOf t = 1) : Reads P t Bool := ⟨hc, Nat.one_pos, fun h => by
  obtain ⟨n, rfl, _⟩ := DataW.trod_bool ht h
  exact ⟨n, rfl, rfl⟩⟩
instance {α : Type} [El α] : El (List α) := ⟨1, fun μ f x => ∃ ad c, f 0 = some (.slice ad x.length c) ∧ Sl μ ad c x, fun hm hf h => let ⟨ad, c, a, b⟩ := h; ⟨ad, c, hf _ _ a, b.mono hm⟩⟩
theorem Reads.slices {α : Type} [El α] {e : TypeId} (T : Reads P e α) (ht : P.underlying t = some (.slice e)) (hc : P.cellsOf t = 1) : Reads P t (List α) := ⟨hc, Nat.one_pos, fun h => by
  obtain ⟨ad, cap, xs, rfl, h2⟩ := Reads.slice T ht h
  exact ⟨xs, rfl, ad, cap, rfl, h2⟩⟩
end

section
variable {H : Type} {enc : TypeId × Value → H} {P : Program} {W : World} {base : Nat} {t e : TypeId} {v : Value} {d : DataW H} {p : List MemPlace} {spare : Nat → Bool} {held : Bool} {r : Reach}
/-- A struct or an array, by value, of two cells or more. -/
theorem agg_of {v : Value} {l : List Value} (h : v.cells.toList = l) (h2 : 2 ≤ l.length) : v = .agg l.toArray := by
  cases v with
  | agg a => simp only [Value.cells] at h; rw [← h]
  | _ => simp [Value.cells] at h; rw [← h] at h2; simp at h2
theorem Reads.val {α : Type} [El α] (T : Reads P t α) (h2 : 2 ≤ El.sz α) (h : DataW.Trod enc P W 0 spare held t v d p) : ∃ (x : α) (l : List Value), v = .agg l.toArray ∧ l.length = El.sz α ∧ El.rep (memOf W) (fun j => l[j]?) x := by
  obtain ⟨fuel, hf⟩ := h
  obtain ⟨x, hl, hr⟩ := T.read hf
  exact ⟨x, _, agg_of rfl (by rw [hl]; exact h2), hl, hr⟩
end

/-! ### What a law hands back -/
theorem below_all {H : Type} {enc : TypeId × Value → H} {P : Program} (hl : laidOutB P = true) {W W' : World} (hb : Below W.heap.size W W') : ∀ {ts : List TypeId} {vs : List Value} {ds : List (DataW H)} {ps : List MemPlace}, ts.all (fun t => P.readableRec t && decide (t < P.types.size)) = true →
    DataW.TrodAll enc P W 0 (fun _ => true) true ts vs ds ps → (∀ x ∈ ps, x.block < W.heap.size) → DataW.TrodAll enc P W' 0 (fun b => decide (b < W.heap.size)) true ts vs ds ps
  | [], [], [], _, _, h, _ => h
  | t :: ts, v :: vs, d :: ds, ps, hr, h, hlt => by
    obtain ⟨p, q, h1, h2, rfl⟩ := h
    simp only [List.all_cons, Bool.and_eq_true, decide_eq_true_eq] at hr
    exact ⟨p, q, Below.trod hl hr.1.1 hr.1.2 h1 hb (fun x hx => hlt x (List.mem_append_left _ hx)), below_all hl hb hr.2 h2 (fun x hx => hlt x (List.mem_append_right _ hx)), rfl⟩
  | [], _ :: _, _, _, _, h, _ => h.elim
  | [], [], _ :: _, _, _, h, _ => h.elim
  | _ :: _, [], _, _, _, h, _ => h.elim
  | _ :: _, _ :: _, [], _, _, h, _ => h.elim

/-- A law's end: it answers true, and what was there is as it was. -/
theorem law_post {H : Type} {enc : TypeId × Value → H} {P : Program} {f : Func} {s : ChangeSpec} {W W' : World} {args : Array Value} {ds : List (DataW H)} {before : List MemPlace} {tb : TypeId} (hl : laidOutB P = true)
    (hW : DataW.Whole enc P f.params.toList s.vars false W args.toList ds [] before) (hvars : s.vars = []) (hr : f.params.toList.all (fun t => P.readableRec t && decide (t < P.types.size)) = true)
    (hres : f.resultTypes = #[tb]) (ht : P.underlying tb = some .bool) (h1 : (s.fn H (ds ++ [])).results = [.lit (.bool true)]) (h2 : (s.fn H (ds ++ [])).args = ds) (h3 : (s.fn H (ds ++ [])).vars = []) (hb : Below W.heap.size W W') :
    s.post enc P f false true false false W args (.bool true) W' := by
  have hlt := hW.lt
  have hW0 := hW
  obtain ⟨p, q, hA, hV, rfl, _, _⟩ := hW
  rw [hvars] at hV
  obtain ⟨_, rfl⟩ := trodVars_none hV
  refine ⟨ds, [], _, [], p, [], hW0, ?_, ?_, ?_, hb.frame _, fun h => by cases h⟩
  · rw [hres, h1]
    exact trodAll_mk1 (shut_bool ht true)
  · rw [h2]
    exact below_all hl hb hr hA (fun x hx => by simpa using hlt x (List.mem_append_left _ hx))
  · rw [hvars, h3]; rfl
end Go.Proofs.Ytgbdfgifgngijaa.Sy
