/-
  Function values with first arguments; slices from one place to another; slices of arrays; clear.
-/
import Derived.Test.YtgnpjhellmfhoaaWk
namespace Go.Proofs.Ytgnpjhellmfhoaa.Sy
open Go.RowKit

theorem Ex.makeFuncF {P : Program} {m : List (Nat × Value)} {S : World → Prop} {f : FuncId} {fs caps : List Operand} {us vs : List Value} (hu : evs m fs = some us) (hv : evs m caps = some vs) : Ex P S m (.makeFunc (.func f) fs.toArray caps.toArray) (.func (.func f) us.toArray vs.toArray) := fun ρ ha w _ o ho => by
  have e := evs_map ha hv
  have e2 := evs_map ha hu
  simp [execOp, ho, Instr.makeFunc, e, e2, go_sem]

section
variable {P : Program} {m : List (Nat × Value)} {w : World} {Φ : Value → World → Prop}
theorem Hv.callF {o' : Call} {c : Operand} {as : List Operand} {ats : Array TypeId} {f : FuncId} {fs : List Value} {cap : Array Value} {args : List Value} (ho' : o' = { callee := .value c, args := as.toArray, argTypes := ats })
    (hc : ev m c = some (.func (.func f) fs.toArray cap)) (has : evs m as = some args) (hf : Callable P f)
    (hC : Calls P f (fs ++ (args ++ cap.toList)).toArray w fun e w' => ∃ v, e = .returned v ∧ Φ v w') : Hv P m (.call o') w Φ :=
  .of_call (fun ρ ha o ho => by
    subst ho'
    have e1 : as.map ρ = args := evs_map ha has
    have e2 : (fs ++ (args ++ cap.toList)).toArray = (fs.toArray ++ args.toArray ++ cap) := by simp
    simp only [execOp, ho, resolve, Deferred.ofValue, invoke, Sem.run_bind, Sem.run_pure, Result.andThen_ok, ha _ _ hc, List.map_toArray, e1]
    rw [e2]
    have := hf.run (fs.toArray ++ args.toArray ++ cap) w
    simpa using this) hC
theorem Hv.callFS {o' : Call} {c : Operand} {as : List Operand} {ats : Array TypeId} {f : FuncId} {fs : List Value} {cap : Array Value} {args : List Value} {w0 : World} {μ : Mem} {L : List Own} {v : Value} (hS : St w0 w μ L)
    (ho' : o' = { callee := .value c, args := as.toArray, argTypes := ats }) (hc : ev m c = some (.func (.func f) fs.toArray cap)) (has : evs m as = some args) (hf : Callable P f)
    (hC : Calls P f (fs ++ (args ++ cap.toList)).toArray w (RetS w v)) : Hv P m (.call o') w (fun u w' => u = v ∧ St w0 w' μ L) :=
  Hv.callF ho' hc has hf (hC.mono fun _ _ ⟨he, hb⟩ => ⟨v, he, rfl, hS.grow hb⟩)
end

namespace Ex
variable {P : Program} {S : World → Prop} {m : List (Nat × Value)} {t t' : TypeId} {x y y2 : Operand} {d : TypeDesc} {z : Value} {by_ sz : Nat}
/-- s[i:j] -/
theorem sliceLH {e : TypeId} {ad : Option Addr} {l c' i j : Nat} {k k2 : IntKind} {p q : Int} (ht : P.underlying t = some (.slice e)) (he : TI P e d z sz by_) (hx : ev m x = some (.slice ad l c')) (hy : ev m y = some (.int k p)) (hy2 : ev m y2 = some (.int k2 q)) (hp : p = (i : Int)) (hq : q = (j : Int)) (hi : i ≤ j) (hj : j ≤ c') :
    Ex P S m (.slice t x (some y) (some y2) none) (.slice (if c' = i then ad else ad.map (·.add (i * sz))) (j - i) (c' - i)) := fun ρ ha w _ o ho => by
  subst hp; subst hq
  have e1 : (Go.underlying t).run P w = .ok (.slice e) w := by simp [Go.underlying, program, Sem.run, ht, go_sem]
  have e2 := he.sizeOf w
  have h1 : (i : Int) ≤ (j : Int) := by omega
  have h2 : (j : Int) ≤ (c' : Int) := by omega
  have e4 : (Instr.sliceBound (.int k (i : Int)) j .sliceB).run P w = .ok i w := by simp [Instr.sliceBound, asIntOf, h1, go_sem]
  have e5 : (Instr.sliceBound (.int k2 (j : Int)) c' .sliceAcap).run P w = .ok j w := by simp [Instr.sliceBound, asIntOf, h2, go_sem]
  simp only [execOp, ho, ha _ _ hx, ha _ _ hy, ha _ _ hy2, Option.map_some, Option.map_none, Instr.sliceAt, Instr.slice, Instr.sliceBounds, Sem.run_bind, e1, Result.andThen_ok, Sem.run_pure, Option.isSome_none, Bool.false_eq_true, if_false, if_true, e4, e5, e2]
theorem neqB {p q b : Bool} (ht : P.underlying t = some .bool) (hx : ev m x = some (.bool p)) (hy : ev m y = some (.bool q)) (hr : (p != q) = b) : Ex P S m (.binOp .neq t x y t') (.bool b) := fun ρ ha w _ o ho => by
  subst hr; cases p <;> cases q <;> simp [execOp, ho, ha _ _ hx, ha _ _ hy, eqGuard, binOp, equal_bool ht, go_sem]
/-- s[i:j], of a string -/
theorem sliceStr {s : ByteArray} {i j : Nat} {k k2 : IntKind} {p q : Int} (ht : P.underlying t = some .string) (hx : ev m x = some (.string s)) (hy : ev m y = some (.int k p)) (hy2 : ev m y2 = some (.int k2 q)) (hp : p = (i : Int)) (hq : q = (j : Int)) (hi : i ≤ j) (hj : j ≤ s.size) :
    Ex P S m (.slice t x (some y) (some y2) none) (.string (s.extract i j)) := fun ρ ha w _ o ho => by
  subst hp; subst hq
  have e1 : (Go.underlying t).run P w = .ok .string w := by simp [Go.underlying, program, Sem.run, ht, go_sem]
  have h1 : (i : Int) ≤ (j : Int) := by omega
  have h2 : (j : Int) ≤ (s.size : Int) := by omega
  have e4 : (Instr.sliceBound (.int k (i : Int)) j .sliceB).run P w = .ok i w := by simp [Instr.sliceBound, asIntOf, h1, go_sem]
  have e5 : (Instr.sliceBound (.int k2 (j : Int)) s.size .sliceAlen).run P w = .ok j w := by simp [Instr.sliceBound, asIntOf, h2, go_sem]
  simp [execOp, ho, ha _ _ hx, ha _ _ hy, ha _ _ hy2, Instr.sliceAt, Instr.slice, Instr.sliceBounds, e1, e4, e5, go_sem]
  intro h; omega
/-- a[:], of an array -/
theorem sliceArr {e : TypeId} {n : Nat} {b off : Nat} (ht : P.underlying t = some (.array n e)) (he : TI P e d z sz by_) (hx : ev m x = some (.pointer (some ⟨b, off, none⟩))) :
    Ex P S m (.slice t x none none none) (.slice (some ⟨b, off, none⟩) n n) := fun ρ ha w _ o ho => by
  have e1 : (Go.underlying t).run P w = .ok (.array n e) w := by simp [Go.underlying, program, Sem.run, ht, go_sem]
  have e2 := he.sizeOf w
  have e3 : (if n = 0 then (⟨b, off, none⟩ : Addr) else (⟨b, off, none⟩ : Addr).add (0 * sz)) = ⟨b, off, none⟩ := by
    split
    · rfl
    · unfold Addr.add; split <;> simp_all
  simp only [execOp, ho, ha _ _ hx, Option.map_none, Instr.sliceAt, Instr.sliceBounds, Instr.sureAddr, Sem.run_bind, e1, Result.andThen_ok, Sem.run_pure, Option.isSome_none, e2, Nat.sub_zero, e3]
end Ex

/-- A part of a slice of immutable memory. -/
theorem Sl.part {α : Type} [El α] {μ : Mem} {ad : Option Addr} {c : Nat} {xs : List α} (h : Sl μ ad c xs) {i j : Nat} (hij : i ≤ j) (hj : j ≤ xs.length) : ∃ ys : List α, ys = (xs.drop i).take (j - i) ∧ ys.length = j - i ∧ Sl μ (if c = i then ad else ad.map (·.add (i * El.sz α))) (c - i) ys := by
  have hl : ((xs.drop i).take (j - i)).length = j - i := by rw [List.length_take, List.length_drop]; omega
  refine ⟨_, rfl, hl, ⟨by rw [hl]; have := h.1; omega, by have := h.2.1; omega, fun k hk => ?_⟩⟩
  rw [hl] at hk
  have hk' : i + k < xs.length := by omega
  obtain ⟨b, off, e, hr⟩ := h.2.2 (i + k) hk'
  have hc : ¬ c = i := by have := h.1; omega
  refine ⟨b, off + i * El.sz α, ?_, ?_⟩
  · rw [if_neg hc, e]
    simp only [Option.map_some, Option.some.injEq]
    unfold Addr.add; split <;> simp_all
  · rw [List.getElem_take, List.getElem_drop]
    rw [Nat.add_mul, ← Nat.add_assoc] at hr
    exact hr

/-- clear of the end of a slice of the call's own, opened. -/
theorem run_storeCells_at {P : Program} {b : Nat} {E : TypeId} {w0 : World} {μ : Mem} {L : List Own} {k o : Nat} : ∀ (vs cs : List Value) (i : Nat) (w : World), St w0 w μ L → L[k]? = some (Own.obj b cs E) → o + i + vs.length ≤ cs.length → (∀ v ∈ vs, v.oneCell' = true) →
    ∃ w', (storeCells ⟨b, o, none⟩ vs i).run P w = .ok () w' ∧ St w0 w' μ (L.set k (Own.obj b (cs.take (o + i) ++ vs ++ cs.drop (o + i + vs.length)) E))
  | [], cs, i, w, hS, hk, _, _ => ⟨w, by simp [storeCells, go_sem], by
      have e : cs.take (o + i) ++ [] ++ cs.drop (o + i + ([] : List Value).length) = cs := by simp
      rw [e, set_same hk]; exact hS⟩
  | v :: r, cs, i, w, hS, hk, hl, h1 => by
    simp only [List.length_cons] at hl
    have hi : o + i < cs.length := by omega
    obtain ⟨bs, _, hb⟩ := hS.rd.get hk
    have hc : w.cell? ⟨b, o + i, none⟩ = some (cs[o + i]) := by rw [cell_of_heap hb]; simp [hi]
    have hf : w.frozen? ⟨b, o + i, none⟩ = false := by have hb' : w.heap[b]? = some (.cells cs.toArray E (0, 0)) := hb; simp [World.frozen?, hb']
    have hadd : (⟨b, o, none⟩ : Addr).add i = ⟨b, o + i, none⟩ := by unfold Addr.add; split <;> simp_all
    have hS1 := hS.set_obj hk (o + i) v
    obtain ⟨hkl, _⟩ := List.getElem?_eq_some_iff.1 hk
    obtain ⟨w', hr, hS'⟩ := run_storeCells_at (P := P) (o := o) r (cs.set (o + i) v) (i + 1) _ hS1 (by rw [List.getElem?_set_self hkl]) (by simp; omega) fun u hu => h1 u (List.mem_cons_of_mem _ hu)
    refine ⟨w', ?_, ?_⟩
    · simp only [storeCells, Sem.run_bind, hadd, store]
      rw [Sem.run_store1 (h1 v (List.mem_cons_self ..)) hc hf]
      simp only [Go.Sem.run, Result.andThen_ok, hr]
    · rw [List.set_set] at hS'
      have e : (cs.set (o + i) v).take (o + (i + 1)) ++ r ++ (cs.set (o + i) v).drop (o + (i + 1) + r.length) = cs.take (o + i) ++ v :: r ++ cs.drop (o + i + (r.length + 1)) := by
        rw [List.take_set, List.drop_set]
        have : (cs.take (o + (i + 1))).set (o + i) v = cs.take (o + i) ++ [v] := by
          rw [← Nat.add_assoc, List.take_succ_eq_append_getElem hi, List.set_append_right _ _ (by simp; omega)]
          simp [Nat.min_eq_left (Nat.le_of_lt hi)]
        rw [this]
        simp [show o + (i + 1) + r.length = o + i + (r.length + 1) by omega]
      rw [e] at hS'
      exact hS'
theorem Hv.clearObj {P : Program} {m : List (Nat × Value)} {w : World} {t E E' : TypeId} {x : Operand} {w0 : World} {μ : Mem} {L : List Own} {o' : Call} {k b off n c : Nat} {d : TypeDesc} {z : Value} {sz by_ : Nat} {cs vs : List Value}
    (ho' : o' = { callee := .builtin .clear, args := #[x], argTypes := #[t] }) (ht : P.underlying t = some (.slice E)) (hE : TI P E d z sz by_) (hvs : (Builtin.zeroCells z.cells n).toList = vs) (hl : off + vs.length ≤ cs.length) (h1 : ∀ v ∈ vs, v.oneCell' = true) (hn : 0 < n)
    (hS : St w0 w μ L) (hk : L[k]? = some (Own.obj b cs E')) (hx : ev m x = some (.slice (some ⟨b, off, none⟩) n c)) :
    Hv P m (.call o') w (fun u w' => u = .tuple #[] ∧ St w0 w' μ (L.set k (Own.obj b (cs.take off ++ vs ++ cs.drop (off + vs.length)) E'))) :=
  .of_run fun ρ ha o ho => by
    subst ho'
    obtain ⟨w', hr, hS'⟩ := run_storeCells_at (P := P) (o := off) vs cs 0 w hS hk (by omega) h1
    have e1 : (Go.underlying t).run P w = .ok (.slice E) w := by simp [Go.underlying, program, Sem.run, ht, go_sem]
    have e2 := hE.zeroValue w
    refine ⟨_, w', ?_, rfl, hS'⟩
    obtain ⟨n, rfl⟩ : ∃ n', n = n' + 1 := ⟨n - 1, by omega⟩
    simp only [execOp, ho, resolve, invoke, builtin, Builtin.clear_, Sem.run_bind, Sem.run_pure, Result.andThen_ok, List.map_toArray, List.map_cons, List.map_nil, ha _ _ hx, List.getElem?_toArray, List.getElem?_cons_zero, e1, e2, hvs, hr]

/-- A store of a whole struct at a place of a slice of the call's own. -/
theorem run_storeCells_sl {P : Program} {g l c : Nat} {E : TypeId} {sz : Nat} {w0 : World} {μ : Mem} {L : List Own} {k o : Nat} : ∀ (vs us : List Value) (i : Nat) (w : World), St w0 w μ L → L[k]? = some (Own.sl (some ⟨g, 0, none⟩) l c E sz us) → o + i + vs.length ≤ us.length → (∀ v ∈ vs, v.oneCell' = true) →
    ∃ w', (storeCells ⟨g, o, none⟩ vs i).run P w = .ok () w' ∧ St w0 w' μ (L.set k (Own.sl (some ⟨g, 0, none⟩) l c E sz (us.take (o + i) ++ vs ++ us.drop (o + i + vs.length))))
  | [], us, i, w, hS, hk, _, _ => ⟨w, by simp [storeCells, go_sem], by
      have e : us.take (o + i) ++ [] ++ us.drop (o + i + ([] : List Value).length) = us := by simp
      rw [e, set_same hk]; exact hS⟩
  | v :: r, us, i, w, hS, hk, hl, h1 => by
    simp only [List.length_cons] at hl
    have hi : o + i < us.length := by omega
    have hc : w.cell? ⟨g, o + i, none⟩ = some (us[o + i]) := Rd.sl hk (List.getElem?_eq_getElem hi) w hS.rd
    have hf : w.frozen? ⟨g, o + i, none⟩ = false := by
      obtain ⟨bs, _, hb⟩ := hS.rd.get hk
      rcases hb with ⟨hb, _⟩ | ⟨g', cur, hg, _, hh, _⟩
      · cases hb
      · cases hg
        have hb' : w.heap[g]? = some (.cells cur E (0, 0)) := hh
        simp [World.frozen?, hb']
    have hadd : (⟨g, o, none⟩ : Addr).add i = ⟨g, o + i, none⟩ := by unfold Addr.add; split <;> simp_all
    have hS1 := hS.set_sl hk (o + i) v
    obtain ⟨hkl, _⟩ := List.getElem?_eq_some_iff.1 hk
    obtain ⟨w', hr, hS'⟩ := run_storeCells_sl (P := P) (o := o) r (us.set (o + i) v) (i + 1) _ hS1 (by rw [List.getElem?_set_self hkl]) (by simp; omega) fun u hu => h1 u (List.mem_cons_of_mem _ hu)
    refine ⟨w', ?_, ?_⟩
    · simp only [storeCells, Sem.run_bind, hadd, store]
      rw [Sem.run_store1 (h1 v (List.mem_cons_self ..)) hc hf]
      simp only [Go.Sem.run, Result.andThen_ok, hr]
    · rw [List.set_set] at hS'
      have e : (us.set (o + i) v).take (o + (i + 1)) ++ r ++ (us.set (o + i) v).drop (o + (i + 1) + r.length) = us.take (o + i) ++ v :: r ++ us.drop (o + i + (r.length + 1)) := by
        rw [List.take_set, List.drop_set]
        have : (us.take (o + (i + 1))).set (o + i) v = us.take (o + i) ++ [v] := by
          rw [← Nat.add_assoc, List.take_succ_eq_append_getElem hi, List.set_append_right _ _ (by simp; omega)]
          simp [Nat.min_eq_left (Nat.le_of_lt hi)]
        rw [this]
        simp [show o + (i + 1) + r.length = o + i + (r.length + 1) by omega]
      rw [e] at hS'
      exact hS'
theorem Hv.storeSlN {P : Program} {m : List (Nat × Value)} {w : World} {t E : TypeId} {d : TypeDesc} {z : Value} {by_ k g off l c sz : Nat} {x y : Operand} {w0 : World} {μ : Mem} {L : List Own} {us vs : List Value} (ht : TI P t d z vs.length by_) (hS : St w0 w μ L) (hk : L[k]? = some (Own.sl (some ⟨g, 0, none⟩) l c E sz us))
    (hx : ev m x = some (.pointer (some ⟨g, off, none⟩))) (hy : ev m y = some (.agg vs.toArray)) (hl : off + vs.length ≤ us.length) (hv : ∀ v ∈ vs, v.oneCell' = true) :
    Hv P m (.store t x y) w (fun _ w' => St w0 w' μ (L.set k (Own.sl (some ⟨g, 0, none⟩) l c E sz (us.take off ++ vs ++ us.drop (off + vs.length))))) :=
  .of_skip fun ρ ha o ho => by
    obtain ⟨w', hr, hS'⟩ := run_storeCells_sl (P := P) (o := off) vs us 0 w hS hk (by omega) hv
    refine ⟨w', ?_, hS'⟩
    have e2 := ht.sizeOf w
    simp only [execOp, ho, ha _ _ hx, ha _ _ hy, Instr.storeAt, Instr.sureAddr, storeVar, Value.cells, List.size_toArray, Sem.run_bind, Sem.run_pure, Result.andThen_ok, e2, ne_eq, not_true_eq_false, if_false, hr]
theorem flatMap_set {α : Type} {enc : α → List Value} {k : Nat} (hk : ∀ x, (enc x).length = k) : ∀ (xs : List α) (i : Nat) (y : α), i < xs.length → (xs.flatMap enc).take (i * k) ++ enc y ++ (xs.flatMap enc).drop (i * k + k) = (xs.set i y).flatMap enc
  | [], i, y, h => absurd h (Nat.not_lt_zero _)
  | x :: r, 0, y, _ => by
    have h := hk x
    simp only [Nat.zero_mul, List.take_zero, List.nil_append, Nat.zero_add, List.set_cons_zero, List.flatMap_cons]
    rw [List.drop_append, h, Nat.sub_self, List.drop_zero, List.drop_of_length_le (by omega), List.nil_append]
  | x :: r, i + 1, y, h => by
    have hx := hk x
    have ih := flatMap_set hk r i y (by simpa using h)
    have e1 : (i + 1) * k = k + i * k := by rw [Nat.add_mul, Nat.one_mul, Nat.add_comm]
    rw [List.set_cons_succ, List.flatMap_cons, List.flatMap_cons, ← ih, e1, List.take_append, List.drop_append, hx, List.take_of_length_le (by omega), List.drop_of_length_le (by omega), Nat.add_sub_cancel_left, show k + i * k + k - k = i * k + k by omega]
    simp [List.append_assoc]
theorem flat2 {α : Type} {enc : α → List Value} {k : Nat} (hk : ∀ x, (enc x).length = k) (xs : List α) (i j : Nat) (hi : i < xs.length) (hj : j < k) {v : Value} (hv : (enc xs[i])[j]? = some v) : (xs.flatMap enc)[i * k + j]? = some v := by
  induction xs generalizing i with
  | nil => exact absurd hi (Nat.not_lt_zero _)
  | cons x r ih =>
    have hx := hk x
    rw [List.flatMap_cons]
    cases i with
    | zero => rw [Nat.zero_mul, Nat.zero_add, List.getElem?_append_left (by omega)]; exact hv
    | succ i => rw [List.getElem?_append_right (by rw [Nat.add_mul]; omega), hx, show (i + 1) * k + j - k = i * k + j by rw [Nat.add_mul]; omega]; exact ih i (by simpa using hi) hv
theorem flat_setc {α : Type} {enc : α → List Value} {k : Nat} (hk : ∀ x, (enc x).length = k) : ∀ (xs : List α) (i j : Nat) (v : Value) (y : α) (hi : i < xs.length), j < k → enc y = (enc xs[i]).set j v → (xs.flatMap enc).set (i * k + j) v = (xs.set i y).flatMap enc
  | [], i, _, _, _, h, _, _ => absurd h (Nat.not_lt_zero _)
  | x :: r, 0, j, v, y, _, hj, he => by
    have h := hk x
    simp only [List.getElem_cons_zero] at he
    rw [Nat.zero_mul, Nat.zero_add, List.set_cons_zero, List.flatMap_cons, List.flatMap_cons, he, List.set_append_left _ _ (by omega)]
  | x :: r, i + 1, j, v, y, hi, hj, he => by
    have h := hk x
    have ih := flat_setc hk r i j v y (by simpa using hi) hj (by simpa using he)
    rw [List.set_cons_succ, List.flatMap_cons, List.flatMap_cons, ← ih, show (i + 1) * k + j = k + (i * k + j) by rw [Nat.add_mul]; omega, List.set_append_right _ _ (by omega), h, Nat.add_sub_cancel_left]
end Go.Proofs.Ytgnpjhellmfhoaa.Sy
