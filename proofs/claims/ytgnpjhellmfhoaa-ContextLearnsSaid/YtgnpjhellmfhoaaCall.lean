/-
  Calls; loads and stores of whole structs.
-/
import Derived.Test.YtgnpjhellmfhoaaOwn
namespace Go.Proofs.Ytgnpjhellmfhoaa.Sy
open Go.RowKit

def evs (m : List (Nat × Value)) : List Operand → Option (List Value)
  | [] => some []
  | x :: r => match ev m x, evs m r with
    | some v, some l => some (v :: l)
    | _, _ => none
theorem evs_map {m : List (Nat × Value)} {ρ : Operand → Value} (h : Ev m ρ) : ∀ {l : List Operand} {vs : List Value}, evs m l = some vs → l.map ρ = vs
  | [], _, e => by simpa [evs] using e
  | x :: r, vs, e => by
    simp only [evs] at e
    cases h1 : ev m x with
    | none => rw [h1] at e; cases e
    | some v =>
      cases h2 : evs m r with
      | none => rw [h1, h2] at e; cases e
      | some l =>
        rw [h1, h2] at e
        obtain rfl := Option.some.inj e
        rw [List.map_cons, h x v h1, evs_map h h2]

/-- The parts of a literal. -/
def evp (m : List (Nat × Value)) : List (Nat × Operand) → Option (List (Nat × Value))
  | [] => some []
  | (i, x) :: r => match ev m x, evp m r with
    | some v, some l => some ((i, v) :: l)
    | _, _ => none
theorem evp_map {m : List (Nat × Value)} {ρ : Operand → Value} (h : Ev m ρ) : ∀ {l : List (Nat × Operand)} {vs : List (Nat × Value)}, evp m l = some vs → (l.map fun p => (p.1, ρ p.2)) = vs
  | [], _, e => by simpa [evp] using e
  | (i, x) :: r, vs, e => by
    simp only [evp] at e
    cases h1 : ev m x with
    | none => rw [h1] at e; cases e
    | some v =>
      cases h2 : evp m r with
      | none => rw [h1, h2] at e; cases e
      | some l =>
        rw [h1, h2] at e
        obtain rfl := Option.some.inj e
        rw [List.map_cons, h x v h1, evp_map h h2]

/-- A function of the program that may be entered. -/
def Callable (P : Program) (f : FuncId) : Prop := ∃ fn, P.funcs[f]? = some fn ∧ (fn.name == "runtime.NumGoroutine") = false ∧ fn.body.isNone = false
theorem Callable.run {P : Program} {f : FuncId} (h : Callable P f) (args : Array Value) (w : World) : (callFunc f args).run P w = .ok (.enter f args) w := by
  obtain ⟨fn, h1, h2, h3⟩ := h
  have h2' : fn.name ≠ "runtime.NumGoroutine" := by simpa using h2
  have h3' : fn.body ≠ none := by intro e; rw [e] at h3; cases h3
  simp [callFunc, program, Sem.run, h1, h2', h3', go_sem]

section
variable {P : Program} {m : List (Nat × Value)} {w : World} {Φ : Value → World → Prop}

theorem Hv.call {o' : Call} {c : Operand} {as : List Operand} {ats : Array TypeId} {f : FuncId} {cap : Array Value} {args : List Value} (ho' : o' = { callee := .value c, args := as.toArray, argTypes := ats })
    (hc : ev m c = some (.func (.func f) #[] cap)) (has : evs m as = some args) (hf : Callable P f)
    (hC : Calls P f (args ++ cap.toList).toArray w fun e w' => ∃ v, e = .returned v ∧ Φ v w') : Hv P m (.call o') w Φ :=
  .of_call (fun ρ ha o ho => by
    subst ho'
    have e1 : as.map ρ = args := evs_map ha has
    have e2 : (args ++ cap.toList).toArray = (args.toArray ++ cap) := by simp
    simp only [execOp, ho, resolve, Deferred.ofValue, invoke, Sem.run_bind, Sem.run_pure, Result.andThen_ok, ha _ _ hc, List.map_toArray, e1]
    rw [e2]
    have := hf.run (args.toArray ++ cap) w
    simpa using this) hC

/-- A literal of a struct: what the run builds is told by a closed fact. -/
theorem Ex.build {S : World → Prop} {t : TypeId} {parts : List (Nat × Operand)} {ps : List (Nat × Value)} {v : Value} (hps : evp m parts = some ps) (hrun : ∀ w, (Instr.build t ps.toArray).run P w = .ok v w) :
    Ex P S m (.build t parts.toArray) v := fun ρ ha w _ o ho => by
  have e : (parts.toArray.map fun p => (p.1, ρ p.2)) = ps.toArray := by rw [List.map_toArray, evp_map ha hps]
  have h2 : (execOp ρ o) = (Instr.build t (parts.toArray.map fun p => (p.1, ρ p.2)) >>= fun v => pure (Next.value v)) := by simp only [execOp, ho]
  rw [h2, e, Sem.run_bind, hrun w]; rfl

theorem Ex.makeFunc {S : World → Prop} {f : FuncId} {caps : List Operand} {vs : List Value} (hv : evs m caps = some vs) : Ex P S m (.makeFunc (.func f) #[] caps.toArray) (.func (.func f) #[] vs.toArray) := fun ρ ha w _ o ho => by
  have e := evs_map ha hv
  simp [execOp, ho, Instr.makeFunc, e, go_sem]

theorem run_loadCells {a : Addr} : ∀ (vs : List Value) (i : Nat) (acc : Array Value) (w : World), (∀ j v, vs[j]? = some v → w.cell? (a.add (i + j)) = some v) → (loadCellsFrom a i vs.length acc).run P w = .ok (acc ++ vs.toArray) w
  | [], _, acc, w, _ => by simp [loadCellsFrom, go_sem]
  | v :: r, i, acc, w, h => by
    have h0 := h 0 v rfl
    simp only [Nat.add_zero] at h0
    have ih := run_loadCells r (i + 1) (acc.push v) w fun j u hu => by have := h (j + 1) u (by simpa using hu); rwa [show i + 1 + j = i + (j + 1) by omega]
    simp only [loadCellsFrom, List.length_cons, Sem.run_bind]
    simp only [load, Go.Sem.run, h0, Result.andThen_ok, ih]
    simp

theorem Ex.loadN {S : World → Prop} {t : TypeId} {d : TypeDesc} {z : Value} {by_ : Nat} {x : Operand} {b off : Nat} (vs : List Value) (ht : TI P t d z vs.length by_) (hd : aggD d = true) (hx : ev m x = some (.pointer (some ⟨b, off, none⟩)))
    (hc : ∀ w, S w → ∀ j v, vs[j]? = some v → w.cell? ⟨b, off + j, none⟩ = some v) : Ex P S m (.load t x) (.agg vs.toArray) := fun ρ ha w hS o ho => by
  have e1 := ht.isAgg w
  rw [hd] at e1
  have e2 := ht.sizeOf w
  have hadd : ∀ j, (⟨b, off, none⟩ : Addr).add j = ⟨b, off + j, none⟩ := fun j => by unfold Addr.add; split <;> simp_all
  have e3 := run_loadCells (P := P) (a := ⟨b, off, none⟩) vs 0 #[] w fun j v hv => by rw [hadd, Nat.zero_add]; exact hc w hS j v hv
  simp only [execOp, ho, ha _ _ hx, Instr.loadAt, Instr.sureAddr, loadVar, loadCells, Sem.run_bind, Sem.run_pure, Result.andThen_ok, e1, e2, e3, if_true]
  simp

/-- A store of a whole struct into a variable of the call's own: its cells from 0 on. -/
theorem run_storeCells_obj {b : Nat} {E : TypeId} {w0 : World} {μ : Mem} {L : List Own} {k : Nat} : ∀ (vs cs : List Value) (i : Nat) (w : World), St w0 w μ L → L[k]? = some (Own.obj b cs E) → i + vs.length ≤ cs.length → (∀ v ∈ vs, v.oneCell' = true) →
    ∃ w', (storeCells ⟨b, 0, none⟩ vs i).run P w = .ok () w' ∧ St w0 w' μ (L.set k (Own.obj b (cs.take i ++ vs ++ cs.drop (i + vs.length)) E))
  | [], cs, i, w, hS, hk, _, _ => ⟨w, by simp [storeCells, go_sem], by
      have e : cs.take i ++ [] ++ cs.drop (i + ([] : List Value).length) = cs := by simp
      rw [e]
      have : L.set k (Own.obj b cs E) = L := by
        apply List.ext_getElem?
        intro j
        by_cases hj : k = j
        · subst hj
          obtain ⟨hlt, hx⟩ := List.getElem?_eq_some_iff.1 hk
          rw [List.getElem?_set_self hlt, hk]
        · rw [List.getElem?_set_ne hj]
      rw [this]; exact hS⟩
  | v :: r, cs, i, w, hS, hk, hl, h1 => by
    simp only [List.length_cons] at hl
    have hi : i < cs.length := by omega
    obtain ⟨bs, _, hb⟩ := hS.rd.get hk
    have hc : w.cell? ⟨b, i, none⟩ = some (cs[i]) := by rw [cell_of_heap hb]; simp [hi]
    have hf : w.frozen? ⟨b, i, none⟩ = false := by have hb' : w.heap[b]? = some (.cells cs.toArray E (0, 0)) := hb; simp [World.frozen?, hb']
    have hadd : (⟨b, 0, none⟩ : Addr).add i = ⟨b, i, none⟩ := by unfold Addr.add; split <;> simp_all
    have hS1 := hS.set_obj hk i v
    obtain ⟨hkl, _⟩ := List.getElem?_eq_some_iff.1 hk
    obtain ⟨w', hr, hS'⟩ := run_storeCells_obj r (cs.set i v) (i + 1) _ hS1 (by rw [List.getElem?_set_self hkl]) (by simp; omega) fun u hu => h1 u (List.mem_cons_of_mem _ hu)
    refine ⟨w', ?_, ?_⟩
    · simp only [storeCells, Sem.run_bind, hadd, store]
      rw [Sem.run_store1 (h1 v (List.mem_cons_self ..)) hc hf]
      simp only [Go.Sem.run, Result.andThen_ok, hr]
    · rw [List.set_set] at hS'
      have e : (cs.set i v).take (i + 1) ++ r ++ (cs.set i v).drop (i + 1 + r.length) = cs.take i ++ v :: r ++ cs.drop (i + (r.length + 1)) := by
        rw [List.take_set, List.drop_set]
        have : (cs.take (i + 1)).set i v = cs.take i ++ [v] := by
          rw [List.take_succ_eq_append_getElem hi, List.set_append_right _ _ (by simp; omega)]
          simp [Nat.min_eq_left (Nat.le_of_lt hi)]
        rw [this]
        simp [show i + 1 + r.length = i + (r.length + 1) by omega]
      rw [e] at hS'
      exact hS'

theorem Hv.storeN {t E : TypeId} {d : TypeDesc} {z : Value} {by_ k b : Nat} {x y : Operand} {w0 : World} {μ : Mem} {L : List Own} {cs vs : List Value} (ht : TI P t d z vs.length by_) (hS : St w0 w μ L) (hk : L[k]? = some (Own.obj b cs E))
    (hx : ev m x = some (.pointer (some ⟨b, 0, none⟩))) (hy : ev m y = some (.agg vs.toArray)) (hl : cs.length = vs.length) (hv : ∀ v ∈ vs, v.oneCell' = true) :
    Hv P m (.store t x y) w (fun _ w' => St w0 w' μ (L.set k (Own.obj b vs E))) :=
  .of_skip fun ρ ha o ho => by
    obtain ⟨w', hr, hS'⟩ := run_storeCells_obj (P := P) vs cs 0 w hS hk (by omega) hv
    refine ⟨w', ?_, ?_⟩
    · have e2 := ht.sizeOf w
      simp only [execOp, ho, ha _ _ hx, ha _ _ hy, Instr.storeAt, Instr.sureAddr, storeVar, Value.cells, List.size_toArray, Sem.run_bind, Sem.run_pure, Result.andThen_ok, e2, ne_eq, not_true_eq_false, if_false, hr]
    · have e : cs.take 0 ++ vs ++ cs.drop (0 + vs.length) = vs := by simp [← hl]
      rw [e] at hS'; exact hS'
end
end Go.Proofs.Ytgnpjhellmfhoaa.Sy
