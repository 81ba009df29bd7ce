/-
  For the walker: operations under a guard that says no, in a region that draws its order; returns of several values.
-/
import Derived.Test.YtgnpjhellmfhoaaMore
namespace Go.Proofs.Ytgnpjhellmfhoaa.Sy
open Go.RowKit

section
variable {P : Program} {ops : Array Oper} {Q : Exit → Act → World → Prop} {S : World → Prop} {n : Nat}
variable {m : List (Nat × Value)} {w : World} {tail : List Nat} {pl pl2 : Plan} {i : Nat} {o : Oper}
theorem wpOp_not {a : Act} {K : Act → World → Prop} (hi : ops[i]? = some o) (hw : Region.wanted o (yielded ops a.tmps) = false) (h : K (a.put o.dst undef) w) : wpOp P ops Q i K a w := by
  unfold wpOp; simp only [hi, hw, Bool.false_eq_true, if_false]; exact h
theorem PW.skip1 {d : Nat} (hi : ops[i]? = some o) (hd : o.dst = some d) (hn : Nat.ble (d + 1) n = true) (hg : guarded ops m o = some false)
    (k : PW P ops Q S tail pl n ((d, undef) :: m) w) : PW P ops Q S tail (.one i pl) n m w := fun a ha hS =>
  wpOp_not hi (wanted_of ha hg) ⟨hS, by rw [hd]; exact k _ (ha.put (Nat.le_of_ble_eq_true hn) undef) hS⟩
theorem PW.skip2 {j : Nat} {o2 : Oper} {d e : Nat} (hi : ops[i]? = some o) (hj : ops[j]? = some o2) (hd : o.dst = some d) (he : o2.dst = some e) (hn : Nat.ble (d + 1) n = true) (hn2 : Nat.ble (e + 1) n = true)
    (hg : guarded ops m o = some false) (hg2 : guarded ops m o2 = some false)
    (kA : PW P ops Q S tail pl n ((d, undef) :: m) w) (kB : PW P ops Q S tail pl2 n ((e, undef) :: m) w) : PW P ops Q S tail (.two i pl j pl2) n m w := fun a ha hS =>
  ⟨wpOp_not hi (wanted_of ha hg) ⟨hS, by rw [hd]; exact kA _ (ha.put (Nat.le_of_ble_eq_true hn) undef) hS⟩,
   wpOp_not hj (wanted_of ha hg2) ⟨hS, by rw [he]; exact kB _ (ha.put (Nat.le_of_ble_eq_true hn2) undef) hS⟩⟩
end

theorem ob (k : Nat) {b : Nat} {cs : List Value} {E : TypeId} {μ : Mem} {L : List Own} (hk : L[k]? = some (Own.obj b cs E)) {off : Nat} {v : Value} (hv : cs[off]? = some v) : ∀ w, Rd μ L w → w.cell? ⟨b, off, none⟩ = some v := Rd.obj hk hv
theorem sb (k : Nat) {μ : Mem} {L : List Own} {g l c : Nat} {E : TypeId} {sz : Nat} {us : List Value} (hk : L[k]? = some (Own.sl (some ⟨g, 0, none⟩) l c E sz us)) {off : Nat} {v : Value} (hv : us[off]? = some v) : ∀ w, Rd μ L w → w.cell? ⟨g, off, none⟩ = some v := Rd.sl hk hv
/-! ### Cells of own objects, found by the object's number -/
class HasO (L : List Own) (b : Nat) (cs : outParam (List Value)) : Prop where
  has : ∃ (k : Nat) (E : TypeId), L[k]? = some (Own.obj b cs E)
instance HasO.head {b : Nat} {cs : List Value} {E : TypeId} {L : List Own} : HasO (Own.obj b cs E :: L) b cs := ⟨0, E, rfl⟩
instance (priority := low) HasO.tail {o : Own} {b : Nat} {cs : List Value} {L : List Own} [h : HasO L b cs] : HasO (o :: L) b cs := ⟨by obtain ⟨k, E, hk⟩ := h.has; exact ⟨k + 1, E, hk⟩⟩
theorem obT {b : Nat} {cs : List Value} {μ : Mem} {L : List Own} [h : HasO L b cs] {off : Nat} {v : Value} (hv : cs[off]? = some v) : ∀ w, Rd μ L w → w.cell? ⟨b, off, none⟩ = some v := by
  obtain ⟨k, E, hk⟩ := h.has
  exact Rd.obj hk hv
class HasS (L : List Own) (g : Nat) (us : outParam (List Value)) : Prop where
  has : ∃ (k l c : Nat) (E : TypeId) (sz : Nat), L[k]? = some (Own.sl (some ⟨g, 0, none⟩) l c E sz us)
instance HasS.head {g l c sz : Nat} {us : List Value} {E : TypeId} {L : List Own} : HasS (Own.sl (some ⟨g, 0, none⟩) l c E sz us :: L) g us := ⟨0, l, c, E, sz, rfl⟩
instance (priority := low) HasS.tail {o : Own} {g : Nat} {us : List Value} {L : List Own} [h : HasS L g us] : HasS (o :: L) g us := ⟨by obtain ⟨k, l, c, E, sz, hk⟩ := h.has; exact ⟨k + 1, l, c, E, sz, hk⟩⟩
theorem slT {g : Nat} {us : List Value} {μ : Mem} {L : List Own} [h : HasS L g us] {off : Nat} {v : Value} (hv : us[off]? = some v) : ∀ w, Rd μ L w → w.cell? ⟨g, off, none⟩ = some v := by
  obtain ⟨k, l, c, E, sz, hk⟩ := h.has
  exact Rd.sl hk hv
/-! ### Returns of several values -/
/-- What stands at a result. -/
def ResAt (P : Program) (m : List (Nat × Value)) (w : World) : ResultVar → Value → Prop
  | .tmp t, v => look m t = some v
  | .cell t E, v => ∃ b vs d z by_, look m t = some (.pointer (some ⟨b, 0, none⟩)) ∧ TI P E d z (vs : List Value).length by_ ∧ aggD d = true ∧ (∀ j u, vs[j]? = some u → w.cell? ⟨b, 0 + j, none⟩ = some u) ∧ v = .agg vs.toArray
def resRun (tmps : Array Value) : ResultVar → Sem Value
  | .tmp t => pure (tmps.getD t undef)
  | .cell t E => do loadVar E (← asAddr (tmps.getD t undef))
section
variable {P : Program} {fn : Func} {R : Ending → World → Prop} {n : Nat} {m : List (Nat × Value)} {w : World} {a : Act} {r1 r2 r3 : ResultVar} {v1 v2 v3 : Value}
theorem ResAt.run (ha : Fr a n m) (h : ResAt P m w r1 v1) : (resRun a.tmps r1).run P w = .ok v1 w := by
  cases r1 with
  | tmp t =>
    have h' : look m t = some v1 := h
    simp only [resRun, Sem.run_pure, Array.getD_eq_getD_getElem?, ha.get t v1 h', Option.getD_some]
  | cell t E =>
    obtain ⟨b, vs, d, z, by_, hv, hE, hd, hc, rfl⟩ := h
    have e1 := hE.isAgg w
    rw [hd] at e1
    have e2 := hE.sizeOf w
    have hadd : ∀ j, (⟨b, 0, none⟩ : Addr).add j = ⟨b, 0 + j, none⟩ := fun j => by unfold Addr.add; split <;> simp_all
    have e3 := run_loadCells (P := P) (a := ⟨b, 0, none⟩) vs 0 #[] w fun j v hv => by rw [hadd, Nat.zero_add]; exact hc j v hv
    have e4 : a.tmps.getD t undef = .pointer (some ⟨b, 0, none⟩) := by simp only [Array.getD_eq_getD_getElem?, ha.get t _ hv, Option.getD_some]
    simp only [resRun, e4, Sem.run_bind, asAddr, Sem.run_pure, Result.andThen_ok, loadVar, e1, loadCells, e2, e3, if_true]
    simp
theorem ret2 (ha : Fr a n m) (hr : fn.results = #[r1, r2]) (h1 : ResAt P m w r1 v1) (h2 : ResAt P m w r2 v2) (h : R (.returned (.tuple #[v1, v2])) w) : bodyPost P fn R .ret a w := by
  refine bodyPost_ret ?_ ha.defers h
  have g1 := h1.run ha
  have g2 := h2.run ha
  cases r1 <;> cases r2 <;> simp only [resRun, Sem.run_bind] at g1 g2 <;> simp only [results, hr, List.mapM_toArray, List.mapM_cons, List.mapM_nil, Sem.run_bind, Sem.run_map] <;> simp only [g1, g2, Result.andThen_ok, Sem.run_pure] <;> simp <;> simp_all
theorem ret3 (ha : Fr a n m) (hr : fn.results = #[r1, r2, r3]) (h1 : ResAt P m w r1 v1) (h2 : ResAt P m w r2 v2) (h3 : ResAt P m w r3 v3) (h : R (.returned (.tuple #[v1, v2, v3])) w) : bodyPost P fn R .ret a w := by
  refine bodyPost_ret ?_ ha.defers h
  have g1 := h1.run ha
  have g2 := h2.run ha
  have g3 := h3.run ha
  cases r1 <;> cases r2 <;> cases r3 <;> simp only [resRun, Sem.run_bind] at g1 g2 g3 <;> simp only [results, hr, List.mapM_toArray, List.mapM_cons, List.mapM_nil, Sem.run_bind, Sem.run_map] <;> simp only [g1, g2, g3, Result.andThen_ok, Sem.run_pure] <;> simp <;> simp_all
end

section
variable {w w' : World} {μ : Mem} {L : List Own}
theorem St.retB {x y : Bool} (h : St w w' μ L) (e : x = y) : RetS w (.bool y) (.returned (.bool x)) w' := by subst e; exact h.retS
theorem St.retI {k : IntKind} {x y : Int} (h : St w w' μ L) (e : x = y) : RetS w (.int k y) (.returned (.int k x)) w' := by subst e; exact h.retS
theorem St.retE {u v : Value} (h : St w w' μ L) (e : u = v) : RetS w v (.returned u) w' := by subst e; exact h.retS
end
theorem Ex.fieldO {P : Program} {S : World → Prop} {m : List (Nat × Value)} {t : TypeId} {x : Operand} {b off sz by_ : Nat} {d : TypeDesc} {z : Value} (o : Nat) {fs : Array Field} {f : Nat} {fl : Field} (ht : P.underlying t = some (.struct fs)) (hf : fs[f]? = some fl) (ho : fl.offset = o) (he : TI P fl.type d z (sz + 1) by_) (hx : ev m x = some (.pointer (some ⟨b, off, none⟩))) :
    Ex P S m (.fieldAddr t x f) (.pointer (some ⟨b, off + o, none⟩)) := by subst ho; exact Ex.fieldA ht hf he hx
theorem Ex.nilCheck {P : Program} {S : World → Prop} {m : List (Nat × Value)} {x : Operand} {b off : Nat} (hx : ev m x = some (.pointer (some ⟨b, off, none⟩))) : Ex P S m (.nilCheck x) (.pointer (some ⟨b, off, none⟩)) := fun ρ ha w _ o ho => by
  simp [execOp, ho, ha _ _ hx, Instr.sureAddr, go_sem]
/-- A contract of a function that works on its caller's objects. -/
def RetM (Φ : Value → World → Prop) (e : Ending) (w' : World) : Prop := ∃ v, e = .returned v ∧ Φ v w'
theorem Hv.callM {P : Program} {m : List (Nat × Value)} {w : World} {Φ : Value → World → Prop} {o' : Call} {c : Operand} {as : List Operand} {ats : Array TypeId} {f : FuncId} {cap : Array Value} {args : List Value} (ho' : o' = { callee := .value c, args := as.toArray, argTypes := ats })
    (hc : ev m c = some (.func (.func f) #[] cap)) (has : evs m as = some args) (hf : Callable P f) (hC : Calls P f (args ++ cap.toList).toArray w (RetM Φ)) : Hv P m (.call o') w Φ := Hv.call ho' hc has hf hC
/-- A box, its cells laid out. -/
theorem Hv.boxS {P : Program} {m : List (Nat × Value)} {E : TypeId} {x : Operand} {v : Value} {cs : List Value} {w0 w : World} {μ : Mem} {L : List Own} (hS : St w0 w μ L) (hx : ev m x = some v) (hs : spine (cellsL v) = some cs) :
    Hv P m (.box E x) w (fun u w' => ∃ b, u = .pointer (some ⟨b, 0, none⟩) ∧ w.heap.size ≤ b ∧ St w0 w' μ (Own.obj b cs E :: L)) := by
  have e := spine_eq hs
  rw [cellsL_eq] at e
  subst e
  exact Hv.box hS hx
/-- A function without results, at a return. -/
theorem end_none_ret {P : Program} {fn : Func} {R : Ending → World → Prop} {n : Nat} {m : List (Nat × Value)} {w : World} {a : Act} (ha : Fr a n m) (hr : fn.results = #[]) (h : R (.returned (.tuple #[])) w) : bodyPost P fn R .ret a w :=
  ⟨ha.defers, _, results_none hr _ _ _, h⟩

theorem Ex.shr {P : Program} {S : World → Prop} {m : List (Nat × Value)} {t t' : TypeId} {x y : Operand} {k k' : IntKind} {p q r : Int} (hx : ev m x = some (.int k p)) (hy : ev m y = some (.int k' q)) (h0 : 0 ≤ q) (h1 : q.toNat ≤ k.bits) (hr : p.fdiv (2 ^ q.toNat) = r) : Ex P S m (.binOp .shr t x y t') (.int k r) := fun ρ ha w _ o ho => by
  have e : Op.shift .shr k p k' q = pure (.int k (p.fdiv (2 ^ q.toNat))) := by unfold Op.shift; rw [if_neg (by omega)]; simp only [Nat.min_eq_left h1]
  subst hr; simp [execOp, ho, ha _ _ hx, ha _ _ hy, eqGuard, binOp, e, go_sem]
theorem Ex.shl {P : Program} {S : World → Prop} {m : List (Nat × Value)} {t t' : TypeId} {x y : Operand} {k k' : IntKind} {p q r : Int} (hx : ev m x = some (.int k p)) (hy : ev m y = some (.int k' q)) (h0 : 0 ≤ q) (h1 : q.toNat ≤ k.bits) (hr : k.wrap (p * 2 ^ q.toNat) = r) : Ex P S m (.binOp .shl t x y t') (.int k r) := fun ρ ha w _ o ho => by
  have e : Op.shift .shl k p k' q = pure (.int k (k.wrap (p * 2 ^ q.toNat))) := by unfold Op.shift; rw [if_neg (by omega)]; simp only [Nat.min_eq_left h1]
  subst hr; simp [execOp, ho, ha _ _ hx, ha _ _ hy, eqGuard, binOp, e, go_sem]
end Go.Proofs.Ytgnpjhellmfhoaa.Sy
