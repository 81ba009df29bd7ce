/-
  Operations: their values (Ex), what they do (Hv).
-/
import Derived.Test.YtgnpjhellmfhoaaFr
namespace Go.Proofs.Ytgnpjhellmfhoaa.Sy
open Go.RowKit

/-- A type's row: what it is, its zero, its cells, its bytes. -/
def TI (P : Program) (t : TypeId) (d : TypeDesc) (z : Value) (sz by_ : Nat) : Prop :=
  P.underlying t = some d ∧ (P.info? t).map (fun i => (i.zero, i.size, i.bytes)) = some (some z, sz, by_)

section
variable {P : Program} {t : TypeId} {d : TypeDesc} {z : Value} {sz by_ : Nat}

theorem TI.info (h : TI P t d z sz by_) : ∃ i, P.info? t = some i ∧ i.zero = some z ∧ i.size = sz ∧ i.bytes = by_ := by
  obtain ⟨_, h2⟩ := h
  cases hi : P.info? t with
  | none => rw [hi] at h2; cases h2
  | some i =>
    rw [hi] at h2
    simp only [Option.map_some, Option.some.injEq, Prod.mk.injEq] at h2
    exact ⟨i, rfl, h2.1, h2.2.1, h2.2.2⟩
theorem TI.typeInfo (h : TI P t d z sz by_) (w : World) : ∃ i, (typeInfo t).run P w = .ok i w ∧ i.zero = some z ∧ i.size = sz ∧ i.bytes = by_ := by
  obtain ⟨i, hi, h1, h2, h3⟩ := h.info
  exact ⟨i, by simp [Go.typeInfo, program, Sem.run, hi, go_sem], h1, h2, h3⟩
theorem TI.sizeOf (h : TI P t d z sz by_) (w : World) : (sizeOf t).run P w = .ok sz w := by
  obtain ⟨i, hi, h1, h2, h3⟩ := h.info
  simp [Go.sizeOf, Go.typeInfo, program, Sem.run, hi, h2, go_sem]
theorem TI.zeroValue (h : TI P t d z sz by_) (w : World) : (zeroValue t).run P w = .ok z w := by
  obtain ⟨i, hi, h1, h2, h3⟩ := h.info
  simp [Go.zeroValue, Go.typeInfo, program, Sem.run, hi, h1, go_sem]
theorem TI.underlying (h : TI P t d z sz by_) (w : World) : (underlying t).run P w = .ok d w := by
  simp [Go.underlying, program, Sem.run, h.1, go_sem]
def aggD : TypeDesc → Bool
  | .struct _ | .array _ _ => true
  | _ => false
theorem TI.isAgg (h : TI P t d z sz by_) (w : World) : (isAgg t).run P w = .ok (aggD d) w := by
  have := h.underlying w
  unfold Go.isAgg
  cases d <;> simp [this, aggD, go_sem]
end

theorem w64 {x : Int} (h1 : -9223372036854775808 ≤ x) (h2 : x ≤ 9223372036854775807) : IntKind.i64.wrap x = x := by
  exact IntWalk.i64_in x ⟨h1, h2⟩
theorem wu8 {x : Int} (h1 : 0 ≤ x) (h2 : x < 256) : IntKind.u8.wrap x = x := by
  rw [IntKind.wrap_u8]; omega
theorem inc64 {i : Nat} (h : i < 9223372036854775807) : IntKind.i64.wrap ((i : Int) + 1) = ((i + 1 : Nat) : Int) := by
  rw [w64 (by omega) (by omega)]; omega

theorem equal_bool {P : Program} {t : TypeId} (ht : P.underlying t = some .bool) (p q : Bool) (w : World) : (Op.equal t (.bool p) (.bool q)).run P w = .ok (p == q) w := by
  have e1 : (Go.underlying t).run P w = .ok .bool w := by simp [Go.underlying, program, Sem.run, ht, go_sem]
  have key : ∀ d : Nat, (Op.equalIn (d + 1) t (.bool p) (.bool q)).run P w = .ok (p == q) w := fun d => by simp [Op.equalIn, e1, go_sem]
  exact key 9999

namespace Ex
variable {P : Program} {S : World → Prop} {m : List (Nat × Value)} {t t' : TypeId} {x y c : Operand} {v v' : Value}

theorem move (h : ev m x = some v) : Ex P S m (.move x) v := fun ρ ha w _ o ho => by simp [execOp, ho, ha _ _ h, go_sem]
theorem assign (h : ev m x = some v) : Ex P S m (.assign x) v := fun ρ ha w _ o ho => by simp [execOp, ho, ha _ _ h, go_sem]
theorem pick_yes (hc : ev m c = some (.bool true)) (h : ev m x = some v) : Ex P S m (.pick c x y) v := fun ρ ha w _ o ho => by simp [execOp, ho, ha _ _ h, ha _ _ hc, asBool, go_sem]
theorem pick_no (hc : ev m c = some (.bool false)) (h : ev m y = some v) : Ex P S m (.pick c x y) v := fun ρ ha w _ o ho => by simp [execOp, ho, ha _ _ h, ha _ _ hc, asBool, go_sem]

section ints
variable {k k' : IntKind} {p q r : Int} {b : Bool}
theorem add (hx : ev m x = some (.int k p)) (hy : ev m y = some (.int k q)) (hr : k.wrap (p + q) = r) : Ex P S m (.binOp .add t x y t') (.int k r) := fun ρ ha w _ o ho => by
  simp [execOp, ho, ha _ _ hx, ha _ _ hy, eqGuard, binOp, Op.intArith, hr, go_sem]
theorem sub (hx : ev m x = some (.int k p)) (hy : ev m y = some (.int k q)) (hr : k.wrap (p - q) = r) : Ex P S m (.binOp .sub t x y t') (.int k r) := fun ρ ha w _ o ho => by
  simp [execOp, ho, ha _ _ hx, ha _ _ hy, eqGuard, binOp, Op.intArith, hr, go_sem]
theorem mul (hx : ev m x = some (.int k p)) (hy : ev m y = some (.int k q)) (hr : k.wrap (p * q) = r) : Ex P S m (.binOp .mul t x y t') (.int k r) := fun ρ ha w _ o ho => by
  simp [execOp, ho, ha _ _ hx, ha _ _ hy, eqGuard, binOp, Op.intArith, hr, go_sem]
theorem quo (hx : ev m x = some (.int k p)) (hy : ev m y = some (.int k q)) (hq : q ≠ 0) (hr : k.wrap (p.tdiv q) = r) : Ex P S m (.binOp .quo t x y t') (.int k r) := fun ρ ha w _ o ho => by
  simp [execOp, ho, ha _ _ hx, ha _ _ hy, eqGuard, binOp, Op.intDiv, hq, hr, go_sem]
theorem rem (hx : ev m x = some (.int k p)) (hy : ev m y = some (.int k q)) (hq : q ≠ 0) (hr : p.tmod q = r) : Ex P S m (.binOp .rem t x y t') (.int k r) := fun ρ ha w _ o ho => by
  simp [execOp, ho, ha _ _ hx, ha _ _ hy, eqGuard, binOp, Op.intDiv, hq, hr, go_sem]
theorem lss (hx : ev m x = some (.int k p)) (hy : ev m y = some (.int k q)) (hr : decide (p < q) = b) : Ex P S m (.binOp .lss t x y t') (.bool b) := fun ρ ha w _ o ho => by
  subst hr; simp [execOp, ho, ha _ _ hx, ha _ _ hy, eqGuard, binOp, Op.intCmp, go_sem]
theorem leq (hx : ev m x = some (.int k p)) (hy : ev m y = some (.int k q)) (hr : decide (p ≤ q) = b) : Ex P S m (.binOp .leq t x y t') (.bool b) := fun ρ ha w _ o ho => by
  subst hr; simp [execOp, ho, ha _ _ hx, ha _ _ hy, eqGuard, binOp, Op.intCmp, go_sem]
theorem gtr (hx : ev m x = some (.int k p)) (hy : ev m y = some (.int k q)) (hr : decide (q < p) = b) : Ex P S m (.binOp .gtr t x y t') (.bool b) := fun ρ ha w _ o ho => by
  subst hr; simp [execOp, ho, ha _ _ hx, ha _ _ hy, eqGuard, binOp, Op.intCmp, go_sem]
theorem geq (hx : ev m x = some (.int k p)) (hy : ev m y = some (.int k q)) (hr : decide (q ≤ p) = b) : Ex P S m (.binOp .geq t x y t') (.bool b) := fun ρ ha w _ o ho => by
  subst hr; simp [execOp, ho, ha _ _ hx, ha _ _ hy, eqGuard, binOp, Op.intCmp, go_sem]
theorem eql (hx : ev m x = some (.int k p)) (hy : ev m y = some (.int k q)) (hr : decide (p = q) = b) : Ex P S m (.binOp .eql t x y t') (.bool b) := fun ρ ha w _ o ho => by
  have e : (p == q) = b := by rw [← hr]; by_cases h : p = q <;> simp [h]
  simp [execOp, ho, ha _ _ hx, ha _ _ hy, eqGuard, binOp, Op.intCmp, e, go_sem]
theorem neq (hx : ev m x = some (.int k p)) (hy : ev m y = some (.int k q)) (hr : decide (p ≠ q) = b) : Ex P S m (.binOp .neq t x y t') (.bool b) := fun ρ ha w _ o ho => by
  have e : (p != q) = b := by rw [← hr]; by_cases h : p = q <;> simp [h, bne]
  simp [execOp, ho, ha _ _ hx, ha _ _ hy, eqGuard, binOp, Op.intCmp, e, go_sem]
theorem neg (hx : ev m x = some (.int k p)) (hr : k.wrap (-p) = r) : Ex P S m (.unOp .neg t x) (.int k r) := fun ρ ha w _ o ho => by
  simp [execOp, ho, ha _ _ hx, Op.unary, Op.intArith, hr, go_sem]
theorem max2 {at_ : Array TypeId} {o' : Call} (ho' : o' = { callee := .builtin .max, args := #[x, y], argTypes := at_ }) (hx : ev m x = some (.int k p)) (hy : ev m y = some (.int k q)) : Ex P S m (.call o') (.int k (max p q)) := fun ρ ha w _ o ho => by
  subst ho'
  have e : (if q > p then q else p) = max p q := by split <;> omega
  simp [execOp, ho, resolve, invoke, builtin, Builtin.max_, Builtin.max2, ha _ _ hx, ha _ _ hy, e, go_sem]
theorem min2 {at_ : Array TypeId} {o' : Call} (ho' : o' = { callee := .builtin .min, args := #[x, y], argTypes := at_ }) (hx : ev m x = some (.int k p)) (hy : ev m y = some (.int k q)) : Ex P S m (.call o') (.int k (min p q)) := fun ρ ha w _ o ho => by
  subst ho'
  have e : (if q < p then q else p) = min p q := by split <;> omega
  simp [execOp, ho, resolve, invoke, builtin, Builtin.min_, Builtin.min2, ha _ _ hx, ha _ _ hy, e, go_sem]
theorem conv {d : TypeDesc} (hs : P.underlying t = some d) (hd : P.underlying t' = some (.int k)) (hx : ev m x = some (.int k' p)) (hr : k.wrap p = r) : Ex P S m (.convert t t' x) (.int k r) := fun ρ ha w _ o ho => by
  have e1 : (Go.underlying t).run P w = .ok d w := by simp [Go.underlying, program, Sem.run, hs, go_sem]
  have e2 : (Go.underlying t').run P w = .ok (.int k) w := by simp [Go.underlying, program, Sem.run, hd, go_sem]
  cases d <;> simp [execOp, ho, ha _ _ hx, convert, e1, e2, Conv.intToInt, hr, go_sem]
end ints

section bools
variable {p q b : Bool}
theorem not (hx : ev m x = some (.bool p)) (hr : (!p) = b) : Ex P S m (.unOp .not t x) (.bool b) := fun ρ ha w _ o ho => by
  simp [execOp, ho, ha _ _ hx, Op.unary, hr, go_sem]
theorem eqlB (ht : P.underlying t = some .bool) (hx : ev m x = some (.bool p)) (hy : ev m y = some (.bool q)) (hr : (p == q) = b) : Ex P S m (.binOp .eql t x y t') (.bool b) := fun ρ ha w _ o ho => by
  simp [execOp, ho, ha _ _ hx, ha _ _ hy, eqGuard, binOp, equal_bool ht, hr, go_sem]
end bools

section strings
variable {s u : ByteArray} {b : Bool}
theorem eqlS (hx : ev m x = some (.string s)) (hy : ev m y = some (.string u)) (hr : (s == u) = b) : Ex P S m (.binOp .eql t x y t') (.bool b) := fun ρ ha w _ o ho => by
  subst hr; simp [execOp, ho, ha _ _ hx, ha _ _ hy, eqGuard, beq_toListBytes, go_sem]
theorem neqS (hx : ev m x = some (.string s)) (hy : ev m y = some (.string u)) (hr : (s != u) = b) : Ex P S m (.binOp .neq t x y t') (.bool b) := fun ρ ha w _ o ho => by
  subst hr; simp [execOp, ho, ha _ _ hx, ha _ _ hy, eqGuard, bne, beq_toListBytes, go_sem]
theorem lenS {o' : Call} (ho' : o' = { callee := .builtin .len, args := #[x], argTypes := #[t] }) (ht : P.underlying t = some .string) (hx : ev m x = some (.string s)) : Ex P S m (.call o') (.int .i64 s.size) := fun ρ ha w _ o ho => by
  subst ho'
  have e1 : (Go.underlying t).run P w = .ok .string w := by simp [Go.underlying, program, Sem.run, ht, go_sem]
  simp [execOp, ho, resolve, invoke, builtin, Builtin.len_, ha _ _ hx, e1, goInt, go_sem]
end strings

section slices
variable {e : TypeId} {ad : Option Addr} {l c : Nat}
theorem lenSl {o' : Call} (ho' : o' = { callee := .builtin .len, args := #[x], argTypes := #[t] }) (ht : P.underlying t = some (.slice e)) (hx : ev m x = some (.slice ad l c)) : Ex P S m (.call o') (.int .i64 l) := fun ρ ha w _ o ho => by
  subst ho'
  have e1 : (Go.underlying t).run P w = .ok (.slice e) w := by simp [Go.underlying, program, Sem.run, ht, go_sem]
  simp [execOp, ho, resolve, invoke, builtin, Builtin.len_, ha _ _ hx, e1, goInt, go_sem]
variable {d : TypeDesc} {z : Value} {sz by_ : Nat} {k : IntKind} {p : Int} {j b off : Nat}
theorem indexSl (ht : P.underlying t = some (.slice e)) (he : TI P e d z sz by_) (hx : ev m x = some (.slice (some ⟨b, off, none⟩) l c)) (hy : ev m y = some (.int k p)) (hp : p = (j : Int)) (hj : j < l) :
    Ex P S m (.indexAddr t x y) (.pointer (some ⟨b, off + j * sz, none⟩)) := fun ρ ha w _ o ho => by
  have e1 : (Go.underlying t).run P w = .ok (.slice e) w := by simp [Go.underlying, program, Sem.run, ht, go_sem]
  have e2 := he.sizeOf w
  subst hp
  have h0 : (0 : Int) ≤ j := by omega
  have h1 : (j : Int) < (l : Int) := by omega
  have e3 : (⟨b, off, none⟩ : Addr).add (j * sz) = ⟨b, off + j * sz, none⟩ := by
    unfold Addr.add; split
    · rename_i h; rw [h]; rfl
    · rfl
  simp [execOp, ho, ha _ _ hx, ha _ _ hy, Instr.indexAt, asIntOf, e1, e2, go_sem]
  omega
theorem indexArr {len : Nat} (ht : P.underlying t = some (.array len e)) (he : TI P e d z sz by_) (hx : ev m x = some (.pointer (some ⟨b, off, none⟩))) (hy : ev m y = some (.int k p)) (hp : p = (j : Int)) (hj : j < len) :
    Ex P S m (.indexAddr t x y) (.pointer (some ⟨b, off + j * sz, none⟩)) := fun ρ ha w _ o ho => by
  have e1 : (Go.underlying t).run P w = .ok (.array len e) w := by simp [Go.underlying, program, Sem.run, ht, go_sem]
  have e2 := he.sizeOf w
  subst hp
  have h1 : (j : Int) < (len : Int) := by omega
  have e3 : (⟨b, off, none⟩ : Addr).add (j * sz) = ⟨b, off + j * sz, none⟩ := by
    unfold Addr.add; split
    · rename_i h; rw [h]; rfl
    · rfl
  simp [execOp, ho, ha _ _ hx, ha _ _ hy, Instr.indexAt, Instr.sureAddr, asIntOf, e1, e2, go_sem]
  omega
theorem fieldA {fs : Array Field} {f : Nat} {fl : Field} (ht : P.underlying t = some (.struct fs)) (hf : fs[f]? = some fl) (he : TI P fl.type d z (sz + 1) by_) (hx : ev m x = some (.pointer (some ⟨b, off, none⟩))) :
    Ex P S m (.fieldAddr t x f) (.pointer (some ⟨b, off + fl.offset, none⟩)) := fun ρ ha w _ o ho => by
  have e1 : (Go.underlying t).run P w = .ok (.struct fs) w := by simp [Go.underlying, program, Sem.run, ht, go_sem]
  have e2 := he.sizeOf w
  have e3 : (⟨b, off, none⟩ : Addr).add fl.offset = ⟨b, off + fl.offset, none⟩ := by
    unfold Addr.add; split
    · rename_i h; rw [h]; rfl
    · rfl
  simp [execOp, ho, ha _ _ hx, Instr.fieldAt, Instr.sureAddr, fieldPlace, e1, e2, hf, go_sem]
theorem load1 (ht : TI P t d z sz by_) (hd : aggD d = false) (hx : ev m x = some (.pointer (some ⟨b, off, none⟩))) (hc : ∀ w, S w → w.cell? ⟨b, off, none⟩ = some v) : Ex P S m (.load t x) v := fun ρ ha w hS o ho => by
  have e1 := ht.isAgg w
  rw [hd] at e1
  simp [execOp, ho, ha _ _ hx, Instr.loadAt, Instr.sureAddr, loadVar, e1, hc w hS, go_sem]
theorem extract {vs : Array Value} {i : Nat} (hx : ev m x = some (.tuple vs)) (hi : vs[i]? = some v) : Ex P S m (.extract x i) v := fun ρ ha w _ o ho => by
  simp [execOp, ho, ha _ _ hx, Instr.extract, hi, go_sem]
end slices
end Ex

end Go.Proofs.Ytgnpjhellmfhoaa.Sy
