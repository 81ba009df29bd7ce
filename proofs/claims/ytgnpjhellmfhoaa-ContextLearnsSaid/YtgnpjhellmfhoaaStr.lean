/-
  Operations on strings: order, sums, bytes.
-/
import Derived.Test.YtgnpjhellmfhoaaWk
import Derived.Sort.Walk0
namespace Go.Proofs.Ytgnpjhellmfhoaa.Sy
open Go.RowKit

/-- A string as the list of its bytes. -/
abbrev bl (s : ByteArray) : List UInt8 := s.data.toList
def sAt (s : ByteArray) (j : Nat) : UInt8 := (bl s)[j]?.getD 0
def sLt (s u : ByteArray) : Bool := decide (bl s < bl u)
def sLe (s u : ByteArray) : Bool := decide (bl s < bl u) || (s == u)
theorem bl_len (s : ByteArray) : (bl s).length = s.size := rfl
theorem bl_inj {s u : ByteArray} (h : bl s = bl u) : s = u := by cases s; cases u; simp only [bl] at h; rw [Array.toList_inj.1 h]
theorem bl_eq {s u : ByteArray} : (s == u) = decide (bl s = bl u) := by
  by_cases h : s = u
  · subst h; rw [decide_eq_true rfl]; exact beq_self_eq_true s.data
  · rw [decide_eq_false fun e => h (bl_inj e)]
    cases hb : (s == u)
    · rfl
    · exfalso; apply h; have : (s.data == u.data) = true := hb
      cases s; cases u; simp_all
theorem beq_bl {s u : ByteArray} : (s.data == u.data) = (s == u) := rfl
theorem sAt_of {s : ByteArray} {j : Nat} (h : j < s.size) : (bl s)[j]? = some (sAt s j) := by
  have h' : j < (bl s).length := h
  unfold sAt; rw [List.getElem?_eq_getElem h']; rfl
theorem toList_bl (s : ByteArray) : s.toList = bl s := Lib.toList_data s

namespace Ex
variable {P : Program} {S : World → Prop} {m : List (Nat × Value)} {t t' : TypeId} {x y : Operand} {s u : ByteArray} {b : Bool}
theorem lssS (hx : ev m x = some (.string s)) (hy : ev m y = some (.string u)) (hr : sLt s u = b) : Ex P S m (.binOp .lss t x y t') (.bool b) := fun ρ ha w _ o ho => by
  subst hr; simp [execOp, ho, ha _ _ hx, ha _ _ hy, eqGuard, binOp, Op.stringOp, Proofs.bytesLess_eq, toList_bl, sLt, go_sem]
theorem gtrS (hx : ev m x = some (.string s)) (hy : ev m y = some (.string u)) (hr : (!sLe s u) = b) : Ex P S m (.binOp .gtr t x y t') (.bool b) := fun ρ ha w _ o ho => by
  subst hr; simp [execOp, ho, ha _ _ hx, ha _ _ hy, eqGuard, binOp, Op.stringOp, Proofs.bytesLess_eq, toList_bl, sLe, go_sem]; try (simp only [← beq_bl]); try rfl
theorem leqS (hx : ev m x = some (.string s)) (hy : ev m y = some (.string u)) (hr : sLe s u = b) : Ex P S m (.binOp .leq t x y t') (.bool b) := fun ρ ha w _ o ho => by
  subst hr; simp [execOp, ho, ha _ _ hx, ha _ _ hy, eqGuard, binOp, Op.stringOp, Proofs.bytesLess_eq, toList_bl, sLe, go_sem]; try (simp only [← beq_bl]); try rfl
theorem geqS (hx : ev m x = some (.string s)) (hy : ev m y = some (.string u)) (hr : (!sLt s u) = b) : Ex P S m (.binOp .geq t x y t') (.bool b) := fun ρ ha w _ o ho => by
  subst hr; simp [execOp, ho, ha _ _ hx, ha _ _ hy, eqGuard, binOp, Op.stringOp, Proofs.bytesLess_eq, toList_bl, sLt, go_sem]
theorem addS (hx : ev m x = some (.string s)) (hy : ev m y = some (.string u)) (hr : s.size + u.size ≤ 9223372036854775807) : Ex P S m (.binOp .add t x y t') (.string (s ++ u)) := fun ρ ha w _ o ho => by
  have h : ¬ (((s.size + u.size : Nat) : Int) > IntKind.i64.max) := by simp [IntKind.max, IntKind.bits, IntKind.signed]; omega
  simp only [execOp, ho, ha _ _ hx, ha _ _ hy, eqGuard, binOp, Op.stringOp, h, if_false]
  simp [go_sem]
theorem indexB {k : IntKind} {p : Int} {j : Nat} (ht : P.underlying t = some .string) (hx : ev m x = some (.string s)) (hy : ev m y = some (.int k p)) (hp : p = (j : Int)) (hj : j < s.size) :
    Ex P S m (.index t x y) (.int .u8 (sAt s j).toNat) := by
  have h := indexS (S := S) ht hx hy hp hj
  have e : s[j] = sAt s j := by
    have h2 := sAt_of hj
    rw [List.getElem?_eq_getElem (show j < (bl s).length from hj)] at h2
    exact Option.some.inj h2
  rw [e] at h; exact h
end Ex
end Go.Proofs.Ytgnpjhellmfhoaa.Sy
