import Derived.Test.YtgnpjhellmfhoaaW6
import Derived.Sort.Walk0

/-
  Operations on strings: order, sums, bytes.
-/
namespace Go.Proofs.Ytgnpjhellmfhoaa.Sy
open Go.RowKit

/-- A string as the list of its bytes. -/
abbrev bl (s : ByteArray) : List UInt8 := s.data.toList
def sAt (s : ByteArray) (j : Nat) : UInt8 := (bl s)[j]?.getD 0
def sLt (s u : ByteArray) : Bool := decide (bl s < bl u)
theorem bl_len (s : ByteArray) : (bl s).length = s.size := rfl
theorem bl_inj {s u : ByteArray} (h : bl s = bl u) : s = u := by cases s; cases u; simp only [bl] at h; rw [Array.toList_inj.1 h]
theorem bl_eq {s u : ByteArray} : (s == u) = decide (bl s = bl u) := by
  by_cases h : s = u
  · subst h; rw [decide_eq_true rfl]; exact beq_self_eq_true s.data
  · rw [decide_eq_false fun e => h (bl_inj e)]
    cases hb : (s == u)
    · rfl
    · exfalso; apply h; have : (s.data == u.data) = true := hb
      cases s; cases u; simp_all
theorem sAt_of {s : ByteArray} {j : Nat} (h : j < s.size) : (bl s)[j]? = some (sAt s j) := by
  have h' : j < (bl s).length := h
  unfold sAt; rw [List.getElem?_eq_getElem h']; rfl
theorem toList_bl (s : ByteArray) : s.toList = bl s := Lib.toList_data s

namespace Ex
variable {P : Program} {S : World → Prop} {m : List (Nat × Value)} {t t' : TypeId} {x y : Operand} {s u : ByteArray} {b : Bool}
theorem lssS (hx : ev m x = some (.string s)) (hy : ev m y = some (.string u)) (hr : sLt s u = b) : Ex P S m (.binOp .lss t x y t') (.bool b) := fun ρ ha w _ o ho => by
  subst hr; simp [execOp, ho, ha _ _ hx, ha _ _ hy, eqGuard, binOp, Op.stringOp, Proofs.bytesLess_eq, toList_bl, sLt, go_sem]
theorem geqS (hx : ev m x = some (.string s)) (hy : ev m y = some (.string u)) (hr : (!sLt s u) = b) : Ex P S m (.binOp .geq t x y t') (.bool b) := fun ρ ha w _ o ho => by
  subst hr; simp [execOp, ho, ha _ _ hx, ha _ _ hy, eqGuard, binOp, Op.stringOp, Proofs.bytesLess_eq, toList_bl, sLt, go_sem]
theorem addS (hx : ev m x = some (.string s)) (hy : ev m y = some (.string u)) (hr : s.size + u.size ≤ 9223372036854775807) : Ex P S m (.binOp .add t x y t') (.string (s ++ u)) := fun ρ ha w _ o ho => by
  have h : ¬ (((s.size + u.size : Nat) : Int) > IntKind.i64.max) := by simp [IntKind.max, IntKind.bits, IntKind.signed]; omega
  simp only [execOp, ho, ha _ _ hx, ha _ _ hy, eqGuard, binOp, Op.stringOp, h, if_false]
  simp [go_sem]
theorem indexB {k : IntKind} {p : Int} {j : Nat} (ht : P.underlying t = some .string) (hx : ev m x = some (.string s)) (hy : ev m y = some (.int k p)) (hp : p = (j : Int)) (hj : j < s.size) :
    Ex P S m (.index t x y) (.int .u8 (sAt s j).toNat) := by
  have h := indexS (S := S) ht hx hy hp hj
  have e : s[j] = sAt s j := by
    have h2 := sAt_of hj
    rw [List.getElem?_eq_getElem (show j < (bl s).length from hj)] at h2
    exact Option.some.inj h2
  rw [e] at h; exact h
end Ex
end Go.Proofs.Ytgnpjhellmfhoaa.Sy

/-
  Costs of words: the logarithm, and that it does not decrease.
-/
namespace Go.Proofs.Ytgnpjhellmfhoaa
def logN (n : Nat) : Nat := 8 * Nat.log2 n + 8 * (n - 2 ^ Nat.log2 n) / 2 ^ Nat.log2 n
theorem logN_lo {n : Nat} (h : 1 ≤ n) : 2 ^ Nat.log2 n ≤ n := Nat.log2_self_le (by omega)
theorem logN_hi (n : Nat) : n < 2 ^ (Nat.log2 n + 1) := Nat.lt_log2_self
theorem logN_lt {n : Nat} (_h : 1 ≤ n) : logN n < 8 * (Nat.log2 n + 1) := by
  unfold logN
  have h1 := logN_hi n
  have h2 : 0 < 2 ^ Nat.log2 n := Nat.two_pow_pos _
  have h3 : 8 * (n - 2 ^ Nat.log2 n) / 2 ^ Nat.log2 n < 8 := by
    rw [Nat.div_lt_iff_lt_mul h2]; rw [Nat.pow_succ] at h1; omega
  omega
theorem logN_mono {m n : Nat} (h1 : 1 ≤ m) (h : m ≤ n) : logN m ≤ logN n := by
  have hk : Nat.log2 m ≤ Nat.log2 n := (Nat.le_log2 (by omega)).2 (Nat.le_trans (logN_lo h1) h)
  by_cases he : Nat.log2 m = Nat.log2 n
  · unfold logN; rw [he]
    exact Nat.add_le_add_left (Nat.div_le_div_right (by omega)) _
  · have := logN_lt h1
    have h4 : 8 * Nat.log2 n ≤ logN n := Nat.le_add_right _ _
    omega
/-- The program's form. -/
theorem logN_small {n k : Nat} (hk : k = Nat.log2 n) : logN n = 8 * k + (8 * (n - 2 ^ k)) / 2 ^ k := by unfold logN; rw [hk]
theorem logN_great {n k : Nat} (hk : k = Nat.log2 n) (h3 : 3 ≤ k) : logN n = 8 * k + (n - 2 ^ k) / 2 ^ (k - 3) := by
  unfold logN; rw [hk]
  have : (2 : Nat) ^ Nat.log2 n = 8 * 2 ^ (Nat.log2 n - 3) := by
    rw [show (8 : Nat) = 2 ^ 3 from rfl, ← Nat.pow_add]; congr 1; omega
  rw [show 8 * (n - 2 ^ Nat.log2 n) / 2 ^ Nat.log2 n = (n - 2 ^ Nat.log2 n) / 2 ^ (Nat.log2 n - 3) by
    conv => lhs; rhs; rw [this]
    exact Nat.mul_div_mul_left _ _ (by decide)]
end Go.Proofs.Ytgnpjhellmfhoaa

/-
  Context: the small walks: ranges, orders, sums.
-/
namespace Go.Proofs.Ytgnpjhellmfhoaa
open Go.RowKit Sy

def prLess (a b : Pr) : Bool := decide (a.A < b.A ∨ (a.A = b.A ∧ a.B < b.B))
theorem prLess_c (a b : Pr) (w : World) : Calls Try.prog 53 #[prV a, prV b] w (RetS w (.bool (prLess a b))) := by
  have hS := St.start w (fun _ => none) (fun _ _ h => by cases h)
  refine calls_start 24 [prV a, prV b] Try.func53 rfl Try.ntmps53 rfl rfl ?_
  refine CW.seq fun K3 hK3 => ?_
  refine CW.region [0, 1, 2] rfl ?_
  refine LW.hv rfl rfl rfl rfl (Hv.boxS hS rfl rfl) fun v w2 ⟨b2, hv, hb2, hS⟩ => ?_
  subst hv
  refine LW.hv rfl rfl rfl rfl (Hv.boxS hS rfl rfl) fun v w3 ⟨b3, hv, hb3, hS⟩ => ?_
  subst hv
  refine LW.ex rfl rfl rfl rfl (Ex.assign rfl) hS.rd ?_
  refine LW.nil fun aa ha => hK3 _ _ _ ?_ aa ha
  refine CW.seq fun K4 hK4 => ?_
  refine CW.region [0, 1, 2, 3, 4, 5, 6, 7, 8, 9, 10, 11, 12, 13, 14, 15, 16, 17, 18, 19] rfl ?_
  refine LW.ex rfl rfl rfl rfl (Ex.fieldO 0 Try.underlying87 rfl rfl ti3 rfl) hS.rd ?_
  refine LW.ex rfl rfl rfl rfl (Ex.load1 ti3 rfl rfl (by first | exact obT rfl | exact Rd.imm ‹_› | exact slT ‹_›)) hS.rd ?_
  refine LW.ex rfl rfl rfl rfl (Ex.fieldO 0 Try.underlying87 rfl rfl ti3 rfl) hS.rd ?_
  refine LW.ex rfl rfl rfl rfl (Ex.load1 ti3 rfl rfl (by first | exact obT rfl | exact Rd.imm ‹_› | exact slT ‹_›)) hS.rd ?_
  refine LW.ex rfl rfl rfl rfl (Ex.lss rfl rfl rfl) hS.rd ?_
  refine LW.splitB (fun h1_4 => ?_) (fun h1_4 => ?_)
  · have h1_4 := of_decide_eq_true h1_4
    refine LW.ex rfl rfl rfl rfl (Ex.move rfl) hS.rd ?_
    refine LW.skip rfl rfl rfl rfl ?_
    refine LW.skip rfl rfl rfl rfl ?_
    refine LW.skip rfl rfl rfl rfl ?_
    refine LW.skip rfl rfl rfl rfl ?_
    refine LW.skip rfl rfl rfl rfl ?_
    refine LW.skip rfl rfl rfl rfl ?_
    refine LW.skip rfl rfl rfl rfl ?_
    refine LW.skip rfl rfl rfl rfl ?_
    refine LW.skip rfl rfl rfl rfl ?_
    refine LW.skip rfl rfl rfl rfl ?_
    refine LW.skip rfl rfl rfl rfl ?_
    refine LW.skip rfl rfl rfl rfl ?_
    refine LW.ex rfl rfl rfl rfl (by first | exact Ex.pick_yes rfl rfl | exact Ex.pick_no rfl rfl) hS.rd ?_
    refine LW.ex rfl rfl rfl rfl (Ex.assign rfl) hS.rd ?_
    refine LW.nil fun aa ha => hK4 _ _ _ ?_ aa ha
    refine CW.ret fun aa ha => ?_
    refine ret_one ha Try.results53 rfl ?_
    (first | exact hS.retB (by unfold prLess; exact (decide_eq_true (by omega)).symm) | exact hS.retB (by unfold prLess; exact (decide_eq_false (by omega)).symm) | exact hS.retB (by unfold prLess; exact decide_eq_decide.2 (by omega)))
  · have h1_4 := of_decide_eq_false h1_4
    refine LW.ex rfl rfl rfl rfl (Ex.move rfl) hS.rd ?_
    refine LW.ex rfl rfl rfl rfl (Ex.fieldO 0 Try.underlying87 rfl rfl ti3 rfl) hS.rd ?_
    refine LW.ex rfl rfl rfl rfl (Ex.load1 ti3 rfl rfl (by first | exact obT rfl | exact Rd.imm ‹_› | exact slT ‹_›)) hS.rd ?_
    refine LW.ex rfl rfl rfl rfl (Ex.fieldO 0 Try.underlying87 rfl rfl ti3 rfl) hS.rd ?_
    refine LW.ex rfl rfl rfl rfl (Ex.load1 ti3 rfl rfl (by first | exact obT rfl | exact Rd.imm ‹_› | exact slT ‹_›)) hS.rd ?_
    refine LW.ex rfl rfl rfl rfl (Ex.eql rfl rfl rfl) hS.rd ?_
    refine LW.splitB (fun h1_10 => ?_) (fun h1_10 => ?_)
    · have h1_10 := of_decide_eq_true h1_10
      refine LW.ex rfl rfl rfl rfl (Ex.move rfl) hS.rd ?_
      refine LW.ex rfl rfl rfl rfl (Ex.fieldO 1 Try.underlying87 rfl rfl ti3 rfl) hS.rd ?_
      refine LW.ex rfl rfl rfl rfl (Ex.load1 ti3 rfl rfl (by first | exact obT rfl | exact Rd.imm ‹_› | exact slT ‹_›)) hS.rd ?_
      refine LW.ex rfl rfl rfl rfl (Ex.fieldO 1 Try.underlying87 rfl rfl ti3 rfl) hS.rd ?_
      refine LW.ex rfl rfl rfl rfl (Ex.load1 ti3 rfl rfl (by first | exact obT rfl | exact Rd.imm ‹_› | exact slT ‹_›)) hS.rd ?_
      refine LW.ex rfl rfl rfl rfl (Ex.lss rfl rfl (by first | exact decide_eq_true (by omega) | exact decide_eq_false (by omega) | rfl)) hS.rd ?_
      refine LW.ex rfl rfl rfl rfl (by first | exact Ex.pick_yes rfl rfl | exact Ex.pick_no rfl rfl) hS.rd ?_
      refine LW.ex rfl rfl rfl rfl (by first | exact Ex.pick_yes rfl rfl | exact Ex.pick_no rfl rfl) hS.rd ?_
      refine LW.ex rfl rfl rfl rfl (Ex.assign rfl) hS.rd ?_
      refine LW.nil fun aa ha => hK4 _ _ _ ?_ aa ha
      refine CW.ret fun aa ha => ?_
      refine ret_one ha Try.results53 rfl ?_
      (first | exact hS.retB (by unfold prLess; exact (decide_eq_true (by omega)).symm) | exact hS.retB (by unfold prLess; exact (decide_eq_false (by omega)).symm) | exact hS.retB (by unfold prLess; exact decide_eq_decide.2 (by omega)))
    · have h1_10 := of_decide_eq_false h1_10
      refine LW.ex rfl rfl rfl rfl (Ex.move rfl) hS.rd ?_
      refine LW.skip rfl rfl rfl rfl ?_
      refine LW.skip rfl rfl rfl rfl ?_
      refine LW.skip rfl rfl rfl rfl ?_
      refine LW.skip rfl rfl rfl rfl ?_
      refine LW.skip rfl rfl rfl rfl ?_
      refine LW.ex rfl rfl rfl rfl (by first | exact Ex.pick_yes rfl rfl | exact Ex.pick_no rfl rfl) hS.rd ?_
      refine LW.ex rfl rfl rfl rfl (by first | exact Ex.pick_yes rfl rfl | exact Ex.pick_no rfl rfl) hS.rd ?_
      refine LW.ex rfl rfl rfl rfl (Ex.assign rfl) hS.rd ?_
      refine LW.nil fun aa ha => hK4 _ _ _ ?_ aa ha
      refine CW.ret fun aa ha => ?_
      refine ret_one ha Try.results53 rfl ?_
      (first | exact hS.retB (by unfold prLess; exact (decide_eq_true (by omega)).symm) | exact hS.retB (by unfold prLess; exact (decide_eq_false (by omega)).symm) | exact hS.retB (by unfold prLess; exact decide_eq_decide.2 (by omega)))
def edLess (a b : Edge) : Bool := decide (a.From < b.From ∨ (a.From = b.From ∧ (a.To < b.To ∨ (a.To = b.To ∧ a.Word < b.Word))))
theorem edLess_c (a b : Edge) (w : World) : Calls Try.prog 54 #[edgeV a, edgeV b] w (RetS w (.bool (edLess a b))) := by
  have hS := St.start w (fun _ => none) (fun _ _ h => by cases h)
  refine calls_start 34 [edgeV a, edgeV b] Try.func54 rfl Try.ntmps54 rfl rfl ?_
  refine CW.seq fun K5 hK5 => ?_
  refine CW.region [0, 1, 2] rfl ?_
  refine LW.hv rfl rfl rfl rfl (Hv.boxS hS rfl rfl) fun v w2 ⟨b2, hv, hb2, hS⟩ => ?_
  subst hv
  refine LW.hv rfl rfl rfl rfl (Hv.boxS hS rfl rfl) fun v w3 ⟨b3, hv, hb3, hS⟩ => ?_
  subst hv
  refine LW.ex rfl rfl rfl rfl (Ex.assign rfl) hS.rd ?_
  refine LW.nil fun aa ha => hK5 _ _ _ ?_ aa ha
  refine CW.seq fun K6 hK6 => ?_
  refine CW.seq fun K7 hK7 => ?_
  refine CW.region [0, 1, 2, 3, 4] rfl ?_
  refine LW.ex rfl rfl rfl rfl (Ex.fieldO 0 Try.underlying43 rfl rfl ti3 rfl) hS.rd ?_
  refine LW.ex rfl rfl rfl rfl (Ex.load1 ti3 rfl rfl (by first | exact obT rfl | exact Rd.imm ‹_› | exact slT ‹_›)) hS.rd ?_
  refine LW.ex rfl rfl rfl rfl (Ex.fieldO 0 Try.underlying43 rfl rfl ti3 rfl) hS.rd ?_
  refine LW.ex rfl rfl rfl rfl (Ex.load1 ti3 rfl rfl (by first | exact obT rfl | exact Rd.imm ‹_› | exact slT ‹_›)) hS.rd ?_
  refine LW.ex rfl rfl rfl rfl (Ex.neq rfl rfl rfl) hS.rd ?_
  refine LW.splitB (fun h1_4 => ?_) (fun h1_4 => ?_)
  · have h1_4 := of_decide_eq_true h1_4
    refine LW.nil fun aa ha => hK7 _ _ _ ?_ aa ha
    refine CW.yes rfl ?_
    refine CW.seq fun K8 hK8 => ?_
    refine CW.region [0, 1, 2, 3, 4, 5] rfl ?_
    refine LW.ex rfl rfl rfl rfl (Ex.fieldO 0 Try.underlying43 rfl rfl ti3 rfl) hS.rd ?_
    refine LW.ex rfl rfl rfl rfl (Ex.load1 ti3 rfl rfl (by first | exact obT rfl | exact Rd.imm ‹_› | exact slT ‹_›)) hS.rd ?_
    refine LW.ex rfl rfl rfl rfl (Ex.fieldO 0 Try.underlying43 rfl rfl ti3 rfl) hS.rd ?_
    refine LW.ex rfl rfl rfl rfl (Ex.load1 ti3 rfl rfl (by first | exact obT rfl | exact Rd.imm ‹_› | exact slT ‹_›)) hS.rd ?_
    refine LW.ex rfl rfl rfl rfl (Ex.lss rfl rfl (by first | exact decide_eq_true (by omega) | exact decide_eq_false (by omega) | rfl)) hS.rd ?_
    refine LW.ex rfl rfl rfl rfl (Ex.assign rfl) hS.rd ?_
    refine LW.nil fun aa ha => hK8 _ _ _ ?_ aa ha
    refine CW.ret fun aa ha => ?_
    refine ret_one ha Try.results54 rfl ?_
    (first | exact hS.retB (by unfold edLess; exact (decide_eq_true (by omega)).symm) | exact hS.retB (by unfold edLess; exact (decide_eq_false (by omega)).symm) | exact hS.retB (by unfold edLess; exact decide_eq_decide.2 (by omega)))
  · have h1_4 := of_decide_eq_false h1_4
    refine LW.nil fun aa ha => hK7 _ _ _ ?_ aa ha
    refine CW.no rfl ?_
    refine CW.skip fun aa ha => hK6 _ _ _ ?_ aa ha
    refine CW.seq fun K9 hK9 => ?_
    refine CW.region [0, 1, 2, 3, 4, 5, 6, 7, 8, 9, 10, 11, 12, 13, 14, 15, 16, 17, 18, 19] rfl ?_
    refine LW.ex rfl rfl rfl rfl (Ex.fieldO 1 Try.underlying43 rfl rfl ti3 rfl) hS.rd ?_
    refine LW.ex rfl rfl rfl rfl (Ex.load1 ti3 rfl rfl (by first | exact obT rfl | exact Rd.imm ‹_› | exact slT ‹_›)) hS.rd ?_
    refine LW.ex rfl rfl rfl rfl (Ex.fieldO 1 Try.underlying43 rfl rfl ti3 rfl) hS.rd ?_
    refine LW.ex rfl rfl rfl rfl (Ex.load1 ti3 rfl rfl (by first | exact obT rfl | exact Rd.imm ‹_› | exact slT ‹_›)) hS.rd ?_
    refine LW.ex rfl rfl rfl rfl (Ex.lss rfl rfl rfl) hS.rd ?_
    refine LW.splitB (fun h3_4 => ?_) (fun h3_4 => ?_)
    · have h3_4 := of_decide_eq_true h3_4
      refine LW.ex rfl rfl rfl rfl (Ex.move rfl) hS.rd ?_
      refine LW.skip rfl rfl rfl rfl ?_
      refine LW.skip rfl rfl rfl rfl ?_
      refine LW.skip rfl rfl rfl rfl ?_
      refine LW.skip rfl rfl rfl rfl ?_
      refine LW.skip rfl rfl rfl rfl ?_
      refine LW.skip rfl rfl rfl rfl ?_
      refine LW.skip rfl rfl rfl rfl ?_
      refine LW.skip rfl rfl rfl rfl ?_
      refine LW.skip rfl rfl rfl rfl ?_
      refine LW.skip rfl rfl rfl rfl ?_
      refine LW.skip rfl rfl rfl rfl ?_
      refine LW.skip rfl rfl rfl rfl ?_
      refine LW.ex rfl rfl rfl rfl (by first | exact Ex.pick_yes rfl rfl | exact Ex.pick_no rfl rfl) hS.rd ?_
      refine LW.ex rfl rfl rfl rfl (Ex.assign rfl) hS.rd ?_
      refine LW.nil fun aa ha => hK9 _ _ _ ?_ aa ha
      refine CW.ret fun aa ha => ?_
      refine ret_one ha Try.results54 rfl ?_
      (first | exact hS.retB (by unfold edLess; exact (decide_eq_true (by omega)).symm) | exact hS.retB (by unfold edLess; exact (decide_eq_false (by omega)).symm) | exact hS.retB (by unfold edLess; exact decide_eq_decide.2 (by omega)))
    · have h3_4 := of_decide_eq_false h3_4
      refine LW.ex rfl rfl rfl rfl (Ex.move rfl) hS.rd ?_
      refine LW.ex rfl rfl rfl rfl (Ex.fieldO 1 Try.underlying43 rfl rfl ti3 rfl) hS.rd ?_
      refine LW.ex rfl rfl rfl rfl (Ex.load1 ti3 rfl rfl (by first | exact obT rfl | exact Rd.imm ‹_› | exact slT ‹_›)) hS.rd ?_
      refine LW.ex rfl rfl rfl rfl (Ex.fieldO 1 Try.underlying43 rfl rfl ti3 rfl) hS.rd ?_
      refine LW.ex rfl rfl rfl rfl (Ex.load1 ti3 rfl rfl (by first | exact obT rfl | exact Rd.imm ‹_› | exact slT ‹_›)) hS.rd ?_
      refine LW.ex rfl rfl rfl rfl (Ex.eql rfl rfl rfl) hS.rd ?_
      refine LW.splitB (fun h3_10 => ?_) (fun h3_10 => ?_)
      · have h3_10 := of_decide_eq_true h3_10
        refine LW.ex rfl rfl rfl rfl (Ex.move rfl) hS.rd ?_
        refine LW.ex rfl rfl rfl rfl (Ex.fieldO 2 Try.underlying43 rfl rfl ti3 rfl) hS.rd ?_
        refine LW.ex rfl rfl rfl rfl (Ex.load1 ti3 rfl rfl (by first | exact obT rfl | exact Rd.imm ‹_› | exact slT ‹_›)) hS.rd ?_
        refine LW.ex rfl rfl rfl rfl (Ex.fieldO 2 Try.underlying43 rfl rfl ti3 rfl) hS.rd ?_
        refine LW.ex rfl rfl rfl rfl (Ex.load1 ti3 rfl rfl (by first | exact obT rfl | exact Rd.imm ‹_› | exact slT ‹_›)) hS.rd ?_
        refine LW.ex rfl rfl rfl rfl (Ex.lss rfl rfl (by first | exact decide_eq_true (by omega) | exact decide_eq_false (by omega) | rfl)) hS.rd ?_
        refine LW.ex rfl rfl rfl rfl (by first | exact Ex.pick_yes rfl rfl | exact Ex.pick_no rfl rfl) hS.rd ?_
        refine LW.ex rfl rfl rfl rfl (by first | exact Ex.pick_yes rfl rfl | exact Ex.pick_no rfl rfl) hS.rd ?_
        refine LW.ex rfl rfl rfl rfl (Ex.assign rfl) hS.rd ?_
        refine LW.nil fun aa ha => hK9 _ _ _ ?_ aa ha
        refine CW.ret fun aa ha => ?_
        refine ret_one ha Try.results54 rfl ?_
        (first | exact hS.retB (by unfold edLess; exact (decide_eq_true (by omega)).symm) | exact hS.retB (by unfold edLess; exact (decide_eq_false (by omega)).symm) | exact hS.retB (by unfold edLess; exact decide_eq_decide.2 (by omega)))
      · have h3_10 := of_decide_eq_false h3_10
        refine LW.ex rfl rfl rfl rfl (Ex.move rfl) hS.rd ?_
        refine LW.skip rfl rfl rfl rfl ?_
        refine LW.skip rfl rfl rfl rfl ?_
        refine LW.skip rfl rfl rfl rfl ?_
        refine LW.skip rfl rfl rfl rfl ?_
        refine LW.skip rfl rfl rfl rfl ?_
        refine LW.ex rfl rfl rfl rfl (by first | exact Ex.pick_yes rfl rfl | exact Ex.pick_no rfl rfl) hS.rd ?_
        refine LW.ex rfl rfl rfl rfl (by first | exact Ex.pick_yes rfl rfl | exact Ex.pick_no rfl rfl) hS.rd ?_
        refine LW.ex rfl rfl rfl rfl (Ex.assign rfl) hS.rd ?_
        refine LW.nil fun aa ha => hK9 _ _ _ ?_ aa ha
        refine CW.ret fun aa ha => ?_
        refine ret_one ha Try.results54 rfl ?_
        (first | exact hS.retB (by unfold edLess; exact (decide_eq_true (by omega)).symm) | exact hS.retB (by unfold edLess; exact (decide_eq_false (by omega)).symm) | exact hS.retB (by unfold edLess; exact decide_eq_decide.2 (by omega)))
end Go.Proofs.Ytgnpjhellmfhoaa

/-
  Context: the walks of the two logarithms.
-/
namespace Go.Proofs.Ytgnpjhellmfhoaa
open Go.RowKit Sy

def logZ (n : Int) : Int := if n < 1 then 0 else (logN n.toNat : Int)
theorem log2_62 {n : Nat} (h : 1 ≤ n) (hn : n < 2 ^ 62) : Nat.log2 n < 62 := (Nat.log2_lt (by omega)).2 hn
theorem shrN (n k : Nat) : ((n : Int)).fdiv (2 ^ k) = ((n / 2 ^ k : Nat) : Int) := by
  rw [Int.fdiv_eq_ediv_of_nonneg _ (by exact_mod_cast Nat.zero_le _)]; norm_cast
theorem log2_step {n k : Nat} (h : 1 < n / 2 ^ k) : k + 1 ≤ Nat.log2 n := by
  have h1 : 2 ^ k * 2 ≤ n := by
    have := (Nat.le_div_iff_mul_le (Nat.two_pow_pos k)).1 (show 2 ≤ n / 2 ^ k from h)
    omega
  have h2 : 0 < n := by have := Nat.two_pow_pos k; omega
  exact (Nat.le_log2 (by omega)).2 (by rw [Nat.pow_succ]; exact h1)
theorem log2_stop {n k : Nat} (h0 : 1 ≤ n) (hk : k ≤ Nat.log2 n) (h : ¬ 1 < n / 2 ^ k) : k = Nat.log2 n := by
  have h1 : n < 2 ^ k * 2 := by
    have := Nat.lt_mul_of_div_lt (show n / 2 ^ k < 2 by omega) (Nat.two_pow_pos k)
    omega
  have h2 : Nat.log2 n < k + 1 := (Nat.log2_lt (by omega)).2 (by rw [Nat.pow_succ]; exact h1)
  omega

theorem shrM {x y : Int} {a j p d : Nat} (hx : x = (a : Int)) (hp : p = 2 ^ j) (hy : y = (j : Int)) (hd : d = a / p) : x.fdiv (2 ^ y.toNat) = (d : Int) := by
  subst hx hy hp hd; rw [Int.toNat_natCast]; exact shrN a j
theorem shlN {k p : Nat} (hp : p = 2 ^ k) (h : p < 4611686018427387904) : IntKind.i64.wrap (1 * 2 ^ (Int.toNat (k : Int))) = (p : Int) := by
  have e : (1 * 2 ^ (Int.toNat (k : Int)) : Int) = (p : Int) := by rw [Int.toNat_natCast, hp]; norm_cast; omega
  rw [e]; exact w64 (by omega) (by omega)
set_option maxRecDepth 100000 in
theorem log_c (n : Int) (hn : n < 4611686018427387904) (w : World) : Calls Try.prog 71 #[.int .i64 n] w (RetS w (.int .i64 (logZ n))) := by
  have hS := St.start w (fun _ => none) (fun _ _ h => by cases h)
  refine calls_start 34 [.int .i64 n] Try.func71 rfl Try.ntmps71 rfl rfl ?_
  refine CW.seq fun K1 hK1 => ?_
  refine CW.region [0] rfl ?_
  refine LW.ex rfl rfl rfl rfl (Ex.assign rfl) hS.rd ?_
  refine LW.nil fun aa ha => hK1 _ _ _ ?_ aa ha
  refine CW.seq fun K2 hK2 => ?_
  refine CW.seq fun K3 hK3 => ?_
  refine CW.region [0, 1] rfl ?_
  refine LW.ex rfl rfl rfl rfl (Ex.move rfl) hS.rd ?_
  refine LW.ex rfl rfl rfl rfl (Ex.lss rfl rfl rfl) hS.rd ?_
  refine LW.splitB (fun h1_1 => ?_) (fun h1_1 => ?_)
  · have h1_1 := of_decide_eq_true h1_1
    refine LW.nil fun aa ha => hK3 _ _ _ ?_ aa ha
    refine CW.yes rfl ?_
    refine CW.seq fun K4 hK4 => ?_
    refine CW.region [0] rfl ?_
    refine LW.ex rfl rfl rfl rfl (Ex.assign rfl) hS.rd ?_
    refine LW.nil fun aa ha => hK4 _ _ _ ?_ aa ha
    refine CW.ret fun aa ha => ?_
    refine ret_one ha Try.results71 rfl ?_
    exact hS.retE (by unfold logZ; rw [if_pos (by omega)])
  · have h1_1 := of_decide_eq_false h1_1
    refine LW.nil fun aa ha => hK3 _ _ _ ?_ aa ha
    refine CW.no rfl ?_
    refine CW.skip fun aa ha => hK2 _ _ _ ?_ aa ha
    refine CW.seq fun K5 hK5 => ?_
    obtain ⟨N, rfl⟩ : ∃ N : Nat, n = N := ⟨n.toNat, by omega⟩
    have hlog := log2_62 (n := N) (by omega) (by omega)
    refine CW.region [0] rfl ?_
    refine LW.ex rfl rfl rfl rfl (Ex.assign rfl) hS.rd ?_
    refine LW.nil fun aa ha => hK5 _ _ _ ?_ aa ha
    refine CW.seq fun K6 hK6 => ?_
    refine CW.block ?_
    refine CW.loop (fun qq frm wl4 => ∃ (k : Nat), k ≤ Nat.log2 N ∧ qq = Nat.log2 N - k ∧ frm = [(0, .int .i64 (N : Int)), (3, .int .i64 k)] ∧ St w wl4 (fun _ => none) []) _ ⟨0, (by first | omega | (simp; done) | (simp; omega)), rfl, rfl, hS⟩ ⟨rfl, rfl, trivial⟩ ?_
    clear hS
    rintro qq frm wl4 ⟨k, hk, hq, rfl, hS⟩
    refine CW.seq fun K7 hK7 => ?_
    refine CW.seq fun K8 hK8 => ?_
    refine CW.region [0, 1, 2, 3] rfl ?_
    refine LW.ex rfl rfl rfl rfl (Ex.move rfl) hS.rd ?_
    refine LW.ex rfl rfl rfl rfl (Ex.move rfl) hS.rd ?_
    refine LW.ex rfl rfl rfl rfl (Ex.shr rfl rfl (by omega) (show (Int.toNat (k : Int)) ≤ 64 by omega) (shrN N k)) hS.rd ?_
    refine LW.ex rfl rfl rfl rfl (Ex.gtr rfl rfl rfl) hS.rd ?_
    refine LW.splitB (fun h4_3 => ?_) (fun h4_3 => ?_)
    · have h4_3 := of_decide_eq_true h4_3
      refine LW.nil fun aa ha => hK8 _ _ _ ?_ aa ha
      refine CW.yes rfl ?_
      refine CW.skip fun aa ha => hK7 _ _ _ ?_ aa ha
      refine CW.block ?_
      have hk1 := log2_step (n := N) (k := k) (by exact_mod_cast h4_3)
      refine CW.region [0, 1, 2] rfl ?_
      refine LW.ex rfl rfl rfl rfl (Ex.move rfl) hS.rd ?_
      refine LW.ex rfl rfl rfl rfl (Ex.add rfl rfl (by first | exact inc64 (by omega) | exact addN (by omega) | exact w64 (by omega) (by omega))) hS.rd ?_
      refine LW.ex rfl rfl rfl rfl (Ex.assign rfl) hS.rd ?_
      refine LW.nil fun aa ha => ?_
      refine ⟨_, _, ?m4, ⟨k + 1, (by first | omega | (simp; done) | (simp; omega)), rfl, rfl, hS⟩, ha.sub ⟨rfl, rfl, trivial⟩⟩
      case m4 => omega
    · have h4_3 := of_decide_eq_false h4_3
      refine LW.nil fun aa ha => hK8 _ _ _ ?_ aa ha
      refine CW.no rfl ?_
      refine CW.exit fun aa ha => hK6 _ _ _ ?_ aa ha
      refine CW.seq fun K9 hK9 => ?_
      refine CW.seq fun K10 hK10 => ?_
      have hkk := log2_stop (n := N) (k := k) (by omega) hk (by exact_mod_cast h4_3)
      have hp := logN_lo (n := N) (by omega)
      rw [← hkk] at hp
      have hp2 : 2 ^ k < 4611686018427387904 := Nat.pow_lt_pow_right (by decide) (show k < 62 by omega)
      obtain ⟨p, hpe⟩ : ∃ p, p = 2 ^ k := ⟨_, rfl⟩
      have hp0 : 0 < p := by rw [hpe]; exact Nat.two_pow_pos k
      rw [← hpe] at hp hp2
      have hp3 := logN_hi N
      rw [← hkk, Nat.pow_succ, ← hpe] at hp3
      refine CW.region [0, 1] rfl ?_
      refine LW.ex rfl rfl rfl rfl (Ex.move rfl) hS.rd ?_
      refine LW.ex rfl rfl rfl rfl (Ex.lss rfl rfl rfl) hS.rd ?_
      refine LW.splitB (fun h6_1 => ?_) (fun h6_1 => ?_)
      · have h6_1 := of_decide_eq_true h6_1
        refine LW.nil fun aa ha => hK10 _ _ _ ?_ aa ha
        refine CW.yes rfl ?_
        refine CW.seq fun K11 hK11 => ?_
        have hp4 : p ≤ 4 := by rw [hpe]; exact Nat.pow_le_pow_right (by decide) (show k ≤ 2 by omega)
        have hd : 8 * (N - p) / p ≤ 8 * (N - p) := Nat.div_le_self _ _
        obtain ⟨d8, hd8⟩ : ∃ d8, d8 = 8 * (N - p) / p := ⟨_, rfl⟩
        rw [← hd8] at hd
        refine CW.region [0, 1, 2, 3, 4, 5, 6, 7, 8, 9, 10] rfl ?_
        refine LW.ex rfl rfl rfl rfl (Ex.move rfl) hS.rd ?_
        refine LW.ex rfl rfl rfl rfl (Ex.mul rfl rfl (by first | exact w64 (by omega) (by omega))) hS.rd ?_
        refine LW.ex rfl rfl rfl rfl (Ex.move rfl) hS.rd ?_
        refine LW.ex rfl rfl rfl rfl (Ex.move rfl) hS.rd ?_
        refine LW.ex rfl rfl rfl rfl (Ex.shl rfl rfl (by omega) (show (Int.toNat (k : Int)) ≤ 64 by omega) (shlN hpe (by omega))) hS.rd ?_
        refine LW.ex rfl rfl rfl rfl (Ex.sub rfl rfl (by first | exact dec64 (by omega) (by omega) | exact subN (by omega) (by omega) | exact w64 (by omega) (by omega))) hS.rd ?_
        refine LW.ex rfl rfl rfl rfl (Ex.mul rfl rfl (by first | exact w64 (by omega) (by omega))) hS.rd ?_
        refine LW.ex rfl rfl rfl rfl (Ex.move rfl) hS.rd ?_
        refine LW.ex rfl rfl rfl rfl (Ex.shr rfl rfl (by omega) (show (Int.toNat (k : Int)) ≤ 64 by omega) (shrM (j := k) (a := 8 * (N - p)) (by omega) hpe (by omega) hd8)) hS.rd ?_
        refine LW.ex rfl rfl rfl rfl (Ex.add rfl rfl (by first | exact inc64 (by omega) | exact addN (by omega) | exact w64 (by omega) (by omega))) hS.rd ?_
        refine LW.ex rfl rfl rfl rfl (Ex.assign rfl) hS.rd ?_
        refine LW.nil fun aa ha => hK11 _ _ _ ?_ aa ha
        refine CW.ret fun aa ha => ?_
        refine ret_one ha Try.results71 rfl ?_
        exact hS.retE (by unfold logZ; rw [if_neg (by omega), Int.toNat_natCast, logN_small hkk, ← hpe, ← hd8]; congr 1)
      · have h6_1 := of_decide_eq_false h6_1
        refine LW.nil fun aa ha => hK10 _ _ _ ?_ aa ha
        refine CW.no rfl ?_
        refine CW.skip fun aa ha => hK9 _ _ _ ?_ aa ha
        refine CW.seq fun K12 hK12 => ?_
        obtain ⟨p8, hp8⟩ : ∃ p8, p8 = 2 ^ (k - 3) := ⟨_, rfl⟩
        have hd : (N - p) / p8 ≤ N - p := Nat.div_le_self _ _
        obtain ⟨d8, hd8⟩ : ∃ d8, d8 = (N - p) / p8 := ⟨_, rfl⟩
        rw [← hd8] at hd
        refine CW.region [0, 1, 2, 3, 4, 5, 6, 7, 8, 9, 10] rfl ?_
        refine LW.ex rfl rfl rfl rfl (Ex.move rfl) hS.rd ?_
        refine LW.ex rfl rfl rfl rfl (Ex.mul rfl rfl (by first | exact w64 (by omega) (by omega))) hS.rd ?_
        refine LW.ex rfl rfl rfl rfl (Ex.move rfl) hS.rd ?_
        refine LW.ex rfl rfl rfl rfl (Ex.move rfl) hS.rd ?_
        refine LW.ex rfl rfl rfl rfl (Ex.shl rfl rfl (by omega) (show (Int.toNat (k : Int)) ≤ 64 by omega) (shlN hpe (by omega))) hS.rd ?_
        refine LW.ex rfl rfl rfl rfl (Ex.sub rfl rfl (by first | exact dec64 (by omega) (by omega) | exact subN (by omega) (by omega) | exact w64 (by omega) (by omega))) hS.rd ?_
        refine LW.ex rfl rfl rfl rfl (Ex.move rfl) hS.rd ?_
        refine LW.ex rfl rfl rfl rfl (Ex.sub rfl rfl (by first | exact dec64 (by omega) (by omega) | exact subN (by omega) (by omega) | exact w64 (by omega) (by omega))) hS.rd ?_
        refine LW.ex rfl rfl rfl rfl (Ex.shr rfl rfl (by omega) (show (Int.toNat ((k : Int) - 3)) ≤ 64 by omega) (shrM (j := k - 3) (a := N - p) (by omega) hp8 (by omega) hd8)) hS.rd ?_
        refine LW.ex rfl rfl rfl rfl (Ex.add rfl rfl (by first | exact inc64 (by omega) | exact addN (by omega) | exact w64 (by omega) (by omega))) hS.rd ?_
        refine LW.ex rfl rfl rfl rfl (Ex.assign rfl) hS.rd ?_
        refine LW.nil fun aa ha => hK12 _ _ _ ?_ aa ha
        refine CW.ret fun aa ha => ?_
        refine ret_one ha Try.results71 rfl ?_
        exact hS.retE (by unfold logZ; rw [if_neg (by omega), Int.toNat_natCast, logN_great hkk (by omega), ← hpe, ← hp8, ← hd8]; congr 1)
theorem tdivN (a b : Nat) : ((a : Int)).tdiv (b : Int) = ((a / b : Nat) : Int) := by rw [Int.ofNat_tdiv]
theorem tdivM {x y : Int} {a b d : Nat} (hx : x = (a : Int)) (hy : y = (b : Int)) (hd : d = a / b) : x.tdiv y = (d : Int) := by
  subst hx hy hd; exact tdivN a b
theorem tdivW {x y : Int} {a b d : Nat} (hx : x = (a : Int)) (hy : y = (b : Int)) (hd : d = a / b) (h : d ≤ 9223372036854775807) : IntKind.i64.wrap (x.tdiv y) = (d : Int) := by
  rw [tdivM hx hy hd]; exact w64 (by omega) (by omega)

end Go.Proofs.Ytgnpjhellmfhoaa

/-
  Context: sums of counts.
-/
namespace Go.Proofs.Ytgnpjhellmfhoaa
open Go.RowKit Sy

def totalGo (b : Int) : Int → List Int → Int × Bool
  | acc, [] => (acc, decide (acc ≤ 1073741824))
  | acc, x :: l => if x < b ∨ 1073741824 < x then (0, false) else totalGo b (acc + x) l
theorem drop_cons {α : Type} {l : List α} {i : Nat} (h : i < l.length) : l.drop i = l[i] :: l.drop (i + 1) := (List.getElem_cons_drop h).symm

set_option maxRecDepth 100000 in
theorem total_c (l : List Int) (b : Int) (hb : 0 ≤ b) (hl : l.length ≤ 4294967296) (ad : Option Addr) (c : Nat) (μ : Mem) (w : World) (hμ : Imm μ w) (hs : Sl μ ad c l) :
    Calls Try.prog 62 #[.slice ad l.length c, .int .i64 b] w (RetS w (.tuple #[.int .i64 (totalGo b 0 l).1, .bool (totalGo b 0 l).2])) := by
  have hS := St.start w μ hμ
  refine calls_start 29 [.slice ad l.length c, .int .i64 b] Try.func62 rfl Try.ntmps62 rfl rfl ?_
  refine CW.seq fun K1 hK1 => ?_
  refine CW.region [0, 1] rfl ?_
  refine LW.ex rfl rfl rfl rfl (Ex.assign rfl) hS.rd ?_
  refine LW.ex rfl rfl rfl rfl (Ex.assign rfl) hS.rd ?_
  refine LW.nil fun aa ha => hK1 _ _ _ ?_ aa ha
  refine CW.seq fun K2 hK2 => ?_
  refine CW.region [0] rfl ?_
  refine LW.ex rfl rfl rfl rfl (Ex.assign rfl) hS.rd ?_
  refine LW.nil fun aa ha => hK2 _ _ _ ?_ aa ha
  refine CW.seq fun K3 hK3 => ?_
  refine CW.seq fun K4 hK4 => ?_
  refine CW.region [0, 1, 2] rfl ?_
  refine LW.ex rfl rfl rfl rfl (Ex.move rfl) hS.rd ?_
  refine LW.ex rfl rfl rfl rfl (Ex.lenSl rfl Try.underlying31 rfl) hS.rd ?_
  refine LW.ex rfl rfl rfl rfl (Ex.move rfl) hS.rd ?_
  refine LW.nil fun aa ha => hK4 _ _ _ ?_ aa ha
  refine CW.block ?_
  refine CW.loop (fun qq frm wl3 => ∃ (i : Nat) (s : Int), i ≤ l.length ∧ 0 ≤ s ∧ s ≤ i * 1073741824 ∧ qq = l.length - i ∧ frm = [(1, .int .i64 b), (6, .int .i64 s), (9, .slice ad l.length c), (10, .int .i64 ((l.length : Nat) : Int)), (11, .int .i64 i)] ∧ St w wl3 μ [] ∧ (totalGo b 0 l = totalGo b s (l.drop i))) _ ⟨0, 0, (by first | omega | (simp; done) | (simp; omega)), (by first | omega | (simp; done) | (simp; omega)), (by first | omega | (simp; done) | (simp; omega)), rfl, rfl, hS, rfl⟩ ⟨rfl, rfl, rfl, rfl, rfl, trivial⟩ ?_
  clear hS
  rintro qq frm wl3 ⟨i, s, hi, hs0, hs1, hq, rfl, hS, he⟩
  refine CW.seq fun K5 hK5 => ?_
  refine CW.region [0] rfl ?_
  refine LW.ex rfl rfl rfl rfl (Ex.lss rfl rfl rfl) hS.rd ?_
  refine LW.splitB (fun h3_0 => ?_) (fun h3_0 => ?_)
  · have h3_0 := of_decide_eq_true h3_0
    refine LW.nil fun aa ha => hK5 _ _ _ ?_ aa ha
    refine CW.seq fun K6 hK6 => ?_
    refine CW.yes rfl ?_
    refine CW.skip fun aa ha => hK6 _ _ _ ?_ aa ha
    refine CW.seq fun K7 hK7 => ?_
    refine CW.block ?_
    refine CW.seq fun K8 hK8 => ?_
    have hi2 : i < l.length := by omega
    obtain ⟨bl, ol, rfl, k0⟩ := hs.at hi2
    rw [drop_cons hi2, totalGo] at he
    refine CW.region [0, 1, 2] rfl ?_
    refine LW.ex rfl rfl rfl rfl (Ex.indexSl Try.underlying31 ti3 rfl rfl rfl (by omega)) hS.rd ?_
    refine LW.ex rfl rfl rfl rfl (Ex.load1 ti3 rfl rfl (by first | exact obT rfl | exact Rd.imm ‹_› | exact slT ‹_›)) hS.rd ?_
    refine LW.ex rfl rfl rfl rfl (Ex.assign rfl) hS.rd ?_
    refine LW.nil fun aa ha => hK8 _ _ _ ?_ aa ha
    refine CW.seq fun K9 hK9 => ?_
    refine CW.seq fun K10 hK10 => ?_
    refine CW.region [0, 1, 2, 3, 4, 5, 6] rfl ?_
    refine LW.ex rfl rfl rfl rfl (Ex.move rfl) hS.rd ?_
    refine LW.ex rfl rfl rfl rfl (Ex.move rfl) hS.rd ?_
    refine LW.ex rfl rfl rfl rfl (Ex.lss rfl rfl rfl) hS.rd ?_
    refine LW.splitB (fun h5_2 => ?_) (fun h5_2 => ?_)
    · have h5_2 := of_decide_eq_true h5_2
      refine LW.ex rfl rfl rfl rfl (Ex.move rfl) hS.rd ?_
      refine LW.skip rfl rfl rfl rfl ?_
      refine LW.skip rfl rfl rfl rfl ?_
      refine LW.ex rfl rfl rfl rfl (by first | exact Ex.pick_yes rfl rfl | exact Ex.pick_no rfl rfl) hS.rd ?_
      refine LW.nil fun aa ha => hK10 _ _ _ ?_ aa ha
      refine CW.yes rfl ?_
      refine CW.seq fun K11 hK11 => ?_
      refine CW.region [0, 1] rfl ?_
      refine LW.ex rfl rfl rfl rfl (Ex.assign rfl) hS.rd ?_
      refine LW.ex rfl rfl rfl rfl (Ex.assign rfl) hS.rd ?_
      refine LW.nil fun aa ha => hK11 _ _ _ ?_ aa ha
      refine CW.ret fun aa ha => ?_
      refine ret_two ha Try.results62 rfl rfl ?_
      exact hS.retE (by rw [he, if_pos (by omega)])
    · have h5_2 := of_decide_eq_false h5_2
      refine LW.ex rfl rfl rfl rfl (Ex.move rfl) hS.rd ?_
      refine LW.ex rfl rfl rfl rfl (Ex.move rfl) hS.rd ?_
      refine LW.ex rfl rfl rfl rfl (Ex.gtr rfl rfl rfl) hS.rd ?_
      refine LW.splitB (fun h5_5 => ?_) (fun h5_5 => ?_)
      · have h5_5 := of_decide_eq_true h5_5
        refine LW.ex rfl rfl rfl rfl (by first | exact Ex.pick_yes rfl rfl | exact Ex.pick_no rfl rfl) hS.rd ?_
        refine LW.nil fun aa ha => hK10 _ _ _ ?_ aa ha
        refine CW.yes rfl ?_
        refine CW.seq fun K12 hK12 => ?_
        refine CW.region [0, 1] rfl ?_
        refine LW.ex rfl rfl rfl rfl (Ex.assign rfl) hS.rd ?_
        refine LW.ex rfl rfl rfl rfl (Ex.assign rfl) hS.rd ?_
        refine LW.nil fun aa ha => hK12 _ _ _ ?_ aa ha
        refine CW.ret fun aa ha => ?_
        refine ret_two ha Try.results62 rfl rfl ?_
        exact hS.retE (by rw [he, if_pos (by omega)])
      · have h5_5 := of_decide_eq_false h5_5
        refine LW.ex rfl rfl rfl rfl (by first | exact Ex.pick_yes rfl rfl | exact Ex.pick_no rfl rfl) hS.rd ?_
        refine LW.nil fun aa ha => hK10 _ _ _ ?_ aa ha
        refine CW.no rfl ?_
        refine CW.skip fun aa ha => hK9 _ _ _ ?_ aa ha
        refine CW.region [0, 1, 2, 3] rfl ?_
        refine LW.ex rfl rfl rfl rfl (Ex.move rfl) hS.rd ?_
        refine LW.ex rfl rfl rfl rfl (Ex.move rfl) hS.rd ?_
        refine LW.ex rfl rfl rfl rfl (Ex.add rfl rfl (by first | exact inc64 (by omega) | exact addN (by omega) | exact w64 (by omega) (by omega))) hS.rd ?_
        refine LW.ex rfl rfl rfl rfl (Ex.assign rfl) hS.rd ?_
        refine LW.nil fun aa ha => hK7 _ _ _ ?_ aa ha
        refine CW.region [0, 1] rfl ?_
        refine LW.ex rfl rfl rfl rfl (Ex.add rfl rfl (by first | exact inc64 (by omega) | exact addN (by omega) | exact w64 (by omega) (by omega))) hS.rd ?_
        refine LW.ex rfl rfl rfl rfl (Ex.move rfl) hS.rd ?_
        refine LW.nil fun aa ha => ?_
        refine ⟨_, _, ?m3, ⟨i + 1, s + l[i], (by first | omega | (simp; done) | (simp; omega)), (by first | omega | (simp; done) | (simp; omega)), (by first | omega | (simp; done) | (simp; omega)), rfl, rfl, hS, by rw [he, if_neg (by omega)]⟩, ha.sub ⟨rfl, rfl, rfl, rfl, rfl, trivial⟩⟩
        case m3 => omega
  · have h3_0 := of_decide_eq_false h3_0
    refine LW.nil fun aa ha => hK5 _ _ _ ?_ aa ha
    refine CW.seq fun K13 hK13 => ?_
    refine CW.no rfl ?_
    refine CW.exit fun aa ha => hK3 _ _ _ ?_ aa ha
    refine CW.seq fun K14 hK14 => ?_
    refine CW.region [0, 1, 2, 3, 4] rfl ?_
    refine LW.ex rfl rfl rfl rfl (Ex.move rfl) hS.rd ?_
    refine LW.ex rfl rfl rfl rfl (Ex.move rfl) hS.rd ?_
    refine LW.ex rfl rfl rfl rfl (Ex.leq rfl rfl (by first | exact decide_eq_true (by omega) | exact decide_eq_false (by omega) | rfl)) hS.rd ?_
    refine LW.ex rfl rfl rfl rfl (Ex.assign rfl) hS.rd ?_
    refine LW.ex rfl rfl rfl rfl (Ex.assign rfl) hS.rd ?_
    refine LW.nil fun aa ha => hK14 _ _ _ ?_ aa ha
    refine CW.ret fun aa ha => ?_
    refine ret_two ha Try.results62 rfl rfl ?_
    exact hS.retE (by rw [he, show i = l.length by omega, List.drop_length, totalGo])
set_option maxRecDepth 100000 in
theorem ints_c (a b : List Int) (ada adb : Option Addr) (ca cb : Nat) (μ : Mem) (w : World) (hμ : Imm μ w) (ha0 : Sl μ ada ca a) (hb0 : Sl μ adb cb b) :
    Calls Try.prog 18 #[.slice ada a.length ca, .slice adb b.length cb] w (RetS w (.bool (decide (a = b)))) := by
  have hal : a.length ≤ 9223372036854775807 := by have := ha0.1; have := ha0.2.1; simp only [maxLen] at this; omega
  have hS := St.start w μ hμ
  refine calls_start 26 [.slice ada a.length ca, .slice adb b.length cb] Try.func18 rfl Try.ntmps18 rfl rfl ?_
  refine CW.seq fun K23 hK23 => ?_
  refine CW.region [0] rfl ?_
  refine LW.ex rfl rfl rfl rfl (Ex.assign rfl) hS.rd ?_
  refine LW.nil fun aa ha => hK23 _ _ _ ?_ aa ha
  refine CW.seq fun K24 hK24 => ?_
  refine CW.seq fun K25 hK25 => ?_
  refine CW.region [0, 1, 2, 3, 4] rfl ?_
  refine LW.ex rfl rfl rfl rfl (Ex.move rfl) hS.rd ?_
  refine LW.ex rfl rfl rfl rfl (Ex.lenSl rfl Try.underlying31 rfl) hS.rd ?_
  refine LW.ex rfl rfl rfl rfl (Ex.move rfl) hS.rd ?_
  refine LW.ex rfl rfl rfl rfl (Ex.lenSl rfl Try.underlying31 rfl) hS.rd ?_
  refine LW.ex rfl rfl rfl rfl (Ex.neq rfl rfl rfl) hS.rd ?_
  refine LW.splitB (fun h1_4 => ?_) (fun h1_4 => ?_)
  · have h1_4 := of_decide_eq_true h1_4
    refine LW.nil fun aa ha => hK25 _ _ _ ?_ aa ha
    refine CW.yes rfl ?_
    refine CW.seq fun K26 hK26 => ?_
    refine CW.region [0] rfl ?_
    refine LW.ex rfl rfl rfl rfl (Ex.assign rfl) hS.rd ?_
    refine LW.nil fun aa ha => hK26 _ _ _ ?_ aa ha
    refine CW.ret fun aa ha => ?_
    refine ret_one ha Try.results18 rfl ?_
    exact hS.retE (by rw [decide_eq_false (fun h => by rw [h] at h1_4; exact h1_4 rfl)])
  · have h1_4 := of_decide_eq_false h1_4
    refine LW.nil fun aa ha => hK25 _ _ _ ?_ aa ha
    refine CW.no rfl ?_
    refine CW.skip fun aa ha => hK24 _ _ _ ?_ aa ha
    refine CW.seq fun K27 hK27 => ?_
    refine CW.seq fun K28 hK28 => ?_
    refine CW.region [0] rfl ?_
    refine LW.ex rfl rfl rfl rfl (Ex.assign rfl) hS.rd ?_
    refine LW.nil fun aa ha => hK28 _ _ _ ?_ aa ha
    refine CW.block ?_
    refine CW.loop (fun qq frm wl4 => ∃ (i : Nat), i ≤ a.length ∧ qq = a.length - i ∧ frm = [(0, .slice ada a.length ca), (1, .slice adb b.length cb), (5, .int .i64 i)] ∧ St w wl4 μ [] ∧ (a.take i = b.take i)) _ ⟨0, (by first | omega | (simp; done) | (simp; omega)), rfl, rfl, hS, rfl⟩ ⟨rfl, rfl, rfl, trivial⟩ ?_
    clear hS
    rintro qq frm wl4 ⟨i, hi, hq, rfl, hS, he⟩
    refine CW.seq fun K29 hK29 => ?_
    refine CW.seq fun K30 hK30 => ?_
    refine CW.region [0, 1, 2, 3] rfl ?_
    refine LW.ex rfl rfl rfl rfl (Ex.move rfl) hS.rd ?_
    refine LW.ex rfl rfl rfl rfl (Ex.move rfl) hS.rd ?_
    refine LW.ex rfl rfl rfl rfl (Ex.lenSl rfl Try.underlying31 rfl) hS.rd ?_
    refine LW.ex rfl rfl rfl rfl (Ex.lss rfl rfl rfl) hS.rd ?_
    refine LW.splitB (fun h4_3 => ?_) (fun h4_3 => ?_)
    · have h4_3 := of_decide_eq_true h4_3
      refine LW.nil fun aa ha => hK30 _ _ _ ?_ aa ha
      refine CW.yes rfl ?_
      refine CW.skip fun aa ha => hK29 _ _ _ ?_ aa ha
      refine CW.seq fun K31 hK31 => ?_
      refine CW.block ?_
      refine CW.seq fun K32 hK32 => ?_
      have hi2 : i < a.length := by omega
      have hi3 : i < b.length := by omega
      obtain ⟨bl, ol, rfl, k0⟩ := ha0.at hi2
      obtain ⟨bl2, ol2, rfl, j0⟩ := hb0.at hi3
      have hS := hS.drew
      refine CW.draw 9 (.ex 0 <| .ex 1 <| .ex 2 <| .ex 3 <| .ex 4 <| .ex 5 <| .ex 6 <| .ex 7 <| .ex 8 <| .done) [] (Rd _ _) mixed (by kernel_rfl) rfl rfl hS.rd ?_
      refine PW.ex rfl rfl rfl rfl (Ex.move rfl) ?_
      refine PW.ex rfl rfl rfl rfl (Ex.move rfl) ?_
      refine PW.ex rfl rfl rfl rfl (Ex.indexSl Try.underlying31 ti3 rfl rfl rfl (by omega)) ?_
      refine PW.ex rfl rfl rfl rfl (Ex.load1 ti3 rfl rfl (by first | exact obT rfl | exact Rd.imm ‹_› | exact slT ‹_›)) ?_
      refine PW.ex rfl rfl rfl rfl (Ex.move rfl) ?_
      refine PW.ex rfl rfl rfl rfl (Ex.move rfl) ?_
      refine PW.ex rfl rfl rfl rfl (Ex.indexSl Try.underlying31 ti3 rfl rfl rfl (by omega)) ?_
      refine PW.ex rfl rfl rfl rfl (Ex.load1 ti3 rfl rfl (by first | exact obT rfl | exact Rd.imm ‹_› | exact slT ‹_›)) ?_
      refine PW.ex rfl rfl rfl rfl (Ex.neq rfl rfl rfl) ?_
      refine PW.splitB (fun h6_8 => ?_) (fun h6_8 => ?_)
      · have h6_8 := of_decide_eq_true h6_8
        refine PW.nil ?_
        refine LW.nil fun aa ha => hK32 _ _ _ ?_ aa ha
        refine CW.yes rfl ?_
        refine CW.seq fun K33 hK33 => ?_
        refine CW.region [0] rfl ?_
        refine LW.ex rfl rfl rfl rfl (Ex.assign rfl) hS.rd ?_
        refine LW.nil fun aa ha => hK33 _ _ _ ?_ aa ha
        refine CW.ret fun aa ha => ?_
        refine ret_one ha Try.results18 rfl ?_
        exact hS.retE (by rw [decide_eq_false (fun h => by subst h; exact h6_8 rfl)])
      · have h6_8 := of_decide_eq_false h6_8
        refine PW.nil ?_
        refine LW.nil fun aa ha => hK32 _ _ _ ?_ aa ha
        refine CW.no rfl ?_
        refine CW.skip fun aa ha => hK31 _ _ _ ?_ aa ha
        refine CW.region [0, 1, 2] rfl ?_
        refine LW.ex rfl rfl rfl rfl (Ex.move rfl) hS.rd ?_
        refine LW.ex rfl rfl rfl rfl (Ex.add rfl rfl (by first | exact inc64 (by omega) | exact addN (by omega) | exact w64 (by omega) (by omega))) hS.rd ?_
        refine LW.ex rfl rfl rfl rfl (Ex.assign rfl) hS.rd ?_
        refine LW.nil fun aa ha => ?_
        refine ⟨_, _, ?m4, ⟨i + 1, (by first | omega | (simp; done) | (simp; omega)), rfl, rfl, hS, by rw [List.take_succ_eq_append_getElem hi2, List.take_succ_eq_append_getElem hi3, he, show a[i] = b[i] by omega]⟩, ha.sub ⟨rfl, rfl, rfl, trivial⟩⟩
        case m4 => omega
    · have h4_3 := of_decide_eq_false h4_3
      refine LW.nil fun aa ha => hK30 _ _ _ ?_ aa ha
      refine CW.no rfl ?_
      refine CW.exit fun aa ha => hK27 _ _ _ ?_ aa ha
      refine CW.seq fun K34 hK34 => ?_
      refine CW.region [0] rfl ?_
      refine LW.ex rfl rfl rfl rfl (Ex.assign rfl) hS.rd ?_
      refine LW.nil fun aa ha => hK34 _ _ _ ?_ aa ha
      refine CW.ret fun aa ha => ?_
      refine ret_one ha Try.results18 rfl ?_
      exact hS.retE (by rw [decide_eq_true (by have h1 : i = a.length := (by omega); have h2 : a.length = b.length := (by omega); rw [h1, List.take_length, h2, List.take_length] at he; exact he)])
end Go.Proofs.Ytgnpjhellmfhoaa

/-
  The walks of cmp.isNaN, cmp.Compare and cmp.Or.
-/
namespace Go.Proofs.Ytgnpjhellmfhoaa
open Go.RowKit Sy

def cmpI (a b : Int) : Int := if a < b then -1 else if b < a then 1 else 0
theorem nan_c (a : Int) (w : World) : Calls Try.prog 87 #[.int .i64 a] w (RetS w (.bool false)) := by
  have hS := St.start w (fun _ => none) (fun _ _ h => by cases h)
  refine calls_start 6 [.int .i64 a] Try.func87 rfl Try.ntmps87 rfl rfl ?_
  refine CW.seq fun K0 hK0 => ?_
  refine CW.region [0] rfl ?_
  refine LW.ex rfl rfl rfl rfl (Ex.assign rfl) hS.rd ?_
  refine LW.nil fun aa ha => hK0 _ _ _ ?_ aa ha
  refine CW.seq fun K1 hK1 => ?_
  refine CW.region [0, 1, 2, 3] rfl ?_
  refine LW.ex rfl rfl rfl rfl (Ex.move rfl) hS.rd ?_
  refine LW.ex rfl rfl rfl rfl (Ex.move rfl) hS.rd ?_
  refine LW.ex rfl rfl rfl rfl (Ex.neq rfl rfl (by first | exact decide_eq_true (by omega) | exact decide_eq_false (by omega) | rfl)) hS.rd ?_
  refine LW.ex rfl rfl rfl rfl (Ex.assign rfl) hS.rd ?_
  refine LW.nil fun aa ha => hK1 _ _ _ ?_ aa ha
  refine CW.ret fun aa ha => ?_
  exact ret_one ha Try.results87 rfl hS.retS
theorem cmp_c (a b : Int) (w : World) : Calls Try.prog 72 #[.int .i64 a, .int .i64 b] w (RetS w (.int .i64 (cmpI a b))) := by
  have hS := St.start w (fun _ => none) (fun _ _ h => by cases h)
  refine calls_start 20 [.int .i64 a, .int .i64 b] Try.func72 rfl Try.ntmps72 rfl rfl ?_
  refine CW.seq fun K0 hK0 => ?_
  refine CW.region [0] rfl ?_
  refine LW.ex rfl rfl rfl rfl (Ex.assign rfl) hS.rd ?_
  refine LW.nil fun aa ha => hK0 _ _ _ ?_ aa ha
  refine CW.seq fun K1 hK1 => ?_
  refine CW.region [0, 1, 2] rfl ?_
  refine LW.ex rfl rfl rfl rfl (Ex.move rfl) hS.rd ?_
  refine LW.hv rfl rfl rfl rfl (Hv.callS hS rfl rfl rfl cb87 (nan_c _ _)) fun v w8 ⟨hv, hS⟩ => ?_
  subst hv
  refine LW.ex rfl rfl rfl rfl (Ex.assign rfl) hS.rd ?_
  refine LW.nil fun aa ha => hK1 _ _ _ ?_ aa ha
  refine CW.seq fun K2 hK2 => ?_
  refine CW.region [0, 1, 2] rfl ?_
  refine LW.ex rfl rfl rfl rfl (Ex.move rfl) hS.rd ?_
  refine LW.hv rfl rfl rfl rfl (Hv.callS hS rfl rfl rfl cb87 (nan_c _ _)) fun v w10 ⟨hv, hS⟩ => ?_
  subst hv
  refine LW.ex rfl rfl rfl rfl (Ex.assign rfl) hS.rd ?_
  refine LW.nil fun aa ha => hK2 _ _ _ ?_ aa ha
  refine CW.seq fun K3o hK3o => ?_
  refine CW.seq fun K3 hK3 => ?_
  refine CW.region [0] rfl ?_
  refine LW.ex rfl rfl rfl rfl (Ex.move rfl) hS.rd ?_
  refine LW.nil fun aa ha => hK3 _ _ _ ?_ aa ha
  refine CW.no rfl (CW.skip fun aa ha => hK3o _ _ _ ?_ aa ha)
  refine CW.seq fun K7o hK7o => ?_
  refine CW.seq fun K7 hK7 => ?_
  refine CW.region [0] rfl ?_
  refine LW.ex rfl rfl rfl rfl (Ex.move rfl) hS.rd ?_
  refine LW.nil fun aa ha => hK7 _ _ _ ?_ aa ha
  refine CW.no rfl (CW.skip fun aa ha => hK7o _ _ _ ?_ aa ha)
  by_cases h1 : a < b
  · skip
    refine CW.seq fun K9o hK9o => ?_
    refine CW.seq fun K9 hK9 => ?_
    refine CW.region [0, 1, 2] rfl ?_
    refine LW.ex rfl rfl rfl rfl (Ex.move rfl) hS.rd ?_
    refine LW.ex rfl rfl rfl rfl (Ex.move rfl) hS.rd ?_
    refine LW.ex rfl rfl rfl rfl (Ex.lss rfl rfl (by first | exact decide_eq_true (by omega) | exact decide_eq_false (by omega) | rfl)) hS.rd ?_
    refine LW.nil fun aa ha => hK9 _ _ _ ?_ aa ha
    refine CW.yes rfl ?_
    refine CW.seq fun K10 hK10 => ?_
    refine CW.region [0] rfl ?_
    refine LW.ex rfl rfl rfl rfl (Ex.assign rfl) hS.rd ?_
    refine LW.nil fun aa ha => hK10 _ _ _ ?_ aa ha
    refine CW.ret fun aa ha => ?_
    refine ret_one ha Try.results72 rfl ?_
    rw [show cmpI a b = -1 by simp [cmpI, h1]]; exact hS.retS
  · skip
    refine CW.seq fun K9o hK9o => ?_
    refine CW.seq fun K9 hK9 => ?_
    refine CW.region [0, 1, 2] rfl ?_
    refine LW.ex rfl rfl rfl rfl (Ex.move rfl) hS.rd ?_
    refine LW.ex rfl rfl rfl rfl (Ex.move rfl) hS.rd ?_
    refine LW.ex rfl rfl rfl rfl (Ex.lss rfl rfl (by first | exact decide_eq_true (by omega) | exact decide_eq_false (by omega) | rfl)) hS.rd ?_
    refine LW.nil fun aa ha => hK9 _ _ _ ?_ aa ha
    refine CW.no rfl (CW.skip fun aa ha => hK9o _ _ _ ?_ aa ha)
    by_cases h2 : b < a
    · skip
      refine CW.seq fun K11o hK11o => ?_
      refine CW.seq fun K11 hK11 => ?_
      refine CW.region [0, 1, 2] rfl ?_
      refine LW.ex rfl rfl rfl rfl (Ex.move rfl) hS.rd ?_
      refine LW.ex rfl rfl rfl rfl (Ex.move rfl) hS.rd ?_
      refine LW.ex rfl rfl rfl rfl (Ex.gtr rfl rfl (by first | exact decide_eq_true (by omega) | exact decide_eq_false (by omega) | rfl)) hS.rd ?_
      refine LW.nil fun aa ha => hK11 _ _ _ ?_ aa ha
      refine CW.yes rfl ?_
      refine CW.seq fun K12 hK12 => ?_
      refine CW.region [0] rfl ?_
      refine LW.ex rfl rfl rfl rfl (Ex.assign rfl) hS.rd ?_
      refine LW.nil fun aa ha => hK12 _ _ _ ?_ aa ha
      refine CW.ret fun aa ha => ?_
      refine ret_one ha Try.results72 rfl ?_
      rw [show cmpI a b = 1 by simp [cmpI, h1, h2]]; exact hS.retS
    · skip
      refine CW.seq fun K11o hK11o => ?_
      refine CW.seq fun K11 hK11 => ?_
      refine CW.region [0, 1, 2] rfl ?_
      refine LW.ex rfl rfl rfl rfl (Ex.move rfl) hS.rd ?_
      refine LW.ex rfl rfl rfl rfl (Ex.move rfl) hS.rd ?_
      refine LW.ex rfl rfl rfl rfl (Ex.gtr rfl rfl (by first | exact decide_eq_true (by omega) | exact decide_eq_false (by omega) | rfl)) hS.rd ?_
      refine LW.nil fun aa ha => hK11 _ _ _ ?_ aa ha
      refine CW.no rfl (CW.skip fun aa ha => hK11o _ _ _ ?_ aa ha)
      refine CW.seq fun K13 hK13 => ?_
      refine CW.region [0] rfl ?_
      refine LW.ex rfl rfl rfl rfl (Ex.assign rfl) hS.rd ?_
      refine LW.nil fun aa ha => hK13 _ _ _ ?_ aa ha
      refine CW.ret fun aa ha => ?_
      refine ret_one ha Try.results72 rfl ?_
      rw [show cmpI a b = 0 by simp [cmpI, h1, h2]]; exact hS.retS

/-- cmp.Or -/
def orL : List Int → Int
  | [] => 0
  | x :: r => if x = 0 then orL r else x
theorem or_c (l : List Int) (ad : Option Addr) (c : Nat) (μ : Mem) (w : World) (hμ : Imm μ w) (hl : Sl μ ad c l) :
    Calls Try.prog 81 #[.slice ad l.length c] w (RetS w (.int .i64 (orL l))) := by
  have hS := St.start w μ hμ
  have hlc : l.length ≤ 9223372036854775807 := by have := hl.1; have := hl.2.1; simp only [maxLen] at this; omega
  refine calls_start 18 [.slice ad l.length c] Try.func81 rfl Try.ntmps81 rfl rfl ?_
  refine CW.seq fun K0 hK0 => ?_
  refine CW.region [0] rfl ?_
  refine LW.ex rfl rfl rfl rfl (Ex.assign rfl) hS.rd ?_
  refine LW.nil fun aa ha => hK0 _ _ _ ?_ aa ha
  refine CW.seq fun K1 hK1 => ?_
  refine CW.region [0] rfl ?_
  refine LW.ex rfl rfl rfl rfl (Ex.assign rfl) hS.rd ?_
  refine LW.nil fun aa ha => hK1 _ _ _ ?_ aa ha
  refine CW.seq fun K2o hK2o => ?_
  refine CW.seq fun K2 hK2 => ?_
  refine CW.region [0, 1, 2] rfl ?_
  refine LW.ex rfl rfl rfl rfl (Ex.move rfl) hS.rd ?_
  refine LW.ex rfl rfl rfl rfl (Ex.lenSl rfl Try.underlying31 rfl) hS.rd ?_
  refine LW.ex rfl rfl rfl rfl (Ex.move rfl) hS.rd ?_
  refine LW.nil fun aa ha => hK2 _ _ _ ?_ aa ha
  refine CW.block ?_
  refine CW.loop (fun q m w1 => ∃ (i : Nat), i ≤ l.length ∧ q = l.length - i ∧ m = [(3, .int .i64 0), (6, .slice ad l.length c), (7, .int .i64 l.length), (8, .int .i64 i)] ∧ St w w1 μ [] ∧ orL l = orL (l.drop i)) l.length
    ⟨0, by omega, by omega, rfl, hS, rfl⟩ ⟨rfl, rfl, rfl, rfl, trivial⟩ ?_
  clear hS
  rintro q m w1 ⟨i, hi, hq, rfl, hS, he⟩
  by_cases h1 : i < l.length
  · skip
    refine CW.seq fun K3 hK3 => ?_
    refine CW.region [0] rfl ?_
    refine LW.ex rfl rfl rfl rfl (Ex.lss rfl rfl (by first | exact decide_eq_true (by omega) | exact decide_eq_false (by omega) | rfl)) hS.rd ?_
    refine LW.nil fun aa ha => hK3 _ _ _ ?_ aa ha
    refine CW.seq fun Kc hKc => ?_
    refine CW.yes rfl ?_
    refine CW.skip fun aa ha => hKc _ _ _ ?_ aa ha
    obtain ⟨bl, ol, rfl, hc⟩ := hl.at h1
    rw [List.drop_eq_getElem_cons h1] at he
    refine CW.seq fun Kb hKb => ?_
    refine CW.block ?_
    refine CW.seq fun K4 hK4 => ?_
    refine CW.region [0, 1, 2] rfl ?_
    refine LW.ex rfl rfl rfl rfl (Ex.indexSl Try.underlying31 ti3 rfl rfl rfl (by omega)) hS.rd ?_
    refine LW.ex rfl rfl rfl rfl (Ex.load1 ti3 rfl rfl (by first | exact obT rfl | exact Rd.imm ‹_› | exact slT ‹_›)) hS.rd ?_
    refine LW.ex rfl rfl rfl rfl (Ex.assign rfl) hS.rd ?_
    refine LW.nil fun aa ha => hK4 _ _ _ ?_ aa ha
    by_cases hz : l[i] = 0
    · skip
      refine CW.seq fun K5 hK5 => ?_
      refine CW.region [0, 1, 2] rfl ?_
      refine LW.ex rfl rfl rfl rfl (Ex.move rfl) hS.rd ?_
      refine LW.ex rfl rfl rfl rfl (Ex.move rfl) hS.rd ?_
      refine LW.ex rfl rfl rfl rfl (Ex.neq rfl rfl (by first | exact decide_eq_true (by omega) | exact decide_eq_false (by omega) | rfl)) hS.rd ?_
      refine LW.nil fun aa ha => hK5 _ _ _ ?_ aa ha
      refine CW.no rfl (CW.skip fun aa ha => hKb _ _ _ ?_ aa ha)
      refine CW.region [0, 1] rfl ?_
      refine LW.ex rfl rfl rfl rfl (Ex.add rfl rfl (by first | exact inc64 (by omega) | exact addN (by omega) | exact w64 (by omega) (by omega))) hS.rd ?_
      refine LW.ex rfl rfl rfl rfl (Ex.move rfl) hS.rd ?_
      refine LW.nil fun aa ha => ?_
      refine ⟨l.length - (i + 1), _, by omega, ⟨i + 1, by omega, rfl, rfl, hS, ?_⟩, ha.sub ⟨rfl, rfl, rfl, rfl, trivial⟩⟩
      rw [he, orL, if_pos hz]
    · skip
      refine CW.seq fun K5 hK5 => ?_
      refine CW.region [0, 1, 2] rfl ?_
      refine LW.ex rfl rfl rfl rfl (Ex.move rfl) hS.rd ?_
      refine LW.ex rfl rfl rfl rfl (Ex.move rfl) hS.rd ?_
      refine LW.ex rfl rfl rfl rfl (Ex.neq rfl rfl (by first | exact decide_eq_true (by omega) | exact decide_eq_false (by omega) | rfl)) hS.rd ?_
      refine LW.nil fun aa ha => hK5 _ _ _ ?_ aa ha
      refine CW.yes rfl ?_
      refine CW.seq fun K6 hK6 => ?_
      refine CW.region [0, 1] rfl ?_
      refine LW.ex rfl rfl rfl rfl (Ex.move rfl) hS.rd ?_
      refine LW.ex rfl rfl rfl rfl (Ex.assign rfl) hS.rd ?_
      refine LW.nil fun aa ha => hK6 _ _ _ ?_ aa ha
      refine CW.ret fun aa ha => ?_
      refine ret_one ha Try.results81 rfl ?_
      rw [he, orL, if_neg hz]; exact hS.retS
  · skip
    refine CW.seq fun K3 hK3 => ?_
    refine CW.region [0] rfl ?_
    refine LW.ex rfl rfl rfl rfl (Ex.lss rfl rfl (by first | exact decide_eq_true (by omega) | exact decide_eq_false (by omega) | rfl)) hS.rd ?_
    refine LW.nil fun aa ha => hK3 _ _ _ ?_ aa ha
    refine CW.seq fun Kc hKc => ?_
    refine CW.no rfl ?_
    refine CW.exit fun aa ha => hK2o _ _ _ ?_ aa ha
    refine CW.seq fun K8 hK8 => ?_
    refine CW.region [0, 1] rfl ?_
    refine LW.ex rfl rfl rfl rfl (Ex.move rfl) hS.rd ?_
    refine LW.ex rfl rfl rfl rfl (Ex.assign rfl) hS.rd ?_
    refine LW.nil fun aa ha => hK8 _ _ _ ?_ aa ha
    refine CW.ret fun aa ha => ?_
    refine ret_one ha Try.results81 rfl ?_
    rw [he, List.drop_of_length_le (by omega)]; exact hS.retS

end Go.Proofs.Ytgnpjhellmfhoaa

/-
  Function values with first arguments; slices from one place to another; slices of arrays; clear.
-/
namespace Go.Proofs.Ytgnpjhellmfhoaa.Sy
open Go.RowKit

theorem Ex.makeFuncF {P : Program} {m : List (Nat × Value)} {S : World → Prop} {f : FuncId} {fs caps : List Operand} {us vs : List Value} (hu : evs m fs = some us) (hv : evs m caps = some vs) : Ex P S m (.makeFunc (.func f) fs.toArray caps.toArray) (.func (.func f) us.toArray vs.toArray) := fun ρ ha w _ o ho => by
  have e := evs_map ha hv
  have e2 := evs_map ha hu
  simp [execOp, ho, Instr.makeFunc, e, e2, go_sem]

section
variable {P : Program} {m : List (Nat × Value)} {w : World} {Φ : Value → World → Prop}
theorem Hv.callF {o' : Call} {c : Operand} {as1 : List Operand} {ats : Array TypeId} {f : FuncId} {fs : List Value} {cap : Array Value} {args : List Value} (ho' : o' = { callee := .value c, args := as1.toArray, argTypes := ats })
    (hc : ev m c = some (.func (.func f) fs.toArray cap)) (has : evs m as1 = some args) (hf : Callable P f)
    (hC : Calls P f (fs ++ (args ++ cap.toList)).toArray w fun e w' => ∃ v, e = .returned v ∧ Φ v w') : Hv P m (.call o') w Φ :=
  .of_call (fun ρ ha o ho => by
    subst ho'
    have e1 : as1.map ρ = args := evs_map ha has
    have e2 : (fs ++ (args ++ cap.toList)).toArray = (fs.toArray ++ args.toArray ++ cap) := by simp
    simp only [execOp, ho, resolve, Deferred.ofValue, invoke, Sem.run_bind, Sem.run_pure, Result.andThen_ok, ha _ _ hc, List.map_toArray, e1]
    rw [e2]
    have := hf.run (fs.toArray ++ args.toArray ++ cap) w
    simpa using this) hC
theorem Hv.callFS {o' : Call} {c : Operand} {as1 : List Operand} {ats : Array TypeId} {f : FuncId} {fs : List Value} {cap : Array Value} {args : List Value} {w0 : World} {μ : Mem} {L : List Own} {v : Value} (hS : St w0 w μ L)
    (ho' : o' = { callee := .value c, args := as1.toArray, argTypes := ats }) (hc : ev m c = some (.func (.func f) fs.toArray cap)) (has : evs m as1 = some args) (hf : Callable P f)
    (hC : Calls P f (fs ++ (args ++ cap.toList)).toArray w (RetS w v)) : Hv P m (.call o') w (fun u w' => u = v ∧ St w0 w' μ L) :=
  Hv.callF ho' hc has hf (hC.mono fun _ _ ⟨he, hb⟩ => ⟨v, he, rfl, hS.grow hb⟩)
end

namespace Ex
variable {P : Program} {S : World → Prop} {m : List (Nat × Value)} {t t' : TypeId} {x y y2 : Operand} {d : TypeDesc} {z : Value} {by_ sz : Nat}
/-- s[i:j] -/
theorem sliceLH {e : TypeId} {ad : Option Addr} {l c' i j : Nat} {k k2 : IntKind} {p q : Int} (ht : P.underlying t = some (.slice e)) (he : TI P e d z sz by_) (hx : ev m x = some (.slice ad l c')) (hy : ev m y = some (.int k p)) (hy2 : ev m y2 = some (.int k2 q)) (hp : p = (i : Int)) (hq : q = (j : Int)) (hi : i ≤ j) (hj : j ≤ c') :
    Ex P S m (.slice t x (some y) (some y2) none) (.slice (if c' = i then ad else ad.map (·.add (i * sz))) (j - i) (c' - i)) := fun ρ ha w _ o ho => by
  subst hp; subst hq
  have e1 : (Go.underlying t).run P w = .ok (.slice e) w := by simp [Go.underlying, program, Sem.run, ht, go_sem]
  have e2 := he.sizeOf w
  have h1 : (i : Int) ≤ (j : Int) := by omega
  have h2 : (j : Int) ≤ (c' : Int) := by omega
  have e4 : (Instr.sliceBound (.int k (i : Int)) j .sliceB).run P w = .ok i w := by simp [Instr.sliceBound, asIntOf, h1, go_sem]
  have e5 : (Instr.sliceBound (.int k2 (j : Int)) c' .sliceAcap).run P w = .ok j w := by simp [Instr.sliceBound, asIntOf, h2, go_sem]
  simp only [execOp, ho, ha _ _ hx, ha _ _ hy, ha _ _ hy2, Option.map_some, Option.map_none, Instr.sliceAt, Instr.slice, Instr.sliceBounds, Sem.run_bind, e1, Result.andThen_ok, Sem.run_pure, Option.isSome_none, Bool.false_eq_true, if_false, if_true, e4, e5, e2]
/-- s[i:j], of a string -/
theorem sliceStr {s : ByteArray} {i j : Nat} {k k2 : IntKind} {p q : Int} (ht : P.underlying t = some .string) (hx : ev m x = some (.string s)) (hy : ev m y = some (.int k p)) (hy2 : ev m y2 = some (.int k2 q)) (hp : p = (i : Int)) (hq : q = (j : Int)) (hi : i ≤ j) (hj : j ≤ s.size) :
    Ex P S m (.slice t x (some y) (some y2) none) (.string (s.extract i j)) := fun ρ ha w _ o ho => by
  subst hp; subst hq
  have e1 : (Go.underlying t).run P w = .ok .string w := by simp [Go.underlying, program, Sem.run, ht, go_sem]
  have h1 : (i : Int) ≤ (j : Int) := by omega
  have h2 : (j : Int) ≤ (s.size : Int) := by omega
  have e4 : (Instr.sliceBound (.int k (i : Int)) j .sliceB).run P w = .ok i w := by simp [Instr.sliceBound, asIntOf, h1, go_sem]
  have e5 : (Instr.sliceBound (.int k2 (j : Int)) s.size .sliceAlen).run P w = .ok j w := by simp [Instr.sliceBound, asIntOf, h2, go_sem]
  simp [execOp, ho, ha _ _ hx, ha _ _ hy, ha _ _ hy2, Instr.sliceAt, Instr.slice, Instr.sliceBounds, e1, e4, e5, go_sem]
  intro h; omega
/-- a[:], of an array -/
theorem sliceArr {e : TypeId} {n : Nat} {b off : Nat} (ht : P.underlying t = some (.array n e)) (he : TI P e d z sz by_) (hx : ev m x = some (.pointer (some ⟨b, off, none⟩))) :
    Ex P S m (.slice t x none none none) (.slice (some ⟨b, off, none⟩) n n) := fun ρ ha w _ o ho => by
  have e1 : (Go.underlying t).run P w = .ok (.array n e) w := by simp [Go.underlying, program, Sem.run, ht, go_sem]
  have e2 := he.sizeOf w
  have e3 : (if n = 0 then (⟨b, off, none⟩ : Addr) else (⟨b, off, none⟩ : Addr).add (0 * sz)) = ⟨b, off, none⟩ := by
    split
    · rfl
    · unfold Addr.add; split <;> simp_all
  simp only [execOp, ho, ha _ _ hx, Option.map_none, Instr.sliceAt, Instr.sliceBounds, Instr.sureAddr, Sem.run_bind, e1, Result.andThen_ok, Sem.run_pure, Option.isSome_none, e2, Nat.sub_zero, e3]
end Ex

/-- A part of a slice of immutable memory. -/
theorem Sl.part {α : Type} [El α] {μ : Mem} {ad : Option Addr} {c : Nat} {xs : List α} (h : Sl μ ad c xs) {i j : Nat} (hij : i ≤ j) (hj : j ≤ xs.length) : ∃ ys : List α, ys = (xs.drop i).take (j - i) ∧ ys.length = j - i ∧ Sl μ (if c = i then ad else ad.map (·.add (i * El.sz α))) (c - i) ys := by
  have hl : ((xs.drop i).take (j - i)).length = j - i := by rw [List.length_take, List.length_drop]; omega
  refine ⟨_, rfl, hl, ⟨by rw [hl]; have := h.1; omega, by have := h.2.1; omega, fun k hk => ?_⟩⟩
  rw [hl] at hk
  have hk' : i + k < xs.length := by omega
  obtain ⟨b, off, e, hr⟩ := h.2.2 (i + k) hk'
  have hc : ¬ c = i := by have := h.1; omega
  refine ⟨b, off + i * El.sz α, ?_, ?_⟩
  · rw [if_neg hc, e]
    simp only [Option.map_some, Option.some.injEq]
    unfold Addr.add; split <;> simp_all
  · rw [List.getElem_take, List.getElem_drop]
    rw [Nat.add_mul, ← Nat.add_assoc] at hr
    exact hr

/-- clear of the end of a slice of the call's own, opened. -/
theorem run_storeCells_at {P : Program} {b : Nat} {E : TypeId} {w0 : World} {μ : Mem} {L : List Own} {k o : Nat} : ∀ (vs cs : List Value) (i : Nat) (w : World), St w0 w μ L → L[k]? = some (Own.obj b cs E) → o + i + vs.length ≤ cs.length → (∀ v ∈ vs, v.oneCell' = true) →
    ∃ w', (storeCells ⟨b, o, none⟩ vs i).run P w = .ok () w' ∧ St w0 w' μ (L.set k (Own.obj b (cs.take (o + i) ++ vs ++ cs.drop (o + i + vs.length)) E))
  | [], cs, i, w, hS, hk, _, _ => ⟨w, by simp [storeCells, go_sem], by
      have e : cs.take (o + i) ++ [] ++ cs.drop (o + i + ([] : List Value).length) = cs := by simp
      rw [e, set_same hk]; exact hS⟩
  | v :: r, cs, i, w, hS, hk, hl, h1 => by
    simp only [List.length_cons] at hl
    have hi : o + i < cs.length := by omega
    obtain ⟨bs, _, hb⟩ := hS.rd.get hk
    have hc : w.cell? ⟨b, o + i, none⟩ = some (cs[o + i]) := by rw [cell_of_heap hb]; simp [hi]
    have hf : w.frozen? ⟨b, o + i, none⟩ = false := by have hb' : w.heap[b]? = some (.cells cs.toArray E (0, 0)) := hb; simp [World.frozen?, hb']
    have hadd : (⟨b, o, none⟩ : Addr).add i = ⟨b, o + i, none⟩ := by unfold Addr.add; split <;> simp_all
    have hS1 := hS.set_obj hk (o + i) v
    obtain ⟨hkl, _⟩ := List.getElem?_eq_some_iff.1 hk
    obtain ⟨w', hr, hS'⟩ := run_storeCells_at (P := P) (o := o) r (cs.set (o + i) v) (i + 1) _ hS1 (by rw [List.getElem?_set_self hkl]) (by simp; omega) fun u hu => h1 u (List.mem_cons_of_mem _ hu)
    refine ⟨w', ?_, ?_⟩
    · simp only [storeCells, Sem.run_bind, hadd, store]
      rw [Sem.run_store1 (h1 v (List.mem_cons_self ..)) hc hf]
      simp only [Go.Sem.run, Result.andThen_ok, hr]
    · rw [List.set_set] at hS'
      have e : (cs.set (o + i) v).take (o + (i + 1)) ++ r ++ (cs.set (o + i) v).drop (o + (i + 1) + r.length) = cs.take (o + i) ++ v :: r ++ cs.drop (o + i + (r.length + 1)) := by
        rw [List.take_set, List.drop_set]
        have : (cs.take (o + (i + 1))).set (o + i) v = cs.take (o + i) ++ [v] := by
          rw [← Nat.add_assoc, List.take_succ_eq_append_getElem hi, List.set_append_right _ _ (by simp; omega)]
          simp [Nat.min_eq_left (Nat.le_of_lt hi)]
        rw [this]
        simp [show o + (i + 1) + r.length = o + i + (r.length + 1) by omega]
      rw [e] at hS'
      exact hS'
theorem Hv.clearObj {P : Program} {m : List (Nat × Value)} {w : World} {t E E' : TypeId} {x : Operand} {w0 : World} {μ : Mem} {L : List Own} {o' : Call} {k b off n c : Nat} {d : TypeDesc} {z : Value} {sz by_ : Nat} {cs vs : List Value}
    (ho' : o' = { callee := .builtin .clear, args := #[x], argTypes := #[t] }) (ht : P.underlying t = some (.slice E)) (hE : TI P E d z sz by_) (hvs : (Builtin.zeroCells z.cells n).toList = vs) (hl : off + vs.length ≤ cs.length) (h1 : ∀ v ∈ vs, v.oneCell' = true) (hn : 0 < n)
    (hS : St w0 w μ L) (hk : L[k]? = some (Own.obj b cs E')) (hx : ev m x = some (.slice (some ⟨b, off, none⟩) n c)) :
    Hv P m (.call o') w (fun u w' => u = .tuple #[] ∧ St w0 w' μ (L.set k (Own.obj b (cs.take off ++ vs ++ cs.drop (off + vs.length)) E'))) :=
  .of_run fun ρ ha o ho => by
    subst ho'
    obtain ⟨w', hr, hS'⟩ := run_storeCells_at (P := P) (o := off) vs cs 0 w hS hk (by omega) h1
    have e1 : (Go.underlying t).run P w = .ok (.slice E) w := by simp [Go.underlying, program, Sem.run, ht, go_sem]
    have e2 := hE.zeroValue w
    refine ⟨_, w', ?_, rfl, hS'⟩
    obtain ⟨n, rfl⟩ : ∃ n', n = n' + 1 := ⟨n - 1, by omega⟩
    simp only [execOp, ho, resolve, invoke, builtin, Builtin.clear_, Sem.run_bind, Sem.run_pure, Result.andThen_ok, List.map_toArray, List.map_cons, List.map_nil, ha _ _ hx, List.getElem?_toArray, List.getElem?_cons_zero, e1, e2, hvs, hr]

/-- A store of a whole struct at a place of a slice of the call's own. -/
theorem run_storeCells_sl {P : Program} {g l c : Nat} {E : TypeId} {sz : Nat} {w0 : World} {μ : Mem} {L : List Own} {k o : Nat} : ∀ (vs us : List Value) (i : Nat) (w : World), St w0 w μ L → L[k]? = some (Own.sl (some ⟨g, 0, none⟩) l c E sz us) → o + i + vs.length ≤ us.length → (∀ v ∈ vs, v.oneCell' = true) →
    ∃ w', (storeCells ⟨g, o, none⟩ vs i).run P w = .ok () w' ∧ St w0 w' μ (L.set k (Own.sl (some ⟨g, 0, none⟩) l c E sz (us.take (o + i) ++ vs ++ us.drop (o + i + vs.length))))
  | [], us, i, w, hS, hk, _, _ => ⟨w, by simp [storeCells, go_sem], by
      have e : us.take (o + i) ++ [] ++ us.drop (o + i + ([] : List Value).length) = us := by simp
      rw [e, set_same hk]; exact hS⟩
  | v :: r, us, i, w, hS, hk, hl, h1 => by
    simp only [List.length_cons] at hl
    have hi : o + i < us.length := by omega
    have hc : w.cell? ⟨g, o + i, none⟩ = some (us[o + i]) := Rd.sl hk (List.getElem?_eq_getElem hi) w hS.rd
    have hf : w.frozen? ⟨g, o + i, none⟩ = false := by
      obtain ⟨bs, _, hb⟩ := hS.rd.get hk
      rcases hb with ⟨hb, _⟩ | ⟨g', cur, hg, _, hh, _⟩
      · cases hb
      · cases hg
        have hb' : w.heap[g]? = some (.cells cur E (0, 0)) := hh
        simp [World.frozen?, hb']
    have hadd : (⟨g, o, none⟩ : Addr).add i = ⟨g, o + i, none⟩ := by unfold Addr.add; split <;> simp_all
    have hS1 := hS.set_sl hk (o + i) v
    obtain ⟨hkl, _⟩ := List.getElem?_eq_some_iff.1 hk
    obtain ⟨w', hr, hS'⟩ := run_storeCells_sl (P := P) (o := o) r (us.set (o + i) v) (i + 1) _ hS1 (by rw [List.getElem?_set_self hkl]) (by simp; omega) fun u hu => h1 u (List.mem_cons_of_mem _ hu)
    refine ⟨w', ?_, ?_⟩
    · simp only [storeCells, Sem.run_bind, hadd, store]
      rw [Sem.run_store1 (h1 v (List.mem_cons_self ..)) hc hf]
      simp only [Go.Sem.run, Result.andThen_ok, hr]
    · rw [List.set_set] at hS'
      have e : (us.set (o + i) v).take (o + (i + 1)) ++ r ++ (us.set (o + i) v).drop (o + (i + 1) + r.length) = us.take (o + i) ++ v :: r ++ us.drop (o + i + (r.length + 1)) := by
        rw [List.take_set, List.drop_set]
        have : (us.take (o + (i + 1))).set (o + i) v = us.take (o + i) ++ [v] := by
          rw [← Nat.add_assoc, List.take_succ_eq_append_getElem hi, List.set_append_right _ _ (by simp; omega)]
          simp [Nat.min_eq_left (Nat.le_of_lt hi)]
        rw [this]
        simp [show o + (i + 1) + r.length = o + i + (r.length + 1) by omega]
      rw [e] at hS'
      exact hS'
theorem Hv.storeSlN {P : Program} {m : List (Nat × Value)} {w : World} {t E : TypeId} {d : TypeDesc} {z : Value} {by_ k g off l c sz : Nat} {x y : Operand} {w0 : World} {μ : Mem} {L : List Own} {us vs : List Value} (ht : TI P t d z vs.length by_) (hS : St w0 w μ L) (hk : L[k]? = some (Own.sl (some ⟨g, 0, none⟩) l c E sz us))
    (hx : ev m x = some (.pointer (some ⟨g, off, none⟩))) (hy : ev m y = some (.agg vs.toArray)) (hl : off + vs.length ≤ us.length) (hv : ∀ v ∈ vs, v.oneCell' = true) :
    Hv P m (.store t x y) w (fun _ w' => St w0 w' μ (L.set k (Own.sl (some ⟨g, 0, none⟩) l c E sz (us.take off ++ vs ++ us.drop (off + vs.length))))) :=
  .of_skip fun ρ ha o ho => by
    obtain ⟨w', hr, hS'⟩ := run_storeCells_sl (P := P) (o := off) vs us 0 w hS hk (by omega) hv
    refine ⟨w', ?_, hS'⟩
    have e2 := ht.sizeOf w
    simp only [execOp, ho, ha _ _ hx, ha _ _ hy, Instr.storeAt, Instr.sureAddr, storeVar, Value.cells, List.size_toArray, Sem.run_bind, Sem.run_pure, Result.andThen_ok, e2, ne_eq, not_true_eq_false, if_false, hr]
theorem flatMap_set {α : Type} {enc : α → List Value} {k : Nat} (hk : ∀ x, (enc x).length = k) : ∀ (xs : List α) (i : Nat) (y : α), i < xs.length → (xs.flatMap enc).take (i * k) ++ enc y ++ (xs.flatMap enc).drop (i * k + k) = (xs.set i y).flatMap enc
  | [], i, y, h => absurd h (Nat.not_lt_zero _)
  | x :: r, 0, y, _ => by
    have h := hk x
    simp only [Nat.zero_mul, List.take_zero, List.nil_append, Nat.zero_add, List.set_cons_zero, List.flatMap_cons]
    rw [List.drop_append, h, Nat.sub_self, List.drop_zero, List.drop_of_length_le (by omega), List.nil_append]
  | x :: r, i + 1, y, h => by
    have hx := hk x
    have ih := flatMap_set hk r i y (by simpa using h)
    have e1 : (i + 1) * k = k + i * k := by rw [Nat.add_mul, Nat.one_mul, Nat.add_comm]
    rw [List.set_cons_succ, List.flatMap_cons, List.flatMap_cons, ← ih, e1, List.take_append, List.drop_append, hx, List.take_of_length_le (by omega), List.drop_of_length_le (by omega), Nat.add_sub_cancel_left, show k + i * k + k - k = i * k + k by omega]
    simp [List.append_assoc]
theorem flat2 {α : Type} {enc : α → List Value} {k : Nat} (hk : ∀ x, (enc x).length = k) (xs : List α) (i j : Nat) (hi : i < xs.length) (hj : j < k) {v : Value} (hv : (enc xs[i])[j]? = some v) : (xs.flatMap enc)[i * k + j]? = some v := by
  induction xs generalizing i with
  | nil => exact absurd hi (Nat.not_lt_zero _)
  | cons x r ih =>
    have hx := hk x
    rw [List.flatMap_cons]
    cases i with
    | zero => rw [Nat.zero_mul, Nat.zero_add, List.getElem?_append_left (by omega)]; exact hv
    | succ i => rw [List.getElem?_append_right (by rw [Nat.add_mul]; omega), hx, show (i + 1) * k + j - k = i * k + j by rw [Nat.add_mul]; omega]; exact ih i (by simpa using hi) hv
end Go.Proofs.Ytgnpjhellmfhoaa.Sy

/-
  Lists that are right element by element, and rise.
-/
namespace Go.Proofs.Ytgnpjhellmfhoaa
/-- Each is right, and comes behind the one before. -/
def rises {α : Type} (right : α → Bool) (lt : α → α → Bool) : Option α → List α → Bool
  | _, [] => true
  | none, x :: r => right x && rises right lt (some x) r
  | some p, x :: r => right x && lt p x && rises right lt (some x) r
def prevOf {α : Type} (l : List α) : Nat → Option α
  | 0 => none
  | i + 1 => l[i]?
theorem prevOf_succ {α : Type} (l : List α) (i : Nat) (h : i < l.length) : prevOf l (i + 1) = some l[i] := by simp [prevOf, h]
theorem rises_step {α : Type} (right : α → Bool) (lt : α → α → Bool) (l : List α) (i : Nat) (h : i < l.length) (hr : right l[i] = true) (hl : 0 < i → lt l[i - 1] l[i] = true) : rises right lt (prevOf l i) (l.drop i) = rises right lt (prevOf l (i + 1)) (l.drop (i + 1)) := by
  rw [List.drop_eq_getElem_cons h, prevOf_succ l i h]
  cases i with
  | zero => simp [prevOf, rises, hr]
  | succ k => have hk : k < l.length := by omega
              rw [prevOf_succ l k hk, rises, hr, show lt l[k] l[k + 1] = true from hl (by omega)]; simp
theorem rises_not {α : Type} (right : α → Bool) (lt : α → α → Bool) (l : List α) (i : Nat) (h : i < l.length) (hr : right l[i] = false) : rises right lt (prevOf l i) (l.drop i) = false := by
  rw [List.drop_eq_getElem_cons h]
  cases prevOf l i <;> simp [rises, hr]
theorem rises_not2 {α : Type} (right : α → Bool) (lt : α → α → Bool) (l : List α) (i : Nat) (h : i < l.length) (h0 : 0 < i) (hl : lt l[i - 1] l[i] = false) : rises right lt (prevOf l i) (l.drop i) = false := by
  rw [List.drop_eq_getElem_cons h]
  cases i with
  | zero => omega
  | succ k => have hk : k < l.length := by omega
              rw [prevOf_succ l k hk, rises, show lt l[k] l[k + 1] = false from hl]; simp


theorem rises_end {α : Type} (right : α → Bool) (lt : α → α → Bool) (l : List α) (i : Nat) (h : l.length ≤ i) : rises right lt (prevOf l i) (l.drop i) = true := by
  rw [List.drop_of_length_le h]; cases prevOf l i <;> rfl
theorem rises_all {α : Type} {right : α → Bool} {lt : α → α → Bool} : ∀ {l : List α} {p : Option α}, rises right lt p l = true → ∀ x ∈ l, right x = true
  | [], _, _, x, hx => by cases hx
  | y :: r, p, h, x, hx => by
    have h2 : right y = true ∧ rises right lt (some y) r = true := by
      cases p <;> simp only [rises, Bool.and_eq_true] at h
      · exact h
      · exact ⟨h.1.1, h.2⟩
    rcases List.mem_cons.1 hx with rfl | hx
    · exact h2.1
    · exact rises_all h2.2 x hx
theorem rises_pair {α : Type} {right : α → Bool} {lt : α → α → Bool} (ht : ∀ x y z, lt x y = true → lt y z = true → lt x z = true) : ∀ {l : List α} {p : Option α}, rises right lt p l = true → l.Pairwise (fun x y => lt x y = true) ∧ ∀ q, p = some q → ∀ x ∈ l, lt q x = true
  | [], _, _ => ⟨List.Pairwise.nil, fun _ _ x hx => by cases hx⟩
  | y :: r, p, h => by
    have h2 : rises right lt (some y) r = true ∧ ∀ q, p = some q → lt q y = true := by
      cases p <;> simp only [rises, Bool.and_eq_true] at h
      · exact ⟨h.2, fun q hq => by cases hq⟩
      · exact ⟨h.2, fun q hq => by cases hq; exact h.1.2⟩
    obtain ⟨i1, i2⟩ := rises_pair ht h2.1
    refine ⟨List.pairwise_cons.2 ⟨fun x hx => i2 y rfl x hx, i1⟩, fun q hq x hx => ?_⟩
    rcases List.mem_cons.1 hx with rfl | hx
    · exact h2.2 q hq
    · exact ht _ _ _ (h2.2 q hq) (i2 y rfl x hx)
theorem rises_of {α : Type} {right : α → Bool} {lt : α → α → Bool} : ∀ {l : List α} {p : Option α}, (∀ x ∈ l, right x = true) → l.Pairwise (fun x y => lt x y = true) → (∀ q, p = some q → ∀ x ∈ l, lt q x = true) → rises right lt p l = true
  | [], none, _, _, _ => rfl
  | [], some _, _, _, _ => rfl
  | y :: r, p, h1, h2, h3 => by
    have h4 := rises_of (p := some y) (l := r) (fun x hx => h1 x (List.mem_cons_of_mem _ hx)) (List.pairwise_cons.1 h2).2 (fun q hq x hx => by cases hq; exact (List.pairwise_cons.1 h2).1 x hx)
    cases p with
    | none => simp only [rises, Bool.and_eq_true]; exact ⟨h1 y (List.mem_cons_self ..), h4⟩
    | some q => simp only [rises, Bool.and_eq_true]; exact ⟨⟨h1 y (List.mem_cons_self ..), h3 q rfl y (List.mem_cons_self ..)⟩, h4⟩
/-- Lists in strict order with the same elements are alike. -/
theorem strict_ext {α : Type} {lt : α → α → Prop} (irr : ∀ x, ¬ lt x x) (asym : ∀ x y, lt x y → ¬ lt y x) : ∀ {l m : List α}, l.Pairwise lt → m.Pairwise lt → (∀ x, x ∈ l ↔ x ∈ m) → l = m
  | [], [], _, _, _ => rfl
  | [], y :: r, _, _, h => by have := (h y).2 (List.mem_cons_self ..); cases this
  | x :: r, [], _, _, h => by have := (h x).1 (List.mem_cons_self ..); cases this
  | x :: r, y :: s, h1, h2, h => by
    have h1' := List.pairwise_cons.1 h1
    have h2' := List.pairwise_cons.1 h2
    have e : x = y := by
      rcases List.mem_cons.1 ((h x).1 (List.mem_cons_self ..)) with hx | hx
      · exact hx
      · rcases List.mem_cons.1 ((h y).2 (List.mem_cons_self ..)) with hy | hy
        · exact hy.symm
        · exact absurd (h1'.1 y hy) (asym _ _ (h2'.1 x hx))
    subst e
    congr 1
    refine strict_ext irr asym h1'.2 h2'.2 fun z => ⟨fun hz => ?_, fun hz => ?_⟩
    · rcases List.mem_cons.1 ((h z).1 (List.mem_cons_of_mem _ hz)) with e | e
      · subst e; exact absurd (h1'.1 z hz) (irr z)
      · exact e
    · rcases List.mem_cons.1 ((h z).2 (List.mem_cons_of_mem _ hz)) with e | e
      · subst e; exact absurd (h2'.1 z hz) (irr z)
      · exact e
end Go.Proofs.Ytgnpjhellmfhoaa

/-
  Context: searching in sorted lists; pairs of words.
-/
namespace Go.Proofs.Ytgnpjhellmfhoaa
open Go.RowKit Sy

/-! ### Binary search -/
def lbL {α : Type} (cf : α → Int) (xs : List α) : Nat := xs.countP (fun x => decide (cf x < 0))
def hitL {α : Type} (cf : α → Int) (xs : List α) : Bool := match xs[lbL cf xs]? with | some x => decide (cf x = 0) | none => false
theorem lbL_of {α : Type} {cf : α → Int} {xs : List α} {i : Nat} (hi : i ≤ xs.length) (h1 : ∀ k (h : k < xs.length), k < i → cf xs[k] < 0) (h2 : ∀ k (h : k < xs.length), i ≤ k → 0 ≤ cf xs[k]) : lbL cf xs = i := by
  unfold lbL
  have e : xs = xs.take i ++ xs.drop i := (List.take_append_drop i xs).symm
  have e1 : (xs.take i).countP (fun x => decide (cf x < 0)) = i := by
    rw [List.countP_eq_length.2 fun x hx => ?_, List.length_take, Nat.min_eq_left hi]
    obtain ⟨k, hk, rfl⟩ := List.getElem_of_mem hx
    rw [List.length_take] at hk
    rw [List.getElem_take]
    exact decide_eq_true (h1 k (by omega) (by omega))
  have e2 : (xs.drop i).countP (fun x => decide (cf x < 0)) = 0 := by
    rw [List.countP_eq_zero]
    intro x hx
    obtain ⟨k, hk, rfl⟩ := List.getElem_of_mem hx
    rw [List.length_drop] at hk
    rw [List.getElem_drop, decide_eq_true_eq]
    have := h2 (i + k) (by omega) (by omega)
    omega
  conv => lhs; rw [e]
  rw [List.countP_append, e1, e2, Nat.add_zero]
theorem lbL_le {α : Type} (cf : α → Int) (xs : List α) : lbL cf xs ≤ xs.length := List.countP_le_length
theorem mono_at {α : Type} {cf : α → Int} {xs : List α} (h : xs.Pairwise fun x y => 0 ≤ cf x → 0 ≤ cf y) {i j : Nat} (hi : i < xs.length) (hj : j < xs.length) (hij : i ≤ j) (h0 : 0 ≤ cf xs[i]) : 0 ≤ cf xs[j] := by
  rcases Nat.lt_or_eq_of_le hij with h1 | h1
  · exact List.pairwise_iff_getElem.1 h i j hi hj h1 h0
  · subst h1; exact h0
theorem lbL_lt {α : Type} {cf : α → Int} {xs : List α} (h : xs.Pairwise fun x y => 0 ≤ cf x → 0 ≤ cf y) {k : Nat} (hk : k < xs.length) : k < lbL cf xs ↔ cf xs[k] < 0 := by
  -- the first place with 0 ≤ cf
  have key : ∃ i, i ≤ xs.length ∧ (∀ k (h : k < xs.length), k < i → cf xs[k] < 0) ∧ (∀ k (h : k < xs.length), i ≤ k → 0 ≤ cf xs[k]) := by
    by_cases hx : ∃ i, ∃ hi : i < xs.length, 0 ≤ cf xs[i]
    · have hd : ∃ i, ∃ hi : i < xs.length, 0 ≤ cf xs[i] ∧ ∀ k (hk : k < xs.length), k < i → cf xs[k] < 0 := by
        obtain ⟨i, hi, h0⟩ := hx
        induction i using Nat.strongRecOn with
        | _ i ih =>
          by_cases hs : ∃ k, k < i ∧ ∃ hk : k < xs.length, 0 ≤ cf xs[k]
          · obtain ⟨k, hki, hkl, hk0⟩ := hs
            exact ih k hki hkl hk0
          · refine ⟨i, hi, h0, fun k hk hki => ?_⟩
            rcases Int.lt_or_le (cf xs[k]) 0 with h | h
            · exact h
            · exact absurd ⟨k, hki, hk, h⟩ hs
      obtain ⟨i, hi, h0, h1⟩ := hd
      exact ⟨i, by omega, h1, fun k hk hik => mono_at h hi hk hik h0⟩
    · refine ⟨xs.length, Nat.le_refl _, fun k hk _ => ?_, fun k hk h => by omega⟩
      rcases Int.lt_or_le (cf xs[k]) 0 with h | h
      · exact h
      · exact absurd ⟨k, hk, h⟩ hx
  obtain ⟨i, hi, h1, h2⟩ := key
  rw [lbL_of hi h1 h2]
  constructor
  · intro h; exact h1 k hk h
  · intro h
    rcases Nat.lt_or_ge k i with h3 | h3
    · exact h3
    · have := h2 k hk h3; omega
theorem wrapU {n : Nat} (h : n < 4611686018427387904) : IntKind.u64.wrap (n : Int) = n := by simp [IntKind.wrap, IntKind.bits, IntKind.signed]; omega
set_option maxRecDepth 100000 in
theorem bsearchPr_c (xs : List Pr) (tv : Value) (f : Nat) (cap : Array Value) (cf : Pr → Int) (hf : Callable Try.prog f) (ad : Option Addr) (c : Nat) (μ : Mem) (w : World) (hμ : Imm μ w) (hl : Sl μ ad c xs) (hbig : xs.length < 1099511627776)
    (hm : xs.Pairwise fun x y => 0 ≤ cf x → 0 ≤ cf y) (hcf : ∀ x ∈ xs, ∀ w', Imm μ w' → Calls Try.prog f ([prV x, tv] ++ cap.toList).toArray w' (RetS w' (.int .i64 (cf x)))) :
    Calls Try.prog 85 #[.slice ad xs.length c, tv, .func (.func f) #[] cap] w (RetS w (.tuple #[.int .i64 (lbL cf xs : Nat), .bool (hitL cf xs)])) := by
  have hS := St.start w μ hμ
  refine calls_start 49 [.slice ad xs.length c, tv, .func (.func f) #[] cap] Try.func85 rfl Try.ntmps85 rfl rfl ?_
  refine CW.seq fun K1 hK1 => ?_
  refine CW.region [0, 1] rfl ?_
  refine LW.ex rfl rfl rfl rfl (Ex.assign rfl) hS.rd ?_
  refine LW.ex rfl rfl rfl rfl (Ex.assign rfl) hS.rd ?_
  refine LW.nil fun aa ha => hK1 _ _ _ ?_ aa ha
  refine CW.seq fun K2 hK2 => ?_
  refine CW.region [0, 1, 2] rfl ?_
  refine LW.ex rfl rfl rfl rfl (Ex.move rfl) hS.rd ?_
  refine LW.ex rfl rfl rfl rfl (Ex.lenSl rfl Try.underlying32 rfl) hS.rd ?_
  refine LW.ex rfl rfl rfl rfl (Ex.assign rfl) hS.rd ?_
  refine LW.nil fun aa ha => hK2 _ _ _ ?_ aa ha
  refine CW.seq fun K3 hK3 => ?_
  refine CW.region [0, 1, 2] rfl ?_
  refine LW.ex rfl rfl rfl rfl (Ex.move rfl) hS.rd ?_
  refine LW.ex rfl rfl rfl rfl (Ex.assign rfl) hS.rd ?_
  refine LW.ex rfl rfl rfl rfl (Ex.assign rfl) hS.rd ?_
  refine LW.nil fun aa ha => hK3 _ _ _ ?_ aa ha
  refine CW.seq fun K4 hK4 => ?_
  refine CW.block ?_
  refine CW.loop (fun qq frm wl3 => ∃ (i : Nat) (j : Nat), i ≤ j ∧ j ≤ xs.length ∧ qq = j - i ∧ frm = [(0, .slice ad xs.length c), (1, tv), (2, .func (.func f) #[] cap), (8, .int .i64 ((xs.length : Nat) : Int)), (9, .int .i64 i), (10, .int .i64 j)] ∧ St w wl3 μ [] ∧ (∀ k (h : k < xs.length), k < i → cf xs[k] < 0) ∧ (∀ k (h : k < xs.length), j ≤ k → 0 ≤ cf xs[k])) _ ⟨0, xs.length, (by first | omega | (simp; done) | (simp; omega)), (by first | omega | (simp; done) | (simp; omega)), rfl, rfl, hS, fun k _ hk => by omega, fun k hk h => by omega⟩ ⟨rfl, rfl, rfl, rfl, rfl, rfl, trivial⟩ ?_
  clear hS
  rintro qq frm wl3 ⟨i, j, hij, hjn, hq, rfl, hS, h1, h2⟩
  refine CW.seq fun K5 hK5 => ?_
  refine CW.seq fun K6 hK6 => ?_
  refine CW.region [0, 1, 2] rfl ?_
  refine LW.ex rfl rfl rfl rfl (Ex.move rfl) hS.rd ?_
  refine LW.ex rfl rfl rfl rfl (Ex.move rfl) hS.rd ?_
  refine LW.ex rfl rfl rfl rfl (Ex.lss rfl rfl rfl) hS.rd ?_
  refine LW.splitB (fun h3_2 => ?_) (fun h3_2 => ?_)
  · have h3_2 := of_decide_eq_true h3_2
    refine LW.nil fun aa ha => hK6 _ _ _ ?_ aa ha
    refine CW.yes rfl ?_
    refine CW.skip fun aa ha => hK5 _ _ _ ?_ aa ha
    refine CW.block ?_
    refine CW.seq fun K7 hK7 => ?_
    have hij2 : i < j := by omega
    obtain ⟨h, hh⟩ : ∃ h, h = (i + j) / 2 := ⟨_, rfl⟩
    have hhi : i ≤ h := by omega
    have hhj : h < j := by omega
    have hhx : h < xs.length := by omega
    obtain ⟨bl, ol, hade, k0, k1, k2⟩ := hl.at hhx
    refine CW.region [0, 1, 2, 3, 4, 5, 6] rfl ?_
    refine LW.ex rfl rfl rfl rfl (Ex.move rfl) hS.rd ?_
    refine LW.ex rfl rfl rfl rfl (Ex.move rfl) hS.rd ?_
    refine LW.ex rfl rfl rfl rfl (Ex.add (r := ((i + j : Nat) : Int)) rfl rfl (addN (by omega))) hS.rd ?_
    refine LW.ex rfl rfl rfl rfl (Ex.conv Try.underlying3 Try.underlying157 rfl (wrapU (by omega))) hS.rd ?_
    refine LW.ex rfl rfl rfl rfl (Ex.shr1 (r := (h : Int)) rfl rfl (by omega)) hS.rd ?_
    refine LW.ex rfl rfl rfl rfl (Ex.conv Try.underlying157 Try.underlying3 rfl (w64 (by omega) (by omega))) hS.rd ?_
    refine LW.ex rfl rfl rfl rfl (Ex.assign rfl) hS.rd ?_
    refine LW.nil fun aa ha => hK7 _ _ _ ?_ aa ha
    refine CW.seq fun K8 hK8 => ?_
    subst hade
    refine CW.region [0, 1, 2, 3, 4, 5, 6, 7] rfl ?_
    refine LW.ex rfl rfl rfl rfl (Ex.move rfl) hS.rd ?_
    refine LW.ex rfl rfl rfl rfl (Ex.move rfl) hS.rd ?_
    refine LW.ex rfl rfl rfl rfl (Ex.move rfl) hS.rd ?_
    refine LW.ex rfl rfl rfl rfl (Ex.indexSl Try.underlying32 ti87 rfl rfl rfl (by omega)) hS.rd ?_
    refine LW.ex rfl rfl rfl rfl (Ex.load3c ti87 rfl rfl (by first | exact obT rfl | exact Rd.imm ‹_› | exact slT ‹_›) (by first | exact obT rfl | exact Rd.imm ‹_› | exact slT ‹_›) (by first | exact obT rfl | exact Rd.imm ‹_› | exact slT ‹_›)) hS.rd ?_
    refine LW.ex rfl rfl rfl rfl (Ex.move rfl) hS.rd ?_
    refine LW.hv rfl rfl rfl rfl (Hv.callS hS rfl rfl rfl hf (hcf xs[h] (List.getElem_mem hhx) _ hS.imm)) fun v w30 ⟨hv, hS⟩ => ?_
    subst hv
    refine LW.ex rfl rfl rfl rfl (Ex.lss rfl rfl rfl) hS.rd ?_
    refine LW.splitB (fun h5_7 => ?_) (fun h5_7 => ?_)
    · have h5_7 := of_decide_eq_true h5_7
      refine LW.nil fun aa ha => hK8 _ _ _ ?_ aa ha
      refine CW.yes rfl ?_
      refine CW.region [0, 1, 2] rfl ?_
      refine LW.ex rfl rfl rfl rfl (Ex.move rfl) hS.rd ?_
      refine LW.ex rfl rfl rfl rfl (Ex.add rfl rfl (by first | exact inc64 (by omega) | exact addN (by omega) | exact w64 (by omega) (by omega))) hS.rd ?_
      refine LW.ex rfl rfl rfl rfl (Ex.assign rfl) hS.rd ?_
      refine LW.nil fun aa ha => ?_
      have hlt := h5_7
      refine ⟨_, _, ?m3, ⟨h + 1, j, (by first | omega | (simp; done) | (simp; omega)), (by first | omega | (simp; done) | (simp; omega)), rfl, rfl, hS, fun k hk hki => by rcases Int.lt_or_le (cf xs[k]) 0 with h | h5; (· exact h); (· have := mono_at hm hk hhx (by omega) h5; omega), h2⟩, ha.sub ⟨rfl, rfl, rfl, rfl, rfl, rfl, trivial⟩⟩
      case m3 => omega
    · have h5_7 := of_decide_eq_false h5_7
      refine LW.nil fun aa ha => hK8 _ _ _ ?_ aa ha
      refine CW.no rfl ?_
      refine CW.region [0, 1] rfl ?_
      refine LW.ex rfl rfl rfl rfl (Ex.move rfl) hS.rd ?_
      refine LW.ex rfl rfl rfl rfl (Ex.assign rfl) hS.rd ?_
      refine LW.nil fun aa ha => ?_
      refine ⟨_, _, ?m3, ⟨i, h, (by first | omega | (simp; done) | (simp; omega)), (by first | omega | (simp; done) | (simp; omega)), rfl, rfl, hS, h1, fun k hk hki => mono_at hm hhx hk hki (by omega)⟩, ha.sub ⟨rfl, rfl, rfl, rfl, rfl, rfl, trivial⟩⟩
      case m3 => omega
  · have h3_2 := of_decide_eq_false h3_2
    refine LW.nil fun aa ha => hK6 _ _ _ ?_ aa ha
    refine CW.no rfl ?_
    refine CW.exit fun aa ha => hK4 _ _ _ ?_ aa ha
    refine CW.seq fun K9 hK9 => ?_
    have hie : i = j := by omega
    subst hie
    have hlb : lbL cf xs = i := lbL_of (by omega) h1 h2
    refine CW.region [0, 1, 2, 3, 4, 5, 6, 7, 8, 9, 10, 11, 12, 13, 14, 15] rfl ?_
    refine LW.ex rfl rfl rfl rfl (Ex.move rfl) hS.rd ?_
    refine LW.ex rfl rfl rfl rfl (Ex.move rfl) hS.rd ?_
    refine LW.ex rfl rfl rfl rfl (Ex.move rfl) hS.rd ?_
    refine LW.ex rfl rfl rfl rfl (Ex.lss rfl rfl rfl) hS.rd ?_
    refine LW.splitB (fun h8_3 => ?_) (fun h8_3 => ?_)
    · have h8_3 := of_decide_eq_true h8_3
      have hix : i < xs.length := by omega
      obtain ⟨bl, ol, hade, k0, k1, k2⟩ := hl.at hix
      subst hade
      refine LW.ex rfl rfl rfl rfl (Ex.move rfl) hS.rd ?_
      refine LW.ex rfl rfl rfl rfl (Ex.move rfl) hS.rd ?_
      refine LW.ex rfl rfl rfl rfl (Ex.move rfl) hS.rd ?_
      refine LW.ex rfl rfl rfl rfl (Ex.move rfl) hS.rd ?_
      refine LW.ex rfl rfl rfl rfl (Ex.indexSl Try.underlying32 ti87 rfl rfl rfl (by omega)) hS.rd ?_
      refine LW.ex rfl rfl rfl rfl (Ex.load3c ti87 rfl rfl (by first | exact obT rfl | exact Rd.imm ‹_› | exact slT ‹_›) (by first | exact obT rfl | exact Rd.imm ‹_› | exact slT ‹_›) (by first | exact obT rfl | exact Rd.imm ‹_› | exact slT ‹_›)) hS.rd ?_
      refine LW.ex rfl rfl rfl rfl (Ex.move rfl) hS.rd ?_
      refine LW.hv rfl rfl rfl rfl (Hv.callS hS rfl rfl rfl hf (hcf xs[i] (List.getElem_mem hix) _ hS.imm)) fun v w46 ⟨hv, hS⟩ => ?_
      subst hv
      refine LW.ex rfl rfl rfl rfl (Ex.eql rfl rfl (by first | exact decide_eq_true (by omega) | exact decide_eq_false (by omega) | rfl)) hS.rd ?_
      refine LW.ex rfl rfl rfl rfl (by first | exact Ex.pick_yes rfl rfl | exact Ex.pick_no rfl rfl) hS.rd ?_
      refine LW.ex rfl rfl rfl rfl (Ex.assign rfl) hS.rd ?_
      refine LW.ex rfl rfl rfl rfl (Ex.assign rfl) hS.rd ?_
      refine LW.nil fun aa ha => hK9 _ _ _ ?_ aa ha
      refine CW.ret fun aa ha => ?_
      refine ret_two ha Try.results85 rfl rfl ?_
      have hhit : hitL cf xs = decide (cf xs[i] = 0) := by unfold hitL; rw [hlb, List.getElem?_eq_getElem hix]
      rw [hlb, hhit]; exact hS.retS
    · have h8_3 := of_decide_eq_false h8_3
      refine LW.ex rfl rfl rfl rfl (Ex.move rfl) hS.rd ?_
      refine LW.skip rfl rfl rfl rfl ?_
      refine LW.skip rfl rfl rfl rfl ?_
      refine LW.skip rfl rfl rfl rfl ?_
      refine LW.skip rfl rfl rfl rfl ?_
      refine LW.skip rfl rfl rfl rfl ?_
      refine LW.skip rfl rfl rfl rfl ?_
      refine LW.skip rfl rfl rfl rfl ?_
      refine LW.skip rfl rfl rfl rfl ?_
      refine LW.ex rfl rfl rfl rfl (by first | exact Ex.pick_yes rfl rfl | exact Ex.pick_no rfl rfl) hS.rd ?_
      refine LW.ex rfl rfl rfl rfl (Ex.assign rfl) hS.rd ?_
      refine LW.ex rfl rfl rfl rfl (Ex.assign rfl) hS.rd ?_
      refine LW.nil fun aa ha => hK9 _ _ _ ?_ aa ha
      refine CW.ret fun aa ha => ?_
      refine ret_two ha Try.results85 rfl rfl ?_
      have hhit : hitL cf xs = false := by unfold hitL; rw [hlb, List.getElem?_eq_none (by omega)]
      rw [hlb, hhit]; exact hS.retS
set_option maxRecDepth 100000 in
theorem bsearchEd_c (xs : List Edge) (tv : Value) (f : Nat) (cap : Array Value) (cf : Edge → Int) (hf : Callable Try.prog f) (ad : Option Addr) (c : Nat) (μ : Mem) (w : World) (hμ : Imm μ w) (hl : Sl μ ad c xs) (hbig : xs.length < 1099511627776)
    (hm : xs.Pairwise fun x y => 0 ≤ cf x → 0 ≤ cf y) (hcf : ∀ x ∈ xs, ∀ w', Imm μ w' → Calls Try.prog f ([edgeV x, tv] ++ cap.toList).toArray w' (RetS w' (.int .i64 (cf x)))) :
    Calls Try.prog 77 #[.slice ad xs.length c, tv, .func (.func f) #[] cap] w (RetS w (.tuple #[.int .i64 (lbL cf xs : Nat), .bool (hitL cf xs)])) := by
  have hS := St.start w μ hμ
  refine calls_start 49 [.slice ad xs.length c, tv, .func (.func f) #[] cap] Try.func77 rfl Try.ntmps77 rfl rfl ?_
  refine CW.seq fun K10 hK10 => ?_
  refine CW.region [0, 1] rfl ?_
  refine LW.ex rfl rfl rfl rfl (Ex.assign rfl) hS.rd ?_
  refine LW.ex rfl rfl rfl rfl (Ex.assign rfl) hS.rd ?_
  refine LW.nil fun aa ha => hK10 _ _ _ ?_ aa ha
  refine CW.seq fun K11 hK11 => ?_
  refine CW.region [0, 1, 2] rfl ?_
  refine LW.ex rfl rfl rfl rfl (Ex.move rfl) hS.rd ?_
  refine LW.ex rfl rfl rfl rfl (Ex.lenSl rfl Try.underlying36 rfl) hS.rd ?_
  refine LW.ex rfl rfl rfl rfl (Ex.assign rfl) hS.rd ?_
  refine LW.nil fun aa ha => hK11 _ _ _ ?_ aa ha
  refine CW.seq fun K12 hK12 => ?_
  refine CW.region [0, 1, 2] rfl ?_
  refine LW.ex rfl rfl rfl rfl (Ex.move rfl) hS.rd ?_
  refine LW.ex rfl rfl rfl rfl (Ex.assign rfl) hS.rd ?_
  refine LW.ex rfl rfl rfl rfl (Ex.assign rfl) hS.rd ?_
  refine LW.nil fun aa ha => hK12 _ _ _ ?_ aa ha
  refine CW.seq fun K13 hK13 => ?_
  refine CW.block ?_
  refine CW.loop (fun qq frm wl3 => ∃ (i : Nat) (j : Nat), i ≤ j ∧ j ≤ xs.length ∧ qq = j - i ∧ frm = [(0, .slice ad xs.length c), (1, tv), (2, .func (.func f) #[] cap), (8, .int .i64 ((xs.length : Nat) : Int)), (9, .int .i64 i), (10, .int .i64 j)] ∧ St w wl3 μ [] ∧ (∀ k (h : k < xs.length), k < i → cf xs[k] < 0) ∧ (∀ k (h : k < xs.length), j ≤ k → 0 ≤ cf xs[k])) _ ⟨0, xs.length, (by first | omega | (simp; done) | (simp; omega)), (by first | omega | (simp; done) | (simp; omega)), rfl, rfl, hS, fun k _ hk => by omega, fun k hk h => by omega⟩ ⟨rfl, rfl, rfl, rfl, rfl, rfl, trivial⟩ ?_
  clear hS
  rintro qq frm wl3 ⟨i, j, hij, hjn, hq, rfl, hS, h1, h2⟩
  refine CW.seq fun K14 hK14 => ?_
  refine CW.seq fun K15 hK15 => ?_
  refine CW.region [0, 1, 2] rfl ?_
  refine LW.ex rfl rfl rfl rfl (Ex.move rfl) hS.rd ?_
  refine LW.ex rfl rfl rfl rfl (Ex.move rfl) hS.rd ?_
  refine LW.ex rfl rfl rfl rfl (Ex.lss rfl rfl rfl) hS.rd ?_
  refine LW.splitB (fun h3_2 => ?_) (fun h3_2 => ?_)
  · have h3_2 := of_decide_eq_true h3_2
    refine LW.nil fun aa ha => hK15 _ _ _ ?_ aa ha
    refine CW.yes rfl ?_
    refine CW.skip fun aa ha => hK14 _ _ _ ?_ aa ha
    refine CW.block ?_
    refine CW.seq fun K16 hK16 => ?_
    have hij2 : i < j := by omega
    obtain ⟨h, hh⟩ : ∃ h, h = (i + j) / 2 := ⟨_, rfl⟩
    have hhi : i ≤ h := by omega
    have hhj : h < j := by omega
    have hhx : h < xs.length := by omega
    obtain ⟨bl, ol, hade, k0, k1, k2, k3⟩ := hl.at hhx
    refine CW.region [0, 1, 2, 3, 4, 5, 6] rfl ?_
    refine LW.ex rfl rfl rfl rfl (Ex.move rfl) hS.rd ?_
    refine LW.ex rfl rfl rfl rfl (Ex.move rfl) hS.rd ?_
    refine LW.ex rfl rfl rfl rfl (Ex.add (r := ((i + j : Nat) : Int)) rfl rfl (addN (by omega))) hS.rd ?_
    refine LW.ex rfl rfl rfl rfl (Ex.conv Try.underlying3 Try.underlying157 rfl (wrapU (by omega))) hS.rd ?_
    refine LW.ex rfl rfl rfl rfl (Ex.shr1 (r := (h : Int)) rfl rfl (by omega)) hS.rd ?_
    refine LW.ex rfl rfl rfl rfl (Ex.conv Try.underlying157 Try.underlying3 rfl (w64 (by omega) (by omega))) hS.rd ?_
    refine LW.ex rfl rfl rfl rfl (Ex.assign rfl) hS.rd ?_
    refine LW.nil fun aa ha => hK16 _ _ _ ?_ aa ha
    refine CW.seq fun K17 hK17 => ?_
    subst hade
    refine CW.region [0, 1, 2, 3, 4, 5, 6, 7] rfl ?_
    refine LW.ex rfl rfl rfl rfl (Ex.move rfl) hS.rd ?_
    refine LW.ex rfl rfl rfl rfl (Ex.move rfl) hS.rd ?_
    refine LW.ex rfl rfl rfl rfl (Ex.move rfl) hS.rd ?_
    refine LW.ex rfl rfl rfl rfl (Ex.indexSl Try.underlying36 ti43 rfl rfl rfl (by omega)) hS.rd ?_
    refine LW.ex rfl rfl rfl rfl (Ex.load4c ti43 rfl rfl (by first | exact obT rfl | exact Rd.imm ‹_› | exact slT ‹_›) (by first | exact obT rfl | exact Rd.imm ‹_› | exact slT ‹_›) (by first | exact obT rfl | exact Rd.imm ‹_› | exact slT ‹_›) (by first | exact obT rfl | exact Rd.imm ‹_› | exact slT ‹_›)) hS.rd ?_
    refine LW.ex rfl rfl rfl rfl (Ex.move rfl) hS.rd ?_
    refine LW.hv rfl rfl rfl rfl (Hv.callS hS rfl rfl rfl hf (hcf xs[h] (List.getElem_mem hhx) _ hS.imm)) fun v w30 ⟨hv, hS⟩ => ?_
    subst hv
    refine LW.ex rfl rfl rfl rfl (Ex.lss rfl rfl rfl) hS.rd ?_
    refine LW.splitB (fun h5_7 => ?_) (fun h5_7 => ?_)
    · have h5_7 := of_decide_eq_true h5_7
      refine LW.nil fun aa ha => hK17 _ _ _ ?_ aa ha
      refine CW.yes rfl ?_
      refine CW.region [0, 1, 2] rfl ?_
      refine LW.ex rfl rfl rfl rfl (Ex.move rfl) hS.rd ?_
      refine LW.ex rfl rfl rfl rfl (Ex.add rfl rfl (by first | exact inc64 (by omega) | exact addN (by omega) | exact w64 (by omega) (by omega))) hS.rd ?_
      refine LW.ex rfl rfl rfl rfl (Ex.assign rfl) hS.rd ?_
      refine LW.nil fun aa ha => ?_
      have hlt := h5_7
      refine ⟨_, _, ?m3, ⟨h + 1, j, (by first | omega | (simp; done) | (simp; omega)), (by first | omega | (simp; done) | (simp; omega)), rfl, rfl, hS, fun k hk hki => by rcases Int.lt_or_le (cf xs[k]) 0 with h | h5; (· exact h); (· have := mono_at hm hk hhx (by omega) h5; omega), h2⟩, ha.sub ⟨rfl, rfl, rfl, rfl, rfl, rfl, trivial⟩⟩
      case m3 => omega
    · have h5_7 := of_decide_eq_false h5_7
      refine LW.nil fun aa ha => hK17 _ _ _ ?_ aa ha
      refine CW.no rfl ?_
      refine CW.region [0, 1] rfl ?_
      refine LW.ex rfl rfl rfl rfl (Ex.move rfl) hS.rd ?_
      refine LW.ex rfl rfl rfl rfl (Ex.assign rfl) hS.rd ?_
      refine LW.nil fun aa ha => ?_
      refine ⟨_, _, ?m3, ⟨i, h, (by first | omega | (simp; done) | (simp; omega)), (by first | omega | (simp; done) | (simp; omega)), rfl, rfl, hS, h1, fun k hk hki => mono_at hm hhx hk hki (by omega)⟩, ha.sub ⟨rfl, rfl, rfl, rfl, rfl, rfl, trivial⟩⟩
      case m3 => omega
  · have h3_2 := of_decide_eq_false h3_2
    refine LW.nil fun aa ha => hK15 _ _ _ ?_ aa ha
    refine CW.no rfl ?_
    refine CW.exit fun aa ha => hK13 _ _ _ ?_ aa ha
    refine CW.seq fun K18 hK18 => ?_
    have hie : i = j := by omega
    subst hie
    have hlb : lbL cf xs = i := lbL_of (by omega) h1 h2
    refine CW.region [0, 1, 2, 3, 4, 5, 6, 7, 8, 9, 10, 11, 12, 13, 14, 15] rfl ?_
    refine LW.ex rfl rfl rfl rfl (Ex.move rfl) hS.rd ?_
    refine LW.ex rfl rfl rfl rfl (Ex.move rfl) hS.rd ?_
    refine LW.ex rfl rfl rfl rfl (Ex.move rfl) hS.rd ?_
    refine LW.ex rfl rfl rfl rfl (Ex.lss rfl rfl rfl) hS.rd ?_
    refine LW.splitB (fun h8_3 => ?_) (fun h8_3 => ?_)
    · have h8_3 := of_decide_eq_true h8_3
      have hix : i < xs.length := by omega
      obtain ⟨bl, ol, hade, k0, k1, k2, k3⟩ := hl.at hix
      subst hade
      refine LW.ex rfl rfl rfl rfl (Ex.move rfl) hS.rd ?_
      refine LW.ex rfl rfl rfl rfl (Ex.move rfl) hS.rd ?_
      refine LW.ex rfl rfl rfl rfl (Ex.move rfl) hS.rd ?_
      refine LW.ex rfl rfl rfl rfl (Ex.move rfl) hS.rd ?_
      refine LW.ex rfl rfl rfl rfl (Ex.indexSl Try.underlying36 ti43 rfl rfl rfl (by omega)) hS.rd ?_
      refine LW.ex rfl rfl rfl rfl (Ex.load4c ti43 rfl rfl (by first | exact obT rfl | exact Rd.imm ‹_› | exact slT ‹_›) (by first | exact obT rfl | exact Rd.imm ‹_› | exact slT ‹_›) (by first | exact obT rfl | exact Rd.imm ‹_› | exact slT ‹_›) (by first | exact obT rfl | exact Rd.imm ‹_› | exact slT ‹_›)) hS.rd ?_
      refine LW.ex rfl rfl rfl rfl (Ex.move rfl) hS.rd ?_
      refine LW.hv rfl rfl rfl rfl (Hv.callS hS rfl rfl rfl hf (hcf xs[i] (List.getElem_mem hix) _ hS.imm)) fun v w46 ⟨hv, hS⟩ => ?_
      subst hv
      refine LW.ex rfl rfl rfl rfl (Ex.eql rfl rfl (by first | exact decide_eq_true (by omega) | exact decide_eq_false (by omega) | rfl)) hS.rd ?_
      refine LW.ex rfl rfl rfl rfl (by first | exact Ex.pick_yes rfl rfl | exact Ex.pick_no rfl rfl) hS.rd ?_
      refine LW.ex rfl rfl rfl rfl (Ex.assign rfl) hS.rd ?_
      refine LW.ex rfl rfl rfl rfl (Ex.assign rfl) hS.rd ?_
      refine LW.nil fun aa ha => hK18 _ _ _ ?_ aa ha
      refine CW.ret fun aa ha => ?_
      refine ret_two ha Try.results77 rfl rfl ?_
      have hhit : hitL cf xs = decide (cf xs[i] = 0) := by unfold hitL; rw [hlb, List.getElem?_eq_getElem hix]
      rw [hlb, hhit]; exact hS.retS
    · have h8_3 := of_decide_eq_false h8_3
      refine LW.ex rfl rfl rfl rfl (Ex.move rfl) hS.rd ?_
      refine LW.skip rfl rfl rfl rfl ?_
      refine LW.skip rfl rfl rfl rfl ?_
      refine LW.skip rfl rfl rfl rfl ?_
      refine LW.skip rfl rfl rfl rfl ?_
      refine LW.skip rfl rfl rfl rfl ?_
      refine LW.skip rfl rfl rfl rfl ?_
      refine LW.skip rfl rfl rfl rfl ?_
      refine LW.skip rfl rfl rfl rfl ?_
      refine LW.ex rfl rfl rfl rfl (by first | exact Ex.pick_yes rfl rfl | exact Ex.pick_no rfl rfl) hS.rd ?_
      refine LW.ex rfl rfl rfl rfl (Ex.assign rfl) hS.rd ?_
      refine LW.ex rfl rfl rfl rfl (Ex.assign rfl) hS.rd ?_
      refine LW.nil fun aa ha => hK18 _ _ _ ?_ aa ha
      refine CW.ret fun aa ha => ?_
      refine ret_two ha Try.results77 rfl rfl ?_
      have hhit : hitL cf xs = false := by unfold hitL; rw [hlb, List.getElem?_eq_none (by omega)]
      rw [hlb, hhit]; exact hS.retS
end Go.Proofs.Ytgnpjhellmfhoaa

/-
  Context: the walks of the searches for pairs, the pairs after a word, their numbers.
-/
namespace Go.Proofs.Ytgnpjhellmfhoaa
open Go.RowKit Sy

def keyCmp (a b : Int) (p : Pr) : Int := orL [cmpI p.A a, cmpI p.B b]
theorem keyCmp_lt {a b : Int} {p : Pr} : keyCmp a b p < 0 ↔ p.A < a ∨ (p.A = a ∧ p.B < b) := by
  simp only [keyCmp, orL, cmpI]; split <;> split <;> (try split) <;> (try split) <;> (try split) <;> omega
theorem keyCmp_eq {a b : Int} {p : Pr} : keyCmp a b p = 0 ↔ p.A = a ∧ p.B = b := by
  simp only [keyCmp, orL, cmpI]; split <;> split <;> (try split) <;> (try split) <;> (try split) <;> omega
theorem keyCmp_ge {a b : Int} {p : Pr} : 0 ≤ keyCmp a b p ↔ ¬ (p.A < a ∨ (p.A = a ∧ p.B < b)) := by rw [← keyCmp_lt]; omega
theorem keyCmp_c (a b n : Int) (p : Pr) (w : World) : Calls Try.prog 63 #[.agg #[.int .i64 a, .int .i64 b, .int .i64 n], prV p] w (RetS w (.int .i64 (keyCmp a b p))) := by
  have hS := St.start w (fun _ => none) (fun _ _ h => by cases h)
  refine calls_start 19 [.agg #[.int .i64 a, .int .i64 b, .int .i64 n], prV p] Try.func63 rfl Try.ntmps63 rfl rfl ?_
  refine CW.seq fun K1 hK1 => ?_
  refine CW.region [0, 1, 2] rfl ?_
  refine LW.hv rfl rfl rfl rfl (Hv.boxS hS rfl rfl) fun v w2 ⟨b2, hv, hb2, hS⟩ => ?_
  subst hv
  refine LW.hv rfl rfl rfl rfl (Hv.boxS hS rfl rfl) fun v w3 ⟨b3, hv, hb3, hS⟩ => ?_
  subst hv
  refine LW.ex rfl rfl rfl rfl (Ex.assign rfl) hS.rd ?_
  refine LW.nil fun aa ha => hK1 _ _ _ ?_ aa ha
  refine CW.seq fun K2 hK2 => ?_
  have hS := hS.drew
  refine CW.draw 15 (.ex 0 <| .ex 1 <| .ex 2 <| .ex 3 <| .ex 4 <| .ex 6 <| .ex 7 <| .ex 8 <| .ex 9 <| .ex 10 <| .one 5 <| .one 11 <| .one 12 <| .one 13 <| .ex 14 <| .done) [] (Rd _ _) mixed (by kernel_rfl) rfl rfl hS.rd ?_
  refine PW.ex rfl rfl rfl rfl (Ex.fieldO 0 Try.underlying87 rfl rfl ti3 rfl) ?_
  refine PW.ex rfl rfl rfl rfl (Ex.load1 ti3 rfl rfl (by first | exact obT rfl | exact Rd.imm ‹_› | exact slT ‹_›)) ?_
  refine PW.ex rfl rfl rfl rfl (Ex.fieldO 0 Try.underlying132 rfl rfl ti87 rfl) ?_
  refine PW.ex rfl rfl rfl rfl (Ex.fieldO 0 Try.underlying87 rfl rfl ti3 rfl) ?_
  refine PW.ex rfl rfl rfl rfl (Ex.load1 ti3 rfl rfl (by first | exact obT rfl | exact Rd.imm ‹_› | exact slT ‹_›)) ?_
  refine PW.ex rfl rfl rfl rfl (Ex.fieldO 1 Try.underlying87 rfl rfl ti3 rfl) ?_
  refine PW.ex rfl rfl rfl rfl (Ex.load1 ti3 rfl rfl (by first | exact obT rfl | exact Rd.imm ‹_› | exact slT ‹_›)) ?_
  refine PW.ex rfl rfl rfl rfl (Ex.fieldO 0 Try.underlying132 rfl rfl ti87 rfl) ?_
  refine PW.ex rfl rfl rfl rfl (Ex.fieldO 1 Try.underlying87 rfl rfl ti3 rfl) ?_
  refine PW.ex rfl rfl rfl rfl (Ex.load1 ti3 rfl rfl (by first | exact obT rfl | exact Rd.imm ‹_› | exact slT ‹_›)) ?_
  refine PW.hv rfl rfl rfl rfl (Hv.callS hS rfl rfl rfl cb72 (cmp_c _ _ _)) (fun _ _ h => h.2.rd) fun v w10 ⟨hv, hS⟩ => ?_
  subst hv
  refine PW.hv rfl rfl rfl rfl (Hv.callS hS rfl rfl rfl cb72 (cmp_c _ _ _)) (fun _ _ h => h.2.rd) fun v w16 ⟨hv, hS⟩ => ?_
  subst hv
  refine PW.hv rfl rfl rfl rfl (Hv.buildSl hS Try.underlying31 ti3 rfl rfl rfl rfl rfl rfl) (fun _ _ ⟨_, _, _, h⟩ => h.rd.tail) fun v w17 ⟨b17, hv, hb17, hS⟩ => ?_
  subst hv
  refine PW.hv rfl rfl rfl rfl (Hv.callS hS rfl rfl rfl cb81 (or_c [cmpI p.A a, cmpI p.B b] _ _ (memOf _) _ (imm_memOf _) (hS.lend_obj (k := 0) rfl (RepL.ints2 _ _ _) (by simp [maxLen])))) (fun _ _ h => h.2.rd.tail) fun v w18 ⟨hv, hS⟩ => ?_
  subst hv
  refine PW.ex rfl rfl rfl rfl (Ex.assign rfl) ?_
  refine PW.nil ?_
  refine LW.nil fun aa ha => hK2 _ _ _ ?_ aa ha
  refine CW.ret fun aa ha => ?_
  refine ret_one ha Try.results63 rfl ?_
  exact hS.retS
theorem find1_c (a b n z : Int) (p : Pr) (b8 : Nat) (μ : Mem) (w : World) (hμ : Imm μ w) (hb : μ.cell b8 0 = some (.func (.func 63) #[.agg #[.int .i64 a, .int .i64 b, .int .i64 n]] #[])) :
    Calls Try.prog 86 #[prV p, .int .i64 z, .pointer (some ⟨b8, 0, none⟩)] w (RetS w (.int .i64 (keyCmp a b p))) := by
  have hS := St.start w μ hμ
  refine calls_start 9 [prV p, .int .i64 z, .pointer (some ⟨b8, 0, none⟩)] Try.func86 rfl Try.ntmps86 rfl rfl ?_
  refine CW.seq fun K3 hK3 => ?_
  refine CW.region [0, 1] rfl ?_
  refine LW.hv rfl rfl rfl rfl (Hv.boxS hS rfl rfl) fun v w3 ⟨b3, hv, hb3, hS⟩ => ?_
  subst hv
  refine LW.ex rfl rfl rfl rfl (Ex.assign rfl) hS.rd ?_
  refine LW.nil fun aa ha => hK3 _ _ _ ?_ aa ha
  refine CW.seq fun K4 hK4 => ?_
  refine CW.region [0, 1, 2, 3] rfl ?_
  refine LW.ex rfl rfl rfl rfl (Ex.load1 ti133 rfl rfl (by first | exact obT rfl | exact Rd.imm ‹_› | exact slT ‹_›)) hS.rd ?_
  refine LW.ex rfl rfl rfl rfl (Ex.load3c ti87 rfl rfl (by first | exact obT rfl | exact Rd.imm ‹_› | exact slT ‹_›) (by first | exact obT rfl | exact Rd.imm ‹_› | exact slT ‹_›) (by first | exact obT rfl | exact Rd.imm ‹_› | exact slT ‹_›)) hS.rd ?_
  refine LW.hv rfl rfl rfl rfl (Hv.callFS hS rfl rfl rfl cb63 (keyCmp_c a b n p _)) fun v w8 ⟨hv, hS⟩ => ?_
  subst hv
  refine LW.ex rfl rfl rfl rfl (Ex.assign rfl) hS.rd ?_
  refine LW.nil fun aa ha => hK4 _ _ _ ?_ aa ha
  refine CW.ret fun aa ha => ?_
  refine ret_one ha Try.results86 rfl ?_
  exact hS.retS
def PrSort (l : List Pr) : Prop := l.Pairwise fun p q => prLess p q = true
theorem prLess_iff {p q : Pr} : prLess p q = true ↔ p.A < q.A ∨ (p.A = q.A ∧ p.B < q.B) := by unfold prLess; rw [decide_eq_true_eq]
theorem keyCmp_mono {l : List Pr} (h : PrSort l) (a b : Int) : l.Pairwise fun x y => 0 ≤ keyCmp a b x → 0 ≤ keyCmp a b y := h.imp fun {x y} hxy => by
  rw [keyCmp_ge, keyCmp_ge]; rw [prLess_iff] at hxy; omega
theorem find_c (l : List Pr) (a b : Int) (hs : PrSort l) (hbig : l.length < 1099511627776) (ad : Option Addr) (c : Nat) (μ : Mem) (w : World) (hμ : Imm μ w) (hl : Sl μ ad c l) :
    Calls Try.prog 70 #[.slice ad l.length c, .int .i64 a, .int .i64 b] w (RetS w (.tuple #[.int .i64 (lbL (keyCmp a b) l : Nat), .bool (hitL (keyCmp a b) l)])) := by
  have hS := St.start w μ hμ
  refine calls_start 19 [.slice ad l.length c, .int .i64 a, .int .i64 b] Try.func70 rfl Try.ntmps70 rfl rfl ?_
  refine CW.seq fun K5 hK5 => ?_
  refine CW.region [0, 1] rfl ?_
  refine LW.ex rfl rfl rfl rfl (Ex.assign rfl) hS.rd ?_
  refine LW.ex rfl rfl rfl rfl (Ex.assign rfl) hS.rd ?_
  refine LW.nil fun aa ha => hK5 _ _ _ ?_ aa ha
  refine CW.seq fun K6 hK6 => ?_
  refine CW.region [0, 1, 2, 3, 4, 5, 6] rfl ?_
  refine LW.ex rfl rfl rfl rfl (Ex.move rfl) hS.rd ?_
  refine LW.ex rfl rfl rfl rfl (Ex.move rfl) hS.rd ?_
  refine LW.ex rfl rfl rfl rfl (Ex.buildS st87 rfl rfl rfl) hS.rd ?_
  refine LW.ex rfl rfl rfl rfl (Ex.buildS st132 rfl rfl rfl) hS.rd ?_
  refine LW.ex rfl rfl rfl rfl (Ex.makeFuncF rfl rfl) hS.rd ?_
  refine LW.hv rfl rfl rfl rfl (Hv.alloc ti133 hS) fun v w8 ⟨b8, hv, hb8, hS⟩ => ?_
  subst hv
  refine LW.hu rfl rfl rfl (Hv.storeObj (k := 0) ti133 hS rfl rfl rfl rfl (by first | assumption | (simp; done) | omega | exact Nat.zero_lt_succ _)) fun _ w_6 hS => ?_
  dsimp only [List.set] at hS
  refine LW.nil fun aa ha => hK6 _ _ _ ?_ aa ha
  refine CW.seq fun K7 hK7 => ?_
  refine CW.region [0, 1, 2, 3, 4, 5, 6] rfl ?_
  refine LW.ex rfl rfl rfl rfl (Ex.move rfl) hS.rd ?_
  refine LW.ex rfl rfl rfl rfl (Ex.makeFunc rfl) hS.rd ?_
  refine LW.hv rfl rfl rfl rfl (Hv.callS hS rfl rfl rfl cb85 (bsearchPr_c l _ _ _ (keyCmp a b) cb86 _ _ (memOf _) _ (imm_memOf _) (hl.mono hS.imm.ext) hbig (keyCmp_mono hs a b) (fun x hx w' hw' => find1_c a b 0 0 x b8 _ w' hw' (memOf_cell (Rd.obj (k := 0) rfl rfl _ hS.rd))))) fun v w16 ⟨hv, hS⟩ => ?_
  subst hv
  refine LW.ex rfl rfl rfl rfl (Ex.extract rfl rfl) hS.rd ?_
  refine LW.ex rfl rfl rfl rfl (Ex.extract rfl rfl) hS.rd ?_
  refine LW.ex rfl rfl rfl rfl (Ex.assign rfl) hS.rd ?_
  refine LW.ex rfl rfl rfl rfl (Ex.assign rfl) hS.rd ?_
  refine LW.nil fun aa ha => hK7 _ _ _ ?_ aa ha
  refine CW.ret fun aa ha => ?_
  refine ret_two ha Try.results70 rfl rfl ?_
  exact hS.retS
def afterL (l : List Pr) (a : Int) : List Pr := l.filter fun p => decide (p.A = a)
/-- What lies between the two places: the pairs after the word. -/
theorem after_part {l : List Pr} (h : PrSort l) (a : Int) : lbL (keyCmp a (-1)) l ≤ lbL (keyCmp (a + 1) (-1)) l ∧ ((∀ p ∈ l, 0 ≤ p.B) → (l.drop (lbL (keyCmp a (-1)) l)).take (lbL (keyCmp (a + 1) (-1)) l - lbL (keyCmp a (-1)) l) = afterL l a) := by
  have m1 := keyCmp_mono h a (-1)
  have m2 := keyCmp_mono h (a + 1) (-1)
  have hle : lbL (keyCmp a (-1)) l ≤ lbL (keyCmp (a + 1) (-1)) l := by
    unfold lbL
    exact List.countP_mono_left fun x _ hx => by
      rw [decide_eq_true_eq, keyCmp_lt] at *; omega
  refine ⟨hle, fun hB => ?_⟩
  obtain ⟨i, hi⟩ : ∃ i, i = lbL (keyCmp a (-1)) l := ⟨_, rfl⟩
  obtain ⟨j, hj⟩ : ∃ j, j = lbL (keyCmp (a + 1) (-1)) l := ⟨_, rfl⟩
  rw [← hi, ← hj] at hle ⊢
  have hjl : j ≤ l.length := by rw [hj]; exact lbL_le _ _
  have e : l = l.take i ++ ((l.drop i).take (j - i) ++ l.drop j) := by
    conv => lhs; rw [← List.take_append_drop i l]
    congr 1
    conv => lhs; rw [← List.take_append_drop (j - i) (l.drop i)]
    rw [List.drop_drop, show i + (j - i) = j by omega]
  unfold afterL
  conv => rhs; rw [e]
  rw [List.filter_append, List.filter_append]
  have f1 : (l.take i).filter (fun p => decide (p.A = a)) = [] := by
    rw [List.filter_eq_nil_iff]
    intro x hx
    obtain ⟨k, hk, rfl⟩ := List.getElem_of_mem hx
    rw [List.length_take] at hk
    rw [List.getElem_take, decide_eq_true_eq]
    have := (lbL_lt m1 (k := k) (by omega)).1 (by omega)
    rw [keyCmp_lt] at this
    have hB' := hB l[k] (List.getElem_mem (by omega))
    omega
  have f2 : (l.drop j).filter (fun p => decide (p.A = a)) = [] := by
    rw [List.filter_eq_nil_iff]
    intro x hx
    obtain ⟨k, hk, rfl⟩ := List.getElem_of_mem hx
    rw [List.length_drop] at hk
    rw [List.getElem_drop, decide_eq_true_eq]
    have := (not_congr (lbL_lt m2 (k := j + k) (by omega))).1 (by omega)
    rw [keyCmp_lt] at this
    omega
  have f3 : ((l.drop i).take (j - i)).filter (fun p => decide (p.A = a)) = (l.drop i).take (j - i) := by
    rw [List.filter_eq_self]
    intro x hx
    obtain ⟨k, hk, rfl⟩ := List.getElem_of_mem hx
    rw [List.length_take, List.length_drop] at hk
    rw [List.getElem_take, List.getElem_drop, decide_eq_true_eq]
    have h1 := (not_congr (lbL_lt m1 (k := i + k) (by omega))).1 (by omega)
    have h2 := (lbL_lt m2 (k := i + k) (by omega)).1 (by omega)
    rw [keyCmp_lt] at h1 h2
    have hB' := hB l[i + k] (List.getElem_mem (by omega))
    omega
  rw [f1, f2, f3, List.nil_append, List.append_nil]
theorem after_c (l : List Pr) (a : Int) (hs : PrSort l) (hB : ∀ p ∈ l, 0 ≤ p.B) (hbig : l.length < 1099511627776) (ha : -1 ≤ a ∧ a ≤ 1099511627776) (ad : Option Addr) (c : Nat) (μ : Mem) (w : World) (hμ : Imm μ w) (hl : Sl μ ad c l) :
    Calls Try.prog 65 #[.slice ad l.length c, .int .i64 a] w (RetV w μ (IsSl (afterL l a))) := by
  obtain ⟨hle, hpart⟩ := after_part hs a
  have hpart := hpart hB
  have hc := hl.1
  have hj := lbL_le (keyCmp (a + 1) (-1)) l
  have hS := St.start w μ hμ
  refine calls_start 26 [.slice ad l.length c, .int .i64 a] Try.func65 rfl Try.ntmps65 rfl rfl ?_
  refine CW.seq fun K8 hK8 => ?_
  refine CW.region [0] rfl ?_
  refine LW.ex rfl rfl rfl rfl (Ex.assign rfl) hS.rd ?_
  refine LW.nil fun aa ha => hK8 _ _ _ ?_ aa ha
  refine CW.seq fun K9 hK9 => ?_
  refine CW.region [0, 1, 2, 3, 4, 5, 6, 7] rfl ?_
  refine LW.ex rfl rfl rfl rfl (Ex.move rfl) hS.rd ?_
  refine LW.ex rfl rfl rfl rfl (Ex.move rfl) hS.rd ?_
  refine LW.hv rfl rfl rfl rfl (Hv.callS hS rfl rfl rfl cb70 (find_c l a (-1) hs hbig _ _ _ _ hS.imm hl)) fun v w12 ⟨hv, hS⟩ => ?_
  subst hv
  refine LW.ex rfl rfl rfl rfl (Ex.move rfl) hS.rd ?_
  refine LW.ex rfl rfl rfl rfl (Ex.extract rfl rfl) hS.rd ?_
  refine LW.ex rfl rfl rfl rfl (Ex.extract rfl rfl) hS.rd ?_
  refine LW.ex rfl rfl rfl rfl (Ex.assign rfl) hS.rd ?_
  refine LW.ex rfl rfl rfl rfl (Ex.assign rfl) hS.rd ?_
  refine LW.nil fun aa ha => hK9 _ _ _ ?_ aa ha
  refine CW.seq fun K10 hK10 => ?_
  refine CW.region [0, 1, 2, 3, 4, 5, 6, 7, 8] rfl ?_
  refine LW.ex rfl rfl rfl rfl (Ex.move rfl) hS.rd ?_
  refine LW.ex rfl rfl rfl rfl (Ex.move rfl) hS.rd ?_
  refine LW.ex rfl rfl rfl rfl (Ex.add rfl rfl (by first | exact inc64 (by omega) | exact addN (by omega) | exact w64 (by omega) (by omega))) hS.rd ?_
  refine LW.hv rfl rfl rfl rfl (Hv.callS hS rfl rfl rfl cb70 (find_c l (a + 1) (-1) hs hbig _ _ _ _ hS.imm hl)) fun v w19 ⟨hv, hS⟩ => ?_
  subst hv
  refine LW.ex rfl rfl rfl rfl (Ex.move rfl) hS.rd ?_
  refine LW.ex rfl rfl rfl rfl (Ex.extract rfl rfl) hS.rd ?_
  refine LW.ex rfl rfl rfl rfl (Ex.extract rfl rfl) hS.rd ?_
  refine LW.ex rfl rfl rfl rfl (Ex.assign rfl) hS.rd ?_
  refine LW.ex rfl rfl rfl rfl (Ex.assign rfl) hS.rd ?_
  refine LW.nil fun aa ha => hK10 _ _ _ ?_ aa ha
  refine CW.seq fun K11 hK11 => ?_
  refine CW.region [0, 1, 2, 3, 4] rfl ?_
  refine LW.ex rfl rfl rfl rfl (Ex.move rfl) hS.rd ?_
  refine LW.ex rfl rfl rfl rfl (Ex.move rfl) hS.rd ?_
  refine LW.ex rfl rfl rfl rfl (Ex.move rfl) hS.rd ?_
  refine LW.ex rfl rfl rfl rfl (Ex.sliceLH Try.underlying32 ti87 rfl rfl rfl rfl rfl hle (by omega)) hS.rd ?_
  refine LW.ex rfl rfl rfl rfl (Ex.assign rfl) hS.rd ?_
  refine LW.nil fun aa ha => hK11 _ _ _ ?_ aa ha
  refine CW.ret fun aa ha => ?_
  refine ret_one ha Try.results65 rfl ?_
  obtain ⟨ys, hy1, hy2, hy3⟩ := hl.part hle hj
  rw [hpart] at hy1
  subst hy1
  refine ⟨_, μ, rfl, hS.below, Mem.ext.refl _ _, hS.imm, _, _, ?_, hy3⟩
  rw [hy2]; rfl
theorem made_ints (n : Nat) : (madeCells (Value.cells (.int .i64 0)) (n * 1)).toList = (List.replicate n (0 : Int)).map fun x => Value.int .i64 x := by
  rw [Nat.mul_one, show Value.cells (.int .i64 0) = #[.int .i64 0] from rfl, toList_madeCells_one]; simp
theorem numbers_c (l : List Pr) (hbig : l.length < 1000000) (ad : Option Addr) (c : Nat) (μ : Mem) (w : World) (hμ : Imm μ w) (hl : Sl μ ad c l) :
    Calls Try.prog 64 #[.slice ad l.length c] w (RetV w μ (IsSl (l.map (·.N)))) := by
  have hS := St.start w μ hμ
  refine calls_start 23 [.slice ad l.length c] Try.func64 rfl Try.ntmps64 rfl rfl ?_
  refine CW.seq fun K12 hK12 => ?_
  refine CW.region [0] rfl ?_
  refine LW.ex rfl rfl rfl rfl (Ex.assign rfl) hS.rd ?_
  refine LW.nil fun aa ha => hK12 _ _ _ ?_ aa ha
  refine CW.seq fun K13 hK13 => ?_
  refine CW.region [0, 1, 2, 3] rfl ?_
  refine LW.ex rfl rfl rfl rfl (Ex.move rfl) hS.rd ?_
  refine LW.ex rfl rfl rfl rfl (Ex.lenSl rfl Try.underlying32 rfl) hS.rd ?_
  refine LW.hv rfl rfl rfl rfl (Hv.makeSlice Try.underlying31 ti3 hS rfl rfl rfl rfl (by omega) (by unfold maxLen; omega)) fun v w8 ⟨b8, hv, hb8, hS⟩ => ?_
  subst hv
  refine LW.ex rfl rfl rfl rfl (Ex.assign rfl) hS.rd ?_
  refine LW.nil fun aa ha => hK13 _ _ _ ?_ aa ha
  refine CW.seq fun K14 hK14 => ?_
  refine CW.seq fun K15 hK15 => ?_
  refine CW.region [0, 1, 2] rfl ?_
  refine LW.ex rfl rfl rfl rfl (Ex.move rfl) hS.rd ?_
  refine LW.ex rfl rfl rfl rfl (Ex.lenSl rfl Try.underlying32 rfl) hS.rd ?_
  refine LW.ex rfl rfl rfl rfl (Ex.move rfl) hS.rd ?_
  refine LW.nil fun aa ha => hK15 _ _ _ ?_ aa ha
  refine CW.block ?_
  rw [made_ints] at hS
  refine CW.loop (fun qq frm wl3 => ∃ (i : Nat) (cs : List Int), i ≤ l.length ∧ cs.length = l.length ∧ qq = l.length - i ∧ frm = [(3, .slice (some ⟨b8, 0, none⟩) l.length l.length), (9, .slice ad l.length c), (10, .int .i64 ((l.length : Nat) : Int)), (11, .int .i64 i)] ∧ St w wl3 μ [Own.sl (some ⟨b8, 0, none⟩) l.length l.length 3 1 (cs.map fun x => Value.int .i64 x)] ∧ (cs.take i = (l.take i).map (·.N))) _ ⟨0, List.replicate l.length 0, (by first | omega | (simp; done) | (simp; omega)), (by first | omega | (simp; done) | (simp; omega)), rfl, rfl, hS, by simp⟩ ⟨rfl, rfl, rfl, rfl, trivial⟩ ?_
  clear hS
  rintro qq frm wl3 ⟨i, cs, hi, hcl, hq, rfl, hS, hcs⟩
  refine CW.seq fun K16 hK16 => ?_
  refine CW.region [0] rfl ?_
  refine LW.ex rfl rfl rfl rfl (Ex.lss rfl rfl rfl) hS.rd ?_
  refine LW.splitB (fun h3_0 => ?_) (fun h3_0 => ?_)
  · have h3_0 := of_decide_eq_true h3_0
    refine LW.nil fun aa ha => hK16 _ _ _ ?_ aa ha
    refine CW.seq fun K17 hK17 => ?_
    refine CW.yes rfl ?_
    refine CW.skip fun aa ha => hK17 _ _ _ ?_ aa ha
    refine CW.seq fun K18 hK18 => ?_
    refine CW.block ?_
    refine CW.seq fun K19 hK19 => ?_
    have hi2 : i < l.length := by omega
    obtain ⟨bl, ol, rfl, k0, k1, k2⟩ := hl.at hi2
    refine CW.region [0, 1, 2, 3, 4, 5] rfl ?_
    refine LW.ex rfl rfl rfl rfl (Ex.move rfl) hS.rd ?_
    refine LW.ex rfl rfl rfl rfl (Ex.indexSl Try.underlying32 ti87 rfl rfl rfl (by omega)) hS.rd ?_
    refine LW.ex rfl rfl rfl rfl (Ex.load3c ti87 rfl rfl (by first | exact obT rfl | exact Rd.imm ‹_› | exact slT ‹_›) (by first | exact obT rfl | exact Rd.imm ‹_› | exact slT ‹_›) (by first | exact obT rfl | exact Rd.imm ‹_› | exact slT ‹_›)) hS.rd ?_
    refine LW.hv rfl rfl rfl rfl (Hv.alloc ti87 hS) fun v w5 ⟨b5, hv, hb5, hS⟩ => ?_
    subst hv
    refine LW.ex rfl rfl rfl rfl (Ex.assign rfl) hS.rd ?_
    refine LW.hu rfl rfl rfl (Hv.storeN (k := 0) ti87 hS rfl rfl rfl rfl (by simp [Value.oneCell'])) fun _ w_5 hS => ?_
    dsimp only [List.set] at hS
    refine LW.nil fun aa ha => hK19 _ _ _ ?_ aa ha
    refine CW.region [0, 1, 2, 3, 4, 5] rfl ?_
    refine LW.ex rfl rfl rfl rfl (Ex.move rfl) hS.rd ?_
    refine LW.ex rfl rfl rfl rfl (Ex.move rfl) hS.rd ?_
    refine LW.ex rfl rfl rfl rfl (Ex.fieldO 2 Try.underlying87 rfl rfl ti3 rfl) hS.rd ?_
    refine LW.ex rfl rfl rfl rfl (Ex.load1 ti3 rfl rfl (by first | exact obT rfl | exact Rd.imm ‹_› | exact slT ‹_›)) hS.rd ?_
    refine LW.ex rfl rfl rfl rfl (Ex.indexSl Try.underlying31 ti3 rfl rfl rfl (by omega)) hS.rd ?_
    have hb5 : 0 + i * 1 < (cs.map fun x => Value.int .i64 x).length := by rw [List.length_map]; omega
    refine LW.hu rfl rfl rfl (Hv.storeSl (k := 1) ti3 hS rfl rfl rfl rfl (by first | assumption | (simp; done) | omega | exact Nat.zero_lt_succ _)) fun _ w_5 hS => ?_
    dsimp only [List.set] at hS
    rw [show 0 + i * 1 = i by omega, show (cs.map fun x => Value.int .i64 x).set i (.int .i64 l[i].N) = (cs.set i l[i].N).map fun x => Value.int .i64 x from (List.map_set ..).symm] at hS
    refine LW.nil fun aa ha => hK18 _ _ _ ?_ aa ha
    refine CW.region [0, 1] rfl ?_
    refine LW.ex rfl rfl rfl rfl (Ex.add rfl rfl (by first | exact inc64 (by omega) | exact addN (by omega) | exact w64 (by omega) (by omega))) hS.rd ?_
    refine LW.ex rfl rfl rfl rfl (Ex.move rfl) hS.rd ?_
    refine LW.nil fun aa ha => ?_
    have hS := hS.drop 0 rfl
    dsimp only [List.eraseIdx] at hS
    refine ⟨_, _, ?m3, ⟨i + 1, cs.set i l[i].N, (by first | omega | (simp; done) | (simp; omega)), (by first | omega | (simp; done) | (simp; omega)), rfl, rfl, hS, ?_⟩, ha.sub ⟨rfl, rfl, rfl, rfl, trivial⟩⟩
    case m3 => omega
    rw [List.take_succ_eq_append_getElem (by rw [List.length_set]; omega), List.take_succ_eq_append_getElem hi2, List.map_append, List.getElem_set_self, List.take_set_of_le (Nat.le_refl _), hcs]; rfl
  · have h3_0 := of_decide_eq_false h3_0
    refine LW.nil fun aa ha => hK16 _ _ _ ?_ aa ha
    refine CW.seq fun K20 hK20 => ?_
    refine CW.no rfl ?_
    refine CW.exit fun aa ha => hK14 _ _ _ ?_ aa ha
    refine CW.seq fun K21 hK21 => ?_
    refine CW.region [0, 1] rfl ?_
    refine LW.ex rfl rfl rfl rfl (Ex.move rfl) hS.rd ?_
    refine LW.ex rfl rfl rfl rfl (Ex.assign rfl) hS.rd ?_
    refine LW.nil fun aa ha => hK21 _ _ _ ?_ aa ha
    refine CW.ret fun aa ha => ?_
    refine ret_one ha Try.results64 rfl ?_
    have hi3 : i = l.length := by omega
    have e : cs = l.map (·.N) := by
      rw [hi3, List.take_length, ← hcl, List.take_length] at hcs; exact hcs
    obtain ⟨bs, μ', hm, hS, hφ⟩ := hS.shut 0 rfl
    refine ⟨_, μ', rfl, hS.below, hm, hS.imm, _, _, ?_, Sl.of_own hφ (by rw [← e]; exact RepL.ints _ _) (by rw [List.length_map])⟩
    rw [List.length_map]
end Go.Proofs.Ytgnpjhellmfhoaa

/-
  Context: words; the costs of words and pairs.
-/
namespace Go.Proofs.Ytgnpjhellmfhoaa
open Go.RowKit Sy

/-! ### Words -/
def classN (c : UInt8) : Int := if 97 ≤ c.toNat ∧ c.toNat ≤ 122 then 1 else if 65 ≤ c.toNat ∧ c.toNat ≤ 90 then 2 else if 48 ≤ c.toNat ∧ c.toNat ≤ 57 then 3 else 0
theorem class_c (c : UInt8) (w : World) : Calls Try.prog 91 #[.int .u8 c.toNat] w (RetS w (.int .i64 (classN c))) := by
  have hS := St.start w (fun _ => none) (fun _ _ h => by cases h)
  refine calls_start 24 [.int .u8 c.toNat] Try.func91 rfl Try.ntmps91 rfl rfl ?_
  refine CW.seq fun K1 hK1 => ?_
  refine CW.region [0] rfl ?_
  refine LW.ex rfl rfl rfl rfl (Ex.assign rfl) hS.rd ?_
  refine LW.nil fun aa ha => hK1 _ _ _ ?_ aa ha
  refine CW.seq fun K2 hK2 => ?_
  refine CW.block ?_
  refine CW.seq fun K3 hK3 => ?_
  refine CW.region [0, 1, 2, 3, 4, 5, 6] rfl ?_
  refine LW.ex rfl rfl rfl rfl (Ex.move rfl) hS.rd ?_
  refine LW.ex rfl rfl rfl rfl (Ex.geq rfl rfl rfl) hS.rd ?_
  refine LW.splitB (fun h1_1 => ?_) (fun h1_1 => ?_)
  · have h1_1 := of_decide_eq_true h1_1
    refine LW.ex rfl rfl rfl rfl (Ex.move rfl) hS.rd ?_
    refine LW.ex rfl rfl rfl rfl (Ex.move rfl) hS.rd ?_
    refine LW.ex rfl rfl rfl rfl (Ex.leq rfl rfl rfl) hS.rd ?_
    refine LW.splitB (fun h1_4 => ?_) (fun h1_4 => ?_)
    · have h1_4 := of_decide_eq_true h1_4
      refine LW.ex rfl rfl rfl rfl (by first | exact Ex.pick_yes rfl rfl | exact Ex.pick_no rfl rfl) hS.rd ?_
      refine LW.ex rfl rfl rfl rfl (Ex.assign rfl) hS.rd ?_
      refine LW.nil fun aa ha => hK3 _ _ _ ?_ aa ha
      refine CW.yes rfl ?_
      refine CW.seq fun K4 hK4 => ?_
      refine CW.region [0] rfl ?_
      refine LW.ex rfl rfl rfl rfl (Ex.assign rfl) hS.rd ?_
      refine LW.nil fun aa ha => hK4 _ _ _ ?_ aa ha
      refine CW.ret fun aa ha => ?_
      refine ret_one ha Try.results91 rfl ?_
      exact hS.retE (by unfold classN; congr 1; repeat (first | rw [if_pos (by omega)] | rw [if_neg (by omega)]); try omega)
    · have h1_4 := of_decide_eq_false h1_4
      refine LW.ex rfl rfl rfl rfl (by first | exact Ex.pick_yes rfl rfl | exact Ex.pick_no rfl rfl) hS.rd ?_
      refine LW.ex rfl rfl rfl rfl (Ex.assign rfl) hS.rd ?_
      refine LW.nil fun aa ha => hK3 _ _ _ ?_ aa ha
      refine CW.no rfl ?_
      refine CW.seq fun K5 hK5 => ?_
      refine CW.region [0, 1, 2, 3, 4, 5, 6] rfl ?_
      refine LW.ex rfl rfl rfl rfl (Ex.move rfl) hS.rd ?_
      refine LW.ex rfl rfl rfl rfl (Ex.geq rfl rfl rfl) hS.rd ?_
      refine LW.splitB (fun h3_1 => ?_) (fun h3_1 => ?_)
      · have h3_1 := of_decide_eq_true h3_1
        refine LW.ex rfl rfl rfl rfl (Ex.move rfl) hS.rd ?_
        refine LW.ex rfl rfl rfl rfl (Ex.move rfl) hS.rd ?_
        refine LW.ex rfl rfl rfl rfl (Ex.leq rfl rfl rfl) hS.rd ?_
        refine LW.splitB (fun h3_4 => ?_) (fun h3_4 => ?_)
        · have h3_4 := of_decide_eq_true h3_4
          refine LW.ex rfl rfl rfl rfl (by first | exact Ex.pick_yes rfl rfl | exact Ex.pick_no rfl rfl) hS.rd ?_
          refine LW.ex rfl rfl rfl rfl (Ex.assign rfl) hS.rd ?_
          refine LW.nil fun aa ha => hK5 _ _ _ ?_ aa ha
          refine CW.yes rfl ?_
          refine CW.seq fun K6 hK6 => ?_
          refine CW.region [0] rfl ?_
          refine LW.ex rfl rfl rfl rfl (Ex.assign rfl) hS.rd ?_
          refine LW.nil fun aa ha => hK6 _ _ _ ?_ aa ha
          refine CW.ret fun aa ha => ?_
          refine ret_one ha Try.results91 rfl ?_
          exact hS.retE (by unfold classN; congr 1; repeat (first | rw [if_pos (by omega)] | rw [if_neg (by omega)]); try omega)
        · have h3_4 := of_decide_eq_false h3_4
          refine LW.ex rfl rfl rfl rfl (by first | exact Ex.pick_yes rfl rfl | exact Ex.pick_no rfl rfl) hS.rd ?_
          refine LW.ex rfl rfl rfl rfl (Ex.assign rfl) hS.rd ?_
          refine LW.nil fun aa ha => hK5 _ _ _ ?_ aa ha
          refine CW.no rfl ?_
          refine CW.seq fun K7 hK7 => ?_
          refine CW.region [0, 1, 2, 3, 4, 5, 6] rfl ?_
          refine LW.ex rfl rfl rfl rfl (Ex.move rfl) hS.rd ?_
          refine LW.ex rfl rfl rfl rfl (Ex.geq rfl rfl rfl) hS.rd ?_
          refine LW.splitB (fun h5_1 => ?_) (fun h5_1 => ?_)
          · have h5_1 := of_decide_eq_true h5_1
            refine LW.ex rfl rfl rfl rfl (Ex.move rfl) hS.rd ?_
            refine LW.ex rfl rfl rfl rfl (Ex.move rfl) hS.rd ?_
            refine LW.ex rfl rfl rfl rfl (Ex.leq rfl rfl rfl) hS.rd ?_
            refine LW.splitB (fun h5_4 => ?_) (fun h5_4 => ?_)
            · have h5_4 := of_decide_eq_true h5_4
              refine LW.ex rfl rfl rfl rfl (by first | exact Ex.pick_yes rfl rfl | exact Ex.pick_no rfl rfl) hS.rd ?_
              refine LW.ex rfl rfl rfl rfl (Ex.assign rfl) hS.rd ?_
              refine LW.nil fun aa ha => hK7 _ _ _ ?_ aa ha
              refine CW.yes rfl ?_
              refine CW.seq fun K8 hK8 => ?_
              refine CW.region [0] rfl ?_
              refine LW.ex rfl rfl rfl rfl (Ex.assign rfl) hS.rd ?_
              refine LW.nil fun aa ha => hK8 _ _ _ ?_ aa ha
              refine CW.ret fun aa ha => ?_
              refine ret_one ha Try.results91 rfl ?_
              exact hS.retE (by unfold classN; congr 1; repeat (first | rw [if_pos (by omega)] | rw [if_neg (by omega)]); try omega)
            · have h5_4 := of_decide_eq_false h5_4
              refine LW.ex rfl rfl rfl rfl (by first | exact Ex.pick_yes rfl rfl | exact Ex.pick_no rfl rfl) hS.rd ?_
              refine LW.ex rfl rfl rfl rfl (Ex.assign rfl) hS.rd ?_
              refine LW.nil fun aa ha => hK7 _ _ _ ?_ aa ha
              refine CW.no rfl ?_
              refine CW.skip fun aa ha => hK2 _ _ _ ?_ aa ha
              refine CW.seq fun K9 hK9 => ?_
              refine CW.region [0] rfl ?_
              refine LW.ex rfl rfl rfl rfl (Ex.assign rfl) hS.rd ?_
              refine LW.nil fun aa ha => hK9 _ _ _ ?_ aa ha
              refine CW.ret fun aa ha => ?_
              refine ret_one ha Try.results91 rfl ?_
              exact hS.retE (by unfold classN; congr 1; repeat (first | rw [if_pos (by omega)] | rw [if_neg (by omega)]); try omega)
          · have h5_1 := of_decide_eq_false h5_1
            refine LW.ex rfl rfl rfl rfl (Ex.move rfl) hS.rd ?_
            refine LW.skip rfl rfl rfl rfl ?_
            refine LW.skip rfl rfl rfl rfl ?_
            refine LW.ex rfl rfl rfl rfl (by first | exact Ex.pick_yes rfl rfl | exact Ex.pick_no rfl rfl) hS.rd ?_
            refine LW.ex rfl rfl rfl rfl (Ex.assign rfl) hS.rd ?_
            refine LW.nil fun aa ha => hK7 _ _ _ ?_ aa ha
            refine CW.no rfl ?_
            refine CW.skip fun aa ha => hK2 _ _ _ ?_ aa ha
            refine CW.seq fun K10 hK10 => ?_
            refine CW.region [0] rfl ?_
            refine LW.ex rfl rfl rfl rfl (Ex.assign rfl) hS.rd ?_
            refine LW.nil fun aa ha => hK10 _ _ _ ?_ aa ha
            refine CW.ret fun aa ha => ?_
            refine ret_one ha Try.results91 rfl ?_
            exact hS.retE (by unfold classN; congr 1; repeat (first | rw [if_pos (by omega)] | rw [if_neg (by omega)]); try omega)
      · have h3_1 := of_decide_eq_false h3_1
        refine LW.ex rfl rfl rfl rfl (Ex.move rfl) hS.rd ?_
        refine LW.skip rfl rfl rfl rfl ?_
        refine LW.skip rfl rfl rfl rfl ?_
        refine LW.ex rfl rfl rfl rfl (by first | exact Ex.pick_yes rfl rfl | exact Ex.pick_no rfl rfl) hS.rd ?_
        refine LW.ex rfl rfl rfl rfl (Ex.assign rfl) hS.rd ?_
        refine LW.nil fun aa ha => hK5 _ _ _ ?_ aa ha
        refine CW.no rfl ?_
        refine CW.seq fun K11 hK11 => ?_
        refine CW.region [0, 1, 2, 3, 4, 5, 6] rfl ?_
        refine LW.ex rfl rfl rfl rfl (Ex.move rfl) hS.rd ?_
        refine LW.ex rfl rfl rfl rfl (Ex.geq rfl rfl rfl) hS.rd ?_
        refine LW.splitB (fun h5_1 => ?_) (fun h5_1 => ?_)
        · have h5_1 := of_decide_eq_true h5_1
          refine LW.ex rfl rfl rfl rfl (Ex.move rfl) hS.rd ?_
          refine LW.ex rfl rfl rfl rfl (Ex.move rfl) hS.rd ?_
          refine LW.ex rfl rfl rfl rfl (Ex.leq rfl rfl rfl) hS.rd ?_
          refine LW.splitB (fun h5_4 => ?_) (fun h5_4 => ?_)
          · have h5_4 := of_decide_eq_true h5_4
            refine LW.ex rfl rfl rfl rfl (by first | exact Ex.pick_yes rfl rfl | exact Ex.pick_no rfl rfl) hS.rd ?_
            refine LW.ex rfl rfl rfl rfl (Ex.assign rfl) hS.rd ?_
            refine LW.nil fun aa ha => hK11 _ _ _ ?_ aa ha
            refine CW.yes rfl ?_
            refine CW.seq fun K12 hK12 => ?_
            refine CW.region [0] rfl ?_
            refine LW.ex rfl rfl rfl rfl (Ex.assign rfl) hS.rd ?_
            refine LW.nil fun aa ha => hK12 _ _ _ ?_ aa ha
            refine CW.ret fun aa ha => ?_
            refine ret_one ha Try.results91 rfl ?_
            exact hS.retE (by unfold classN; congr 1; repeat (first | rw [if_pos (by omega)] | rw [if_neg (by omega)]); try omega)
          · have h5_4 := of_decide_eq_false h5_4
            refine LW.ex rfl rfl rfl rfl (by first | exact Ex.pick_yes rfl rfl | exact Ex.pick_no rfl rfl) hS.rd ?_
            refine LW.ex rfl rfl rfl rfl (Ex.assign rfl) hS.rd ?_
            refine LW.nil fun aa ha => hK11 _ _ _ ?_ aa ha
            refine CW.no rfl ?_
            refine CW.skip fun aa ha => hK2 _ _ _ ?_ aa ha
            refine CW.seq fun K13 hK13 => ?_
            refine CW.region [0] rfl ?_
            refine LW.ex rfl rfl rfl rfl (Ex.assign rfl) hS.rd ?_
            refine LW.nil fun aa ha => hK13 _ _ _ ?_ aa ha
            refine CW.ret fun aa ha => ?_
            refine ret_one ha Try.results91 rfl ?_
            exact hS.retE (by unfold classN; congr 1; repeat (first | rw [if_pos (by omega)] | rw [if_neg (by omega)]); try omega)
        · have h5_1 := of_decide_eq_false h5_1
          refine LW.ex rfl rfl rfl rfl (Ex.move rfl) hS.rd ?_
          refine LW.skip rfl rfl rfl rfl ?_
          refine LW.skip rfl rfl rfl rfl ?_
          refine LW.ex rfl rfl rfl rfl (by first | exact Ex.pick_yes rfl rfl | exact Ex.pick_no rfl rfl) hS.rd ?_
          refine LW.ex rfl rfl rfl rfl (Ex.assign rfl) hS.rd ?_
          refine LW.nil fun aa ha => hK11 _ _ _ ?_ aa ha
          refine CW.no rfl ?_
          refine CW.skip fun aa ha => hK2 _ _ _ ?_ aa ha
          refine CW.seq fun K14 hK14 => ?_
          refine CW.region [0] rfl ?_
          refine LW.ex rfl rfl rfl rfl (Ex.assign rfl) hS.rd ?_
          refine LW.nil fun aa ha => hK14 _ _ _ ?_ aa ha
          refine CW.ret fun aa ha => ?_
          refine ret_one ha Try.results91 rfl ?_
          exact hS.retE (by unfold classN; congr 1; repeat (first | rw [if_pos (by omega)] | rw [if_neg (by omega)]); try omega)
  · have h1_1 := of_decide_eq_false h1_1
    refine LW.ex rfl rfl rfl rfl (Ex.move rfl) hS.rd ?_
    refine LW.skip rfl rfl rfl rfl ?_
    refine LW.skip rfl rfl rfl rfl ?_
    refine LW.ex rfl rfl rfl rfl (by first | exact Ex.pick_yes rfl rfl | exact Ex.pick_no rfl rfl) hS.rd ?_
    refine LW.ex rfl rfl rfl rfl (Ex.assign rfl) hS.rd ?_
    refine LW.nil fun aa ha => hK3 _ _ _ ?_ aa ha
    refine CW.no rfl ?_
    refine CW.seq fun K15 hK15 => ?_
    refine CW.region [0, 1, 2, 3, 4, 5, 6] rfl ?_
    refine LW.ex rfl rfl rfl rfl (Ex.move rfl) hS.rd ?_
    refine LW.ex rfl rfl rfl rfl (Ex.geq rfl rfl rfl) hS.rd ?_
    refine LW.splitB (fun h3_1 => ?_) (fun h3_1 => ?_)
    · have h3_1 := of_decide_eq_true h3_1
      refine LW.ex rfl rfl rfl rfl (Ex.move rfl) hS.rd ?_
      refine LW.ex rfl rfl rfl rfl (Ex.move rfl) hS.rd ?_
      refine LW.ex rfl rfl rfl rfl (Ex.leq rfl rfl rfl) hS.rd ?_
      refine LW.splitB (fun h3_4 => ?_) (fun h3_4 => ?_)
      · have h3_4 := of_decide_eq_true h3_4
        refine LW.ex rfl rfl rfl rfl (by first | exact Ex.pick_yes rfl rfl | exact Ex.pick_no rfl rfl) hS.rd ?_
        refine LW.ex rfl rfl rfl rfl (Ex.assign rfl) hS.rd ?_
        refine LW.nil fun aa ha => hK15 _ _ _ ?_ aa ha
        refine CW.yes rfl ?_
        refine CW.seq fun K16 hK16 => ?_
        refine CW.region [0] rfl ?_
        refine LW.ex rfl rfl rfl rfl (Ex.assign rfl) hS.rd ?_
        refine LW.nil fun aa ha => hK16 _ _ _ ?_ aa ha
        refine CW.ret fun aa ha => ?_
        refine ret_one ha Try.results91 rfl ?_
        exact hS.retE (by unfold classN; congr 1; repeat (first | rw [if_pos (by omega)] | rw [if_neg (by omega)]); try omega)
      · have h3_4 := of_decide_eq_false h3_4
        refine LW.ex rfl rfl rfl rfl (by first | exact Ex.pick_yes rfl rfl | exact Ex.pick_no rfl rfl) hS.rd ?_
        refine LW.ex rfl rfl rfl rfl (Ex.assign rfl) hS.rd ?_
        refine LW.nil fun aa ha => hK15 _ _ _ ?_ aa ha
        refine CW.no rfl ?_
        refine CW.seq fun K17 hK17 => ?_
        refine CW.region [0, 1, 2, 3, 4, 5, 6] rfl ?_
        refine LW.ex rfl rfl rfl rfl (Ex.move rfl) hS.rd ?_
        refine LW.ex rfl rfl rfl rfl (Ex.geq rfl rfl rfl) hS.rd ?_
        refine LW.splitB (fun h5_1 => ?_) (fun h5_1 => ?_)
        · have h5_1 := of_decide_eq_true h5_1
          refine LW.ex rfl rfl rfl rfl (Ex.move rfl) hS.rd ?_
          refine LW.ex rfl rfl rfl rfl (Ex.move rfl) hS.rd ?_
          refine LW.ex rfl rfl rfl rfl (Ex.leq rfl rfl rfl) hS.rd ?_
          refine LW.splitB (fun h5_4 => ?_) (fun h5_4 => ?_)
          · have h5_4 := of_decide_eq_true h5_4
            refine LW.ex rfl rfl rfl rfl (by first | exact Ex.pick_yes rfl rfl | exact Ex.pick_no rfl rfl) hS.rd ?_
            refine LW.ex rfl rfl rfl rfl (Ex.assign rfl) hS.rd ?_
            refine LW.nil fun aa ha => hK17 _ _ _ ?_ aa ha
            refine CW.yes rfl ?_
            refine CW.seq fun K18 hK18 => ?_
            refine CW.region [0] rfl ?_
            refine LW.ex rfl rfl rfl rfl (Ex.assign rfl) hS.rd ?_
            refine LW.nil fun aa ha => hK18 _ _ _ ?_ aa ha
            refine CW.ret fun aa ha => ?_
            refine ret_one ha Try.results91 rfl ?_
            exact hS.retE (by unfold classN; congr 1; repeat (first | rw [if_pos (by omega)] | rw [if_neg (by omega)]); try omega)
          · have h5_4 := of_decide_eq_false h5_4
            refine LW.ex rfl rfl rfl rfl (by first | exact Ex.pick_yes rfl rfl | exact Ex.pick_no rfl rfl) hS.rd ?_
            refine LW.ex rfl rfl rfl rfl (Ex.assign rfl) hS.rd ?_
            refine LW.nil fun aa ha => hK17 _ _ _ ?_ aa ha
            refine CW.no rfl ?_
            refine CW.skip fun aa ha => hK2 _ _ _ ?_ aa ha
            refine CW.seq fun K19 hK19 => ?_
            refine CW.region [0] rfl ?_
            refine LW.ex rfl rfl rfl rfl (Ex.assign rfl) hS.rd ?_
            refine LW.nil fun aa ha => hK19 _ _ _ ?_ aa ha
            refine CW.ret fun aa ha => ?_
            refine ret_one ha Try.results91 rfl ?_
            exact hS.retE (by unfold classN; congr 1; repeat (first | rw [if_pos (by omega)] | rw [if_neg (by omega)]); try omega)
        · have h5_1 := of_decide_eq_false h5_1
          refine LW.ex rfl rfl rfl rfl (Ex.move rfl) hS.rd ?_
          refine LW.skip rfl rfl rfl rfl ?_
          refine LW.skip rfl rfl rfl rfl ?_
          refine LW.ex rfl rfl rfl rfl (by first | exact Ex.pick_yes rfl rfl | exact Ex.pick_no rfl rfl) hS.rd ?_
          refine LW.ex rfl rfl rfl rfl (Ex.assign rfl) hS.rd ?_
          refine LW.nil fun aa ha => hK17 _ _ _ ?_ aa ha
          refine CW.no rfl ?_
          refine CW.skip fun aa ha => hK2 _ _ _ ?_ aa ha
          refine CW.seq fun K20 hK20 => ?_
          refine CW.region [0] rfl ?_
          refine LW.ex rfl rfl rfl rfl (Ex.assign rfl) hS.rd ?_
          refine LW.nil fun aa ha => hK20 _ _ _ ?_ aa ha
          refine CW.ret fun aa ha => ?_
          refine ret_one ha Try.results91 rfl ?_
          exact hS.retE (by unfold classN; congr 1; repeat (first | rw [if_pos (by omega)] | rw [if_neg (by omega)]); try omega)
    · have h3_1 := of_decide_eq_false h3_1
      refine LW.ex rfl rfl rfl rfl (Ex.move rfl) hS.rd ?_
      refine LW.skip rfl rfl rfl rfl ?_
      refine LW.skip rfl rfl rfl rfl ?_
      refine LW.ex rfl rfl rfl rfl (by first | exact Ex.pick_yes rfl rfl | exact Ex.pick_no rfl rfl) hS.rd ?_
      refine LW.ex rfl rfl rfl rfl (Ex.assign rfl) hS.rd ?_
      refine LW.nil fun aa ha => hK15 _ _ _ ?_ aa ha
      refine CW.no rfl ?_
      refine CW.seq fun K21 hK21 => ?_
      refine CW.region [0, 1, 2, 3, 4, 5, 6] rfl ?_
      refine LW.ex rfl rfl rfl rfl (Ex.move rfl) hS.rd ?_
      refine LW.ex rfl rfl rfl rfl (Ex.geq rfl rfl rfl) hS.rd ?_
      refine LW.splitB (fun h5_1 => ?_) (fun h5_1 => ?_)
      · have h5_1 := of_decide_eq_true h5_1
        refine LW.ex rfl rfl rfl rfl (Ex.move rfl) hS.rd ?_
        refine LW.ex rfl rfl rfl rfl (Ex.move rfl) hS.rd ?_
        refine LW.ex rfl rfl rfl rfl (Ex.leq rfl rfl rfl) hS.rd ?_
        refine LW.splitB (fun h5_4 => ?_) (fun h5_4 => ?_)
        · have h5_4 := of_decide_eq_true h5_4
          refine LW.ex rfl rfl rfl rfl (by first | exact Ex.pick_yes rfl rfl | exact Ex.pick_no rfl rfl) hS.rd ?_
          refine LW.ex rfl rfl rfl rfl (Ex.assign rfl) hS.rd ?_
          refine LW.nil fun aa ha => hK21 _ _ _ ?_ aa ha
          refine CW.yes rfl ?_
          refine CW.seq fun K22 hK22 => ?_
          refine CW.region [0] rfl ?_
          refine LW.ex rfl rfl rfl rfl (Ex.assign rfl) hS.rd ?_
          refine LW.nil fun aa ha => hK22 _ _ _ ?_ aa ha
          refine CW.ret fun aa ha => ?_
          refine ret_one ha Try.results91 rfl ?_
          exact hS.retE (by unfold classN; congr 1; repeat (first | rw [if_pos (by omega)] | rw [if_neg (by omega)]); try omega)
        · have h5_4 := of_decide_eq_false h5_4
          refine LW.ex rfl rfl rfl rfl (by first | exact Ex.pick_yes rfl rfl | exact Ex.pick_no rfl rfl) hS.rd ?_
          refine LW.ex rfl rfl rfl rfl (Ex.assign rfl) hS.rd ?_
          refine LW.nil fun aa ha => hK21 _ _ _ ?_ aa ha
          refine CW.no rfl ?_
          refine CW.skip fun aa ha => hK2 _ _ _ ?_ aa ha
          refine CW.seq fun K23 hK23 => ?_
          refine CW.region [0] rfl ?_
          refine LW.ex rfl rfl rfl rfl (Ex.assign rfl) hS.rd ?_
          refine LW.nil fun aa ha => hK23 _ _ _ ?_ aa ha
          refine CW.ret fun aa ha => ?_
          refine ret_one ha Try.results91 rfl ?_
          exact hS.retE (by unfold classN; congr 1; repeat (first | rw [if_pos (by omega)] | rw [if_neg (by omega)]); try omega)
      · have h5_1 := of_decide_eq_false h5_1
        refine LW.ex rfl rfl rfl rfl (Ex.move rfl) hS.rd ?_
        refine LW.skip rfl rfl rfl rfl ?_
        refine LW.skip rfl rfl rfl rfl ?_
        refine LW.ex rfl rfl rfl rfl (by first | exact Ex.pick_yes rfl rfl | exact Ex.pick_no rfl rfl) hS.rd ?_
        refine LW.ex rfl rfl rfl rfl (Ex.assign rfl) hS.rd ?_
        refine LW.nil fun aa ha => hK21 _ _ _ ?_ aa ha
        refine CW.no rfl ?_
        refine CW.skip fun aa ha => hK2 _ _ _ ?_ aa ha
        refine CW.seq fun K24 hK24 => ?_
        refine CW.region [0] rfl ?_
        refine LW.ex rfl rfl rfl rfl (Ex.assign rfl) hS.rd ?_
        refine LW.nil fun aa ha => hK24 _ _ _ ?_ aa ha
        refine CW.ret fun aa ha => ?_
        refine ret_one ha Try.results91 rfl ?_
        exact hS.retE (by unfold classN; congr 1; repeat (first | rw [if_pos (by omega)] | rw [if_neg (by omega)]); try omega)
theorem lt_len {s : ByteArray} {i : Nat} (h : i < s.size) : i < (bl s).length := h
theorem sAt_get (s : ByteArray) (i : Nat) (h : i < (bl s).length) : (bl s)[i] = sAt s i := by
  have := sAt_of (s := s) (j := i) h
  rw [List.getElem?_eq_getElem h] at this; exact Option.some.inj this
def allC (k : Int) (s : ByteArray) : Bool := (bl s).all fun c => !(decide (classN c = 0)) && decide (classN c ≤ k)
theorem all_not {s : ByteArray} {i : Nat} (p : UInt8 → Bool) (h : i < s.size) (hp : p (sAt s i) = false) : (bl s).all p = false := by
  rw [List.all_eq_false]; exact ⟨_, List.getElem_mem (lt_len h), by rw [sAt_get, hp]; simp⟩
theorem all_yes {s : ByteArray} (p : UInt8 → Bool) (h : ∀ i, i < s.size → p (sAt s i) = true) : (bl s).all p = true := by
  rw [List.all_eq_true]; intro x hx; obtain ⟨i, hi, rfl⟩ := List.getElem_of_mem hx; rw [sAt_get]; exact h i hi
theorem all_c (k : Int) (s : ByteArray) (hk : 0 ≤ k) (w : World) (hs : s.size ≤ 9223372036854775807) : Calls Try.prog 80 #[.string s, .int .i64 k] w (RetS w (.bool (allC k s))) := by
  have hS := St.start w (fun _ => none) (fun _ _ h => by cases h)
  refine calls_start 24 [.string s, .int .i64 k] Try.func80 rfl Try.ntmps80 rfl rfl ?_
  refine CW.seq fun K25 hK25 => ?_
  refine CW.region [0] rfl ?_
  refine LW.ex rfl rfl rfl rfl (Ex.assign rfl) hS.rd ?_
  refine LW.nil fun aa ha => hK25 _ _ _ ?_ aa ha
  refine CW.seq fun K26 hK26 => ?_
  refine CW.seq fun K27 hK27 => ?_
  refine CW.region [0, 1, 2] rfl ?_
  refine LW.ex rfl rfl rfl rfl (Ex.move rfl) hS.rd ?_
  refine LW.ex rfl rfl rfl rfl (Ex.lenS rfl Try.underlying9 rfl) hS.rd ?_
  refine LW.ex rfl rfl rfl rfl (Ex.move rfl) hS.rd ?_
  refine LW.nil fun aa ha => hK27 _ _ _ ?_ aa ha
  refine CW.block ?_
  refine CW.loop (fun qq frm wl2 => ∃ (i : Nat), i ≤ s.size ∧ qq = s.size - i ∧ frm = [(0, .string s), (1, .int .i64 k), (8, .int .i64 ((s.size : Nat) : Int)), (9, .int .i64 i)] ∧ St w wl2 (fun _ => none) [] ∧ (∀ j, j < i → (!(decide (classN (sAt s j) = 0)) && decide (classN (sAt s j) ≤ k)) = true)) _ ⟨0, (by first | omega | (simp; done) | (simp; omega)), rfl, rfl, hS, fun j hj => by omega⟩ ⟨rfl, rfl, rfl, rfl, trivial⟩ ?_
  clear hS
  rintro qq frm wl2 ⟨i, hi, hq, rfl, hS, he⟩
  refine CW.seq fun K28 hK28 => ?_
  refine CW.region [0] rfl ?_
  refine LW.ex rfl rfl rfl rfl (Ex.lss rfl rfl rfl) hS.rd ?_
  refine LW.splitB (fun h2_0 => ?_) (fun h2_0 => ?_)
  · have h2_0 := of_decide_eq_true h2_0
    refine LW.nil fun aa ha => hK28 _ _ _ ?_ aa ha
    refine CW.seq fun K29 hK29 => ?_
    refine CW.yes rfl ?_
    refine CW.skip fun aa ha => hK29 _ _ _ ?_ aa ha
    refine CW.seq fun K30 hK30 => ?_
    refine CW.block ?_
    refine CW.seq fun K31 hK31 => ?_
    refine CW.region [0, 1] rfl ?_
    refine LW.ex rfl rfl rfl rfl (Ex.move rfl) hS.rd ?_
    refine LW.ex rfl rfl rfl rfl (Ex.assign rfl) hS.rd ?_
    refine LW.nil fun aa ha => hK31 _ _ _ ?_ aa ha
    refine CW.seq fun K32 hK32 => ?_
    refine CW.region [0, 1, 2, 3, 4] rfl ?_
    refine LW.ex rfl rfl rfl rfl (Ex.move rfl) hS.rd ?_
    refine LW.ex rfl rfl rfl rfl (Ex.move rfl) hS.rd ?_
    refine LW.ex rfl rfl rfl rfl (Ex.indexB Try.underlying9 rfl rfl rfl (by omega)) hS.rd ?_
    refine LW.hv rfl rfl rfl rfl (Hv.callS hS rfl rfl rfl cb91 (class_c (sAt s i) _)) fun v w15 ⟨hv, hS⟩ => ?_
    subst hv
    refine LW.ex rfl rfl rfl rfl (Ex.assign rfl) hS.rd ?_
    refine LW.nil fun aa ha => hK32 _ _ _ ?_ aa ha
    refine CW.seq fun K33 hK33 => ?_
    refine CW.region [0, 1, 2, 3, 4, 5, 6] rfl ?_
    refine LW.ex rfl rfl rfl rfl (Ex.move rfl) hS.rd ?_
    refine LW.ex rfl rfl rfl rfl (Ex.eql rfl rfl rfl) hS.rd ?_
    refine LW.splitB (fun h5_1 => ?_) (fun h5_1 => ?_)
    · have h5_1 := of_decide_eq_true h5_1
      refine LW.ex rfl rfl rfl rfl (Ex.move rfl) hS.rd ?_
      refine LW.skip rfl rfl rfl rfl ?_
      refine LW.skip rfl rfl rfl rfl ?_
      refine LW.skip rfl rfl rfl rfl ?_
      refine LW.ex rfl rfl rfl rfl (by first | exact Ex.pick_yes rfl rfl | exact Ex.pick_no rfl rfl) hS.rd ?_
      refine LW.nil fun aa ha => hK33 _ _ _ ?_ aa ha
      refine CW.yes rfl ?_
      refine CW.seq fun K34 hK34 => ?_
      refine CW.region [0] rfl ?_
      refine LW.ex rfl rfl rfl rfl (Ex.assign rfl) hS.rd ?_
      refine LW.nil fun aa ha => hK34 _ _ _ ?_ aa ha
      refine CW.ret fun aa ha => ?_
      refine ret_one ha Try.results80 rfl ?_
      have e : allC k s = false := all_not _ (i := i) (by omega) (by simp only [Bool.and_eq_false_iff, Bool.not_eq_false', decide_eq_true_eq, decide_eq_false_iff_not]; omega)
      rw [e]; exact hS.retS
    · have h5_1 := of_decide_eq_false h5_1
      refine LW.ex rfl rfl rfl rfl (Ex.move rfl) hS.rd ?_
      refine LW.ex rfl rfl rfl rfl (Ex.move rfl) hS.rd ?_
      refine LW.ex rfl rfl rfl rfl (Ex.move rfl) hS.rd ?_
      refine LW.ex rfl rfl rfl rfl (Ex.gtr rfl rfl rfl) hS.rd ?_
      refine LW.splitB (fun h5_5 => ?_) (fun h5_5 => ?_)
      · have h5_5 := of_decide_eq_true h5_5
        refine LW.ex rfl rfl rfl rfl (by first | exact Ex.pick_yes rfl rfl | exact Ex.pick_no rfl rfl) hS.rd ?_
        refine LW.nil fun aa ha => hK33 _ _ _ ?_ aa ha
        refine CW.yes rfl ?_
        refine CW.seq fun K35 hK35 => ?_
        refine CW.region [0] rfl ?_
        refine LW.ex rfl rfl rfl rfl (Ex.assign rfl) hS.rd ?_
        refine LW.nil fun aa ha => hK35 _ _ _ ?_ aa ha
        refine CW.ret fun aa ha => ?_
        refine ret_one ha Try.results80 rfl ?_
        have e : allC k s = false := all_not _ (i := i) (by omega) (by simp only [Bool.and_eq_false_iff, Bool.not_eq_false', decide_eq_true_eq, decide_eq_false_iff_not]; omega)
        rw [e]; exact hS.retS
      · have h5_5 := of_decide_eq_false h5_5
        refine LW.ex rfl rfl rfl rfl (by first | exact Ex.pick_yes rfl rfl | exact Ex.pick_no rfl rfl) hS.rd ?_
        refine LW.nil fun aa ha => hK33 _ _ _ ?_ aa ha
        refine CW.no rfl ?_
        refine CW.skip fun aa ha => hK30 _ _ _ ?_ aa ha
        refine CW.region [0, 1] rfl ?_
        refine LW.ex rfl rfl rfl rfl (Ex.add rfl rfl (by first | exact inc64 (by omega) | exact addN (by omega) | exact w64 (by omega) (by omega))) hS.rd ?_
        refine LW.ex rfl rfl rfl rfl (Ex.move rfl) hS.rd ?_
        refine LW.nil fun aa ha => ?_
        refine ⟨_, _, ?m2, ⟨i + 1, (by first | omega | (simp; done) | (simp; omega)), rfl, rfl, hS, ?_⟩, ha.sub ⟨rfl, rfl, rfl, rfl, trivial⟩⟩
        case m2 => omega
        intro j hj
        by_cases hji : j = i
        · subst hji; simp only [Bool.and_eq_true, Bool.not_eq_true', decide_eq_false_iff_not, decide_eq_true_eq]; omega
        · exact he j (by omega)
  · have h2_0 := of_decide_eq_false h2_0
    refine LW.nil fun aa ha => hK28 _ _ _ ?_ aa ha
    refine CW.seq fun K36 hK36 => ?_
    refine CW.no rfl ?_
    refine CW.exit fun aa ha => hK26 _ _ _ ?_ aa ha
    refine CW.seq fun K37 hK37 => ?_
    refine CW.region [0] rfl ?_
    refine LW.ex rfl rfl rfl rfl (Ex.assign rfl) hS.rd ?_
    refine LW.nil fun aa ha => hK37 _ _ _ ?_ aa ha
    refine CW.ret fun aa ha => ?_
    refine ret_one ha Try.results80 rfl ?_
    have e : allC k s = true := all_yes _ fun j hj => he j (by omega)
    rw [e]; exact hS.retS
def wordOk (s : ByteArray) : Bool := decide (1 ≤ s.size) && decide (s.size ≤ 20) && allC 3 s
theorem size_empty {s : ByteArray} : (s != ⟨#[]⟩) = decide (1 ≤ s.size) := by
  rw [bne, bl_eq, ← bl_len]
  cases h : bl s with
  | nil => rfl
  | cons x r => simp [bl]
theorem word_c (s : ByteArray) (w : World) (hs : s.size ≤ 9223372036854775807) : Calls Try.prog 61 #[.string s] w (RetS w (.bool (wordOk s))) := by
  have hS := St.start w (fun _ => none) (fun _ _ h => by cases h)
  refine calls_start 14 [.string s] Try.func61 rfl Try.ntmps61 rfl rfl ?_
  refine CW.seq fun K38 hK38 => ?_
  refine CW.region [0] rfl ?_
  refine LW.ex rfl rfl rfl rfl (Ex.assign rfl) hS.rd ?_
  refine LW.nil fun aa ha => hK38 _ _ _ ?_ aa ha
  refine CW.seq fun K39 hK39 => ?_
  refine CW.region [0, 1, 2, 3, 4, 5, 6, 7, 8, 9, 10, 11] rfl ?_
  refine LW.ex rfl rfl rfl rfl (Ex.move rfl) hS.rd ?_
  refine LW.ex rfl rfl rfl rfl (Ex.neqS rfl rfl size_empty) hS.rd ?_
  refine LW.splitB (fun h1_1 => ?_) (fun h1_1 => ?_)
  · have h1_1 := of_decide_eq_true h1_1
    refine LW.ex rfl rfl rfl rfl (Ex.move rfl) hS.rd ?_
    refine LW.ex rfl rfl rfl rfl (Ex.move rfl) hS.rd ?_
    refine LW.ex rfl rfl rfl rfl (Ex.lenS rfl Try.underlying9 rfl) hS.rd ?_
    refine LW.ex rfl rfl rfl rfl (Ex.leq rfl rfl rfl) hS.rd ?_
    refine LW.splitB (fun h1_5 => ?_) (fun h1_5 => ?_)
    · have h1_5 := of_decide_eq_true h1_5
      refine LW.ex rfl rfl rfl rfl (by first | exact Ex.pick_yes rfl rfl | exact Ex.pick_no rfl rfl) hS.rd ?_
      refine LW.ex rfl rfl rfl rfl (Ex.move rfl) hS.rd ?_
      refine LW.ex rfl rfl rfl rfl (Ex.move rfl) hS.rd ?_
      refine LW.hv rfl rfl rfl rfl (Hv.callS hS rfl rfl rfl cb80 (all_c 3 s (by omega) _ hs)) fun v w12 ⟨hv, hS⟩ => ?_
      subst hv
      refine LW.ex rfl rfl rfl rfl (by first | exact Ex.pick_yes rfl rfl | exact Ex.pick_no rfl rfl) hS.rd ?_
      refine LW.ex rfl rfl rfl rfl (Ex.assign rfl) hS.rd ?_
      refine LW.nil fun aa ha => hK39 _ _ _ ?_ aa ha
      refine CW.ret fun aa ha => ?_
      refine ret_one ha Try.results61 rfl ?_
      refine hS.retB ?_
      unfold wordOk
      simp_all <;> (try (intro _; omega))
    · have h1_5 := of_decide_eq_false h1_5
      refine LW.ex rfl rfl rfl rfl (by first | exact Ex.pick_yes rfl rfl | exact Ex.pick_no rfl rfl) hS.rd ?_
      refine LW.ex rfl rfl rfl rfl (Ex.move rfl) hS.rd ?_
      refine LW.skip rfl rfl rfl rfl ?_
      refine LW.skip rfl rfl rfl rfl ?_
      refine LW.ex rfl rfl rfl rfl (by first | exact Ex.pick_yes rfl rfl | exact Ex.pick_no rfl rfl) hS.rd ?_
      refine LW.ex rfl rfl rfl rfl (Ex.assign rfl) hS.rd ?_
      refine LW.nil fun aa ha => hK39 _ _ _ ?_ aa ha
      refine CW.ret fun aa ha => ?_
      refine ret_one ha Try.results61 rfl ?_
      refine hS.retB ?_
      unfold wordOk
      simp_all <;> (try (intro _; omega))
  · skip
    refine LW.ex rfl rfl rfl rfl (Ex.move rfl) hS.rd ?_
    refine LW.skip rfl rfl rfl rfl ?_
    refine LW.skip rfl rfl rfl rfl ?_
    refine LW.skip rfl rfl rfl rfl ?_
    refine LW.ex rfl rfl rfl rfl (by first | exact Ex.pick_yes rfl rfl | exact Ex.pick_no rfl rfl) hS.rd ?_
    refine LW.ex rfl rfl rfl rfl (Ex.move rfl) hS.rd ?_
    refine LW.skip rfl rfl rfl rfl ?_
    refine LW.skip rfl rfl rfl rfl ?_
    refine LW.ex rfl rfl rfl rfl (by first | exact Ex.pick_yes rfl rfl | exact Ex.pick_no rfl rfl) hS.rd ?_
    refine LW.ex rfl rfl rfl rfl (Ex.assign rfl) hS.rd ?_
    refine LW.nil fun aa ha => hK39 _ _ _ ?_ aa ha
    refine CW.ret fun aa ha => ?_
    refine ret_one ha Try.results61 rfl ?_
    refine hS.retB ?_
    unfold wordOk
    simp_all <;> (try (intro _; omega))
/-! ### Models -/
def sumN (l : List Pr) (a : Int) : Int := ((afterL l a).map (·.N)).sum
structure MdlOk (m : Mdl) : Prop where
  n1 : 1 ≤ m.Words.length
  n2 : m.Words.length ≤ 200
  nc : m.Counts.length = m.Words.length
  words : rises wordOk sLt none m.Words = true
  c0 : ∀ x ∈ m.Counts, 0 ≤ x
  cs : m.Counts.sum ≤ 1073741824
  pl : m.Pairs.length ≤ 1000
  ps : PrSort m.Pairs
  pp : ∀ p ∈ m.Pairs, 0 ≤ p.A ∧ p.A < m.Words.length ∧ 0 ≤ p.B ∧ p.B < m.Words.length ∧ 1 ≤ p.N
  sum : ∀ a, sumN m.Pairs a ≤ 1073741824
  b0 : 0 ≤ m.Back
  b1 : m.Back ≤ 1000
theorem le_sum {l : List Int} (h : ∀ x ∈ l, 0 ≤ x) {x : Int} (hx : x ∈ l) : x ≤ l.sum ∧ 0 ≤ l.sum := by
  induction l with
  | nil => cases hx
  | cons y r ih =>
    have hr : 0 ≤ r.sum := by
      clear ih hx
      have hr := fun z hz => h z (List.mem_cons_of_mem _ hz)
      clear h
      induction r with
      | nil => simp
      | cons z s ihs => have := hr z (List.mem_cons_self ..); have := ihs fun u hu => hr u (List.mem_cons_of_mem _ hu); simp only [List.sum_cons]; omega
    have hy := h y (List.mem_cons_self ..)
    simp only [List.sum_cons]
    rcases List.mem_cons.1 hx with rfl | hx
    · omega
    · have := (ih (fun z hz => h z (List.mem_cons_of_mem _ hz)) hx).1; omega
theorem sum_nonneg {l : List Int} (h : ∀ x ∈ l, 0 ≤ x) : 0 ≤ l.sum := by
  cases l with
  | nil => simp
  | cons y r => exact (le_sum h (List.mem_cons_self ..)).2
theorem total_ok {b : Int} (hb : 0 ≤ b) : ∀ {l : List Int} {acc : Int}, 0 ≤ acc → (∀ x ∈ l, b ≤ x) → acc + l.sum ≤ 1073741824 → totalGo b acc l = (acc + l.sum, true)
  | [], acc, _, _, h => by simp only [totalGo, List.sum_nil, Int.add_zero] at *; rw [decide_eq_true h]
  | x :: r, acc, h0, hx, h => by
    have h1 := hx x (List.mem_cons_self ..)
    have h2 := sum_nonneg fun y hy => Int.le_trans hb (hx y (List.mem_cons_of_mem _ hy))
    simp only [List.sum_cons] at h ⊢
    rw [totalGo, if_neg (by omega), total_ok hb (by omega) (fun y hy => hx y (List.mem_cons_of_mem _ hy)) (by omega)]
    rw [show acc + x + r.sum = acc + (x + r.sum) by omega]
theorem total_iff {b : Int} (hb : 0 ≤ b) : ∀ {l : List Int} {acc : Int}, 0 ≤ acc → ((totalGo b acc l).2 = true ↔ (∀ x ∈ l, b ≤ x) ∧ acc + l.sum ≤ 1073741824)
  | [], acc, _ => by simp [totalGo]
  | x :: r, acc, h0 => by
    rw [totalGo]
    split
    · rename_i h
      simp only [Bool.false_eq_true, false_iff, not_and]
      intro hx
      have h1 := hx x (List.mem_cons_self ..)
      have h2 := sum_nonneg fun y hy => Int.le_trans hb (hx y (List.mem_cons_of_mem _ hy))
      simp only [List.sum_cons]; omega
    · rw [total_iff hb (by omega)]
      simp only [List.mem_cons, forall_eq_or_imp, List.sum_cons]
      constructor
      · rintro ⟨h1, h2⟩; exact ⟨⟨by omega, h1⟩, by omega⟩
      · rintro ⟨⟨h1, h2⟩, h3⟩; exact ⟨h2, by omega⟩
def wordC (m : Mdl) (w : Int) : Int := logZ (m.Counts.sum + m.Words.length) - logZ (m.Counts[w.toNat]?.getD 0 + 1)
def pairC (m : Mdl) (prev w : Int) : Int := if prev < 0 then wordC m w else match m.Pairs.find? (fun p => decide (p.A = prev ∧ p.B = w)) with
  | none => m.Back + wordC m w
  | some p => logZ (sumN m.Pairs prev) - logZ p.N
theorem logZ_nat (n : Nat) : logZ n = if n < 1 then 0 else (logN n : Int) := by
  unfold logZ; split <;> rename_i h
  · rw [if_pos (by omega)]
  · rw [if_neg (by omega), Int.toNat_natCast]
theorem logN_bound {n : Nat} (h1 : 1 ≤ n) (h2 : n < 2 ^ 62) : logN n < 504 := by
  have := logN_lt h1
  have := log2_62 h1 h2
  omega
theorem logZ_bound {n : Int} (h : n < 4611686018427387904) : 0 ≤ logZ n ∧ logZ n < 504 := by
  by_cases h1 : n < 1
  · unfold logZ; rw [if_pos h1]; omega
  · obtain ⟨N, rfl⟩ : ∃ N : Nat, n = N := ⟨n.toNat, by omega⟩
    rw [logZ_nat, if_neg (by omega)]
    have := logN_bound (n := N) (by omega) (by omega)
    omega
theorem logZ_mono {a b : Int} (h : a ≤ b) : logZ a ≤ logZ b := by
  unfold logZ; split
  · split <;> omega
  · rw [if_neg (by omega)]
    have := logN_mono (m := a.toNat) (n := b.toNat) (by omega) (by omega)
    omega
theorem MdlOk.count {m : Mdl} (h : MdlOk m) {w : Int} : 0 ≤ m.Counts[w.toNat]?.getD 0 ∧ m.Counts[w.toNat]?.getD 0 ≤ m.Counts.sum ∧ 0 ≤ m.Counts.sum := by
  have h0 := sum_nonneg h.c0
  cases hx : m.Counts[w.toNat]? with
  | none => simp; exact h0
  | some x =>
    have hm := List.mem_of_getElem? hx
    have := h.c0 x hm
    have := le_sum h.c0 hm
    simp; omega
theorem MdlOk.wordC0 {m : Mdl} (h : MdlOk m) (w : Int) : 0 ≤ wordC m w ∧ wordC m w < 504 := by
  obtain ⟨h1, h2, h3⟩ := h.count (w := w)
  have hn := h.n1
  have hn2 := h.n2
  have hcs := h.cs
  unfold wordC
  have := logZ_mono (a := m.Counts[w.toNat]?.getD 0 + 1) (b := m.Counts.sum + m.Words.length) (by omega)
  have := logZ_bound (n := m.Counts.sum + m.Words.length) (by omega)
  have := logZ_bound (n := m.Counts[w.toNat]?.getD 0 + 1) (by omega)
  omega
end Go.Proofs.Ytgnpjhellmfhoaa

/-
  Context: the walks of the costs of words and pairs, in the program and in the reference.
-/
namespace Go.Proofs.Ytgnpjhellmfhoaa
open Go.RowKit Sy


theorem hit_spec {l : List Pr} (h : PrSort l) (a b : Int) : (hitL (keyCmp a b) l = true ∧ ∃ hl : lbL (keyCmp a b) l < l.length, l[lbL (keyCmp a b) l].A = a ∧ l[lbL (keyCmp a b) l].B = b ∧ l.find? (fun p => decide (p.A = a ∧ p.B = b)) = some l[lbL (keyCmp a b) l]) ∨
    (hitL (keyCmp a b) l = false ∧ l.find? (fun p => decide (p.A = a ∧ p.B = b)) = none) := by
  have hm := keyCmp_mono h a b
  cases hh : hitL (keyCmp a b) l with
  | true =>
    left
    refine ⟨rfl, ?_⟩
    unfold hitL at hh
    cases hx : l[lbL (keyCmp a b) l]? with
    | none => rw [hx] at hh; cases hh
    | some x =>
      rw [hx] at hh
      simp only [decide_eq_true_eq] at hh
      obtain ⟨hlt, rfl⟩ := List.getElem?_eq_some_iff.1 hx
      have hk := keyCmp_eq.1 hh
      refine ⟨hlt, hk.1, hk.2, ?_⟩
      rw [List.find?_eq_some_iff_getElem]
      refine ⟨decide_eq_true hk, _, hlt, rfl, fun j hj => ?_⟩
      have := List.pairwise_iff_getElem.1 h j _ (by omega) hlt hj
      rw [prLess_iff] at this
      simp only [Bool.not_eq_true', decide_eq_false_iff_not]
      omega
  | false =>
    right
    refine ⟨rfl, ?_⟩
    rw [List.find?_eq_none]
    intro x hx hc
    rw [decide_eq_true_eq] at hc
    obtain ⟨k, hk, rfl⟩ := List.getElem_of_mem hx
    have h0 : keyCmp a b l[k] = 0 := keyCmp_eq.2 hc
    have h1 : ¬ k < lbL (keyCmp a b) l := by rw [lbL_lt hm hk]; omega
    have hlt : lbL (keyCmp a b) l < l.length := by omega
    have h2 : ¬ keyCmp a b l[lbL (keyCmp a b) l] < 0 := (not_congr (lbL_lt hm hlt)).1 (by omega)
    have he : k = lbL (keyCmp a b) l := by
      rcases Nat.lt_or_ge (lbL (keyCmp a b) l) k with h3 | h3
      · have := List.pairwise_iff_getElem.1 h _ _ hlt hk h3
        rw [prLess_iff] at this
        rw [keyCmp_lt] at h2
        omega
      · omega
    unfold hitL at hh
    rw [List.getElem?_eq_getElem hlt] at hh
    simp only [decide_eq_false_iff_not] at hh
    subst he
    exact hh h0
theorem sumN_nonneg {l : List Pr} (h : ∀ p ∈ l, 0 ≤ p.N) (a : Int) : 0 ≤ sumN l a := sum_nonneg fun x hx => by
  obtain ⟨p, hp, rfl⟩ := List.mem_map.1 hx
  exact h p (List.mem_filter.1 hp).1
theorem MdlOk.N1 {m : Mdl} (h : MdlOk m) {p : Pr} (hp : p ∈ m.Pairs) : 1 ≤ p.N ∧ p.N ≤ sumN m.Pairs p.A ∧ p.N ≤ 1073741824 := by
  have h1 := (h.pp p hp).2.2.2.2
  have h2 := h.sum p.A
  have h3 : p.N ≤ sumN m.Pairs p.A := (le_sum (fun x hx => by
    obtain ⟨q, hq, rfl⟩ := List.mem_map.1 hx
    have := (h.pp q (List.mem_filter.1 hq).1).2.2.2.2; omega) (List.mem_map.2 ⟨p, List.mem_filter.2 ⟨hp, by simp⟩, rfl⟩)).1
  exact ⟨h1, h3, by omega⟩
theorem MdlOk.pairC0 {m : Mdl} (h : MdlOk m) (p w : Int) : 0 ≤ pairC m p w ∧ pairC m p w ≤ 2000 := by
  have hw := h.wordC0 w
  have hb := h.b0
  have hb1 := h.b1
  unfold pairC
  split
  · omega
  · split
    · omega
    · rename_i q hq
      have hm := List.mem_of_find?_eq_some hq
      have he := List.find?_some hq
      simp only [decide_eq_true_eq] at he
      have h1 := h.N1 hm
      have h2 := h.sum q.A
      rw [he.1] at h1 h2
      have := logZ_mono h1.2.1
      have := logZ_bound (n := sumN m.Pairs p) (by omega)
      have := logZ_bound (n := q.N) (by omega)
      omega
theorem cget {l : List Int} {w : Int} (h0 : 0 ≤ w) (h1 : w < l.length) : l[w.toNat]?.getD 0 = l[w.toNat]'(by omega) := by
  rw [List.getElem?_eq_getElem (by omega)]; rfl

theorem totok_c (l : List Int) (b : Int) (hb : 0 ≤ b) (hl : l.length ≤ 4294967296) (hx : ∀ x ∈ l, b ≤ x) (hs : l.sum ≤ 1073741824) (ad : Option Addr) (c : Nat) (μ : Mem) (w : World) (hμ : Imm μ w) (hsl : Sl μ ad c l) :
    Calls Try.prog 62 #[.slice ad l.length c, .int .i64 b] w (RetS w (.tuple #[.int .i64 l.sum, .bool true])) := by
  have := total_c l b hb hl ad c μ w hμ hsl
  rw [total_ok hb (by omega) hx (by omega), Int.zero_add] at this
  exact this
set_option maxRecDepth 100000 in
theorem cword_c (m : Mdl) (h : MdlOk m) (v : Int) (hv0 : 0 ≤ v) (hv1 : v < m.Words.length) (a0 a1 a2 : Option Addr) (c0 c1 c2 : Nat) (μ : Mem) (w : World) (hμ : Imm μ w) (hm0 : Sl μ a0 c0 m.Words) (hm1 : Sl μ a1 c1 m.Counts) (hm2 : Sl μ a2 c2 m.Pairs) :
    Calls Try.prog 69 #[.agg #[.slice a0 m.Words.length c0, .slice a1 m.Counts.length c1, .slice a2 m.Pairs.length c2, .int .i64 m.Back], .int .i64 v] w (RetS w (.int .i64 (wordC m v))) := by
  have hw := h.wordC0 v
  obtain ⟨hc1, hc2, hc3⟩ := h.count (w := v)
  have hcs := h.cs
  have hn1 := h.n1
  have hn2 := h.n2
  have hnc := h.nc
  have hwl : v.toNat < m.Counts.length := by omega
  have hget := cget (l := m.Counts) hv0 (by omega)
  obtain ⟨V, rfl⟩ : ∃ V : Nat, v = V := ⟨v.toNat, by omega⟩
  simp only [Int.toNat_natCast] at hwl hget
  obtain ⟨bl, ol, rfl, k0⟩ := hm1.at hwl
  unfold wordC at hw ⊢
  rw [Int.toNat_natCast, hget] at hw ⊢
  simp only [Int.toNat_natCast, hget] at hc1 hc2
  have hS := St.start w μ hμ
  refine calls_start 27 [.agg #[.slice a0 m.Words.length c0, .slice (some ⟨bl, ol, none⟩) m.Counts.length c1, .slice a2 m.Pairs.length c2, .int .i64 m.Back], .int .i64 V] Try.func69 rfl Try.ntmps69 rfl rfl ?_
  refine CW.seq fun K1 hK1 => ?_
  refine CW.region [0, 1] rfl ?_
  refine LW.hv rfl rfl rfl rfl (Hv.boxS hS rfl rfl) fun v w2 ⟨b2, hv, hb2, hS⟩ => ?_
  subst hv
  refine LW.ex rfl rfl rfl rfl (Ex.assign rfl) hS.rd ?_
  refine LW.nil fun aa ha => hK1 _ _ _ ?_ aa ha
  refine CW.seq fun K2 hK2 => ?_
  refine CW.region [0, 1, 2, 3, 4, 5, 6, 7] rfl ?_
  refine LW.ex rfl rfl rfl rfl (Ex.fieldO 1 Try.underlying34 rfl rfl ti31 rfl) hS.rd ?_
  refine LW.ex rfl rfl rfl rfl (Ex.load1 ti31 rfl rfl (by first | exact obT rfl | exact Rd.imm ‹_› | exact slT ‹_›)) hS.rd ?_
  refine LW.hv rfl rfl rfl rfl (Hv.callS hS rfl rfl rfl cb62 (totok_c m.Counts 0 (by omega) (by omega) h.c0 h.cs _ _ _ _ hS.imm hm1)) fun v w10 ⟨hv, hS⟩ => ?_
  subst hv
  refine LW.ex rfl rfl rfl rfl (Ex.move rfl) hS.rd ?_
  refine LW.ex rfl rfl rfl rfl (Ex.extract rfl rfl) hS.rd ?_
  refine LW.ex rfl rfl rfl rfl (Ex.extract rfl rfl) hS.rd ?_
  refine LW.ex rfl rfl rfl rfl (Ex.assign rfl) hS.rd ?_
  refine LW.ex rfl rfl rfl rfl (Ex.assign rfl) hS.rd ?_
  refine LW.nil fun aa ha => hK2 _ _ _ ?_ aa ha
  refine CW.seq fun K3 hK3 => ?_
  have hS := hS.drew
  refine CW.draw 15 (.ex 0 <| .ex 1 <| .ex 2 <| .ex 3 <| .ex 4 <| .ex 6 <| .ex 7 <| .ex 8 <| .ex 9 <| .ex 10 <| .ex 11 <| .one 5 <| .one 12 <| .ex 13 <| .ex 14 <| .done) [] (Rd _ _) mixed (by kernel_rfl) rfl rfl hS.rd ?_
  refine PW.ex rfl rfl rfl rfl (Ex.move rfl) ?_
  refine PW.ex rfl rfl rfl rfl (Ex.fieldO 0 Try.underlying34 rfl rfl ti30 rfl) ?_
  refine PW.ex rfl rfl rfl rfl (Ex.load1 ti30 rfl rfl (by first | exact obT rfl | exact Rd.imm ‹_› | exact slT ‹_›)) ?_
  refine PW.ex rfl rfl rfl rfl (Ex.lenSl rfl Try.underlying30 rfl) ?_
  refine PW.ex rfl rfl rfl rfl (Ex.add rfl rfl (by first | exact inc64 (by omega) | exact addN (by omega) | exact w64 (by omega) (by omega))) ?_
  refine PW.ex rfl rfl rfl rfl (Ex.fieldO 1 Try.underlying34 rfl rfl ti31 rfl) ?_
  refine PW.ex rfl rfl rfl rfl (Ex.load1 ti31 rfl rfl (by first | exact obT rfl | exact Rd.imm ‹_› | exact slT ‹_›)) ?_
  refine PW.ex rfl rfl rfl rfl (Ex.move rfl) ?_
  refine PW.ex rfl rfl rfl rfl (Ex.indexSl Try.underlying31 ti3 rfl rfl rfl (by omega)) ?_
  refine PW.ex rfl rfl rfl rfl (Ex.load1 ti3 rfl rfl (by first | exact obT rfl | exact Rd.imm ‹_› | exact slT ‹_›)) ?_
  refine PW.ex rfl rfl rfl rfl (Ex.add rfl rfl (by first | exact inc64 (by omega) | exact addN (by omega) | exact w64 (by omega) (by omega))) ?_
  refine PW.hv rfl rfl rfl rfl (Hv.callS hS rfl rfl rfl cb71 (log_c _ (by omega) _)) (fun _ _ h => h.2.rd) fun v w18 ⟨hv, hS⟩ => ?_
  subst hv
  refine PW.hv rfl rfl rfl rfl (Hv.callS hS rfl rfl rfl cb71 (log_c _ (by omega) _)) (fun _ _ h => h.2.rd) fun v w25 ⟨hv, hS⟩ => ?_
  subst hv
  refine PW.ex rfl rfl rfl rfl (Ex.sub rfl rfl (w64 (by omega) (by omega))) ?_
  refine PW.ex rfl rfl rfl rfl (Ex.assign rfl) ?_
  refine PW.nil ?_
  refine LW.nil fun aa ha => hK3 _ _ _ ?_ aa ha
  refine CW.ret fun aa ha => ?_
  refine ret_one ha Try.results69 rfl ?_
  exact hS.retS
end Go.Proofs.Ytgnpjhellmfhoaa
