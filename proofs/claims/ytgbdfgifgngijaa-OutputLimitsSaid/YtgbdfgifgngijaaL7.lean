import Derived.Test.YtgbdfgifgngijaaL6
import Derived.Sort.Walk0

/-
  Operations on strings: order, sums, bytes.
-/
namespace Go.Proofs.Ytgbdfgifgngijaa.Sy
open Go.RowKit

/-- A string as the list of its bytes. -/
abbrev bl (s : ByteArray) : List UInt8 := s.data.toList
def sAt (s : ByteArray) (j : Nat) : UInt8 := (bl s)[j]?.getD 0
def sLt (s u : ByteArray) : Bool := decide (bl s < bl u)
def sLe (s u : ByteArray) : Bool := decide (bl s < bl u) || (s == u)
theorem bl_len (s : ByteArray) : (bl s).length = s.size := rfl
theorem bl_inj {s u : ByteArray} (h : bl s = bl u) : s = u := by cases s; cases u; simp only [bl] at h; rw [Array.toList_inj.1 h]
theorem bl_eq {s u : ByteArray} : (s == u) = decide (bl s = bl u) := by
  by_cases h : s = u
  · subst h; rw [decide_eq_true rfl]; exact beq_self_eq_true s.data
  · rw [decide_eq_false fun e => h (bl_inj e)]
    cases hb : (s == u)
    · rfl
    · exfalso; apply h; have : (s.data == u.data) = true := hb
      cases s; cases u; simp_all
theorem beq_bl {s u : ByteArray} : (s.data == u.data) = (s == u) := rfl
theorem sAt_of {s : ByteArray} {j : Nat} (h : j < s.size) : (bl s)[j]? = some (sAt s j) := by
  have h' : j < (bl s).length := h
  unfold sAt; rw [List.getElem?_eq_getElem h']; rfl
theorem toList_bl (s : ByteArray) : s.toList = bl s := Lib.toList_data s

namespace Ex
variable {P : Program} {S : World → Prop} {m : List (Nat × Value)} {t t' : TypeId} {x y : Operand} {s u : ByteArray} {b : Bool}
theorem lssS (hx : ev m x = some (.string s)) (hy : ev m y = some (.string u)) (hr : sLt s u = b) : Ex P S m (.binOp .lss t x y t') (.bool b) := fun ρ ha w _ o ho => by
  subst hr; simp [execOp, ho, ha _ _ hx, ha _ _ hy, eqGuard, binOp, Op.stringOp, Proofs.bytesLess_eq, toList_bl, sLt, go_sem]
theorem gtrS (hx : ev m x = some (.string s)) (hy : ev m y = some (.string u)) (hr : (!sLe s u) = b) : Ex P S m (.binOp .gtr t x y t') (.bool b) := fun ρ ha w _ o ho => by
  subst hr; simp [execOp, ho, ha _ _ hx, ha _ _ hy, eqGuard, binOp, Op.stringOp, Proofs.bytesLess_eq, toList_bl, sLe, go_sem]; try (simp only [← beq_bl]); try rfl
theorem addS (hx : ev m x = some (.string s)) (hy : ev m y = some (.string u)) (hr : s.size + u.size ≤ 9223372036854775807) : Ex P S m (.binOp .add t x y t') (.string (s ++ u)) := fun ρ ha w _ o ho => by
  have h : ¬ (((s.size + u.size : Nat) : Int) > IntKind.i64.max) := by simp [IntKind.max, IntKind.bits, IntKind.signed]; omega
  simp only [execOp, ho, ha _ _ hx, ha _ _ hy, eqGuard, binOp, Op.stringOp, h, if_false]
  simp [go_sem]
theorem indexB {k : IntKind} {p : Int} {j : Nat} (ht : P.underlying t = some .string) (hx : ev m x = some (.string s)) (hy : ev m y = some (.int k p)) (hp : p = (j : Int)) (hj : j < s.size) :
    Ex P S m (.index t x y) (.int .u8 (sAt s j).toNat) := by
  have h := indexS (S := S) ht hx hy hp hj
  have e : s[j] = sAt s j := by
    have h2 := sAt_of hj
    rw [List.getElem?_eq_getElem (show j < (bl s).length from hj)] at h2
    exact Option.some.inj h2
  rw [e] at h; exact h
end Ex
end Go.Proofs.Ytgbdfgifgngijaa.Sy

/-
  Output: the walks of scheme.classOf, scheme.all and scheme.Letters.
-/
namespace Go.Proofs.Ytgbdfgifgngijaa
open Go.RowKit Sy

def clsN (c : UInt8) : Int := if 97 ≤ c.toNat ∧ c.toNat ≤ 122 then 1 else if 65 ≤ c.toNat ∧ c.toNat ≤ 90 then 2 else if 48 ≤ c.toNat ∧ c.toNat ≤ 57 then 3 else 0
theorem class_c (c : UInt8) (w : World) : Calls Try.prog 95 #[.int .u8 c.toNat] w (RetS w (.int .i64 (clsN c))) := by
  have hc := c.toNat_lt
  have hS := St.start w (fun _ => none) (fun _ _ h => by cases h)
  refine calls_start 24 [.int .u8 c.toNat] Try.func95 rfl Try.ntmps95 rfl rfl ?_
  refine CW.seq fun K1 hK1 => ?_
  refine CW.region [0] rfl ?_
  refine LW.ex rfl rfl rfl rfl (Ex.assign rfl) hS.rd ?_
  refine LW.nil fun aa ha => hK1 _ _ _ ?_ aa ha
  refine CW.seq fun K2 hK2 => ?_
  refine CW.block ?_
  refine CW.seq fun K3 hK3 => ?_
  refine CW.region [0, 1, 2, 3, 4, 5, 6] rfl ?_
  refine LW.ex rfl rfl rfl rfl (Ex.move rfl) hS.rd ?_
  refine LW.ex rfl rfl rfl rfl (Ex.geq rfl rfl rfl) hS.rd ?_
  refine LW.splitB (fun h1_1 => ?_) (fun h1_1 => ?_)
  · have h1_1 := of_decide_eq_true h1_1
    refine LW.ex rfl rfl rfl rfl (Ex.move rfl) hS.rd ?_
    refine LW.ex rfl rfl rfl rfl (Ex.move rfl) hS.rd ?_
    refine LW.ex rfl rfl rfl rfl (Ex.leq rfl rfl rfl) hS.rd ?_
    refine LW.splitB (fun h1_4 => ?_) (fun h1_4 => ?_)
    · have h1_4 := of_decide_eq_true h1_4
      refine LW.ex rfl rfl rfl rfl (by first | exact Ex.pick_yes rfl rfl | exact Ex.pick_no rfl rfl) hS.rd ?_
      refine LW.ex rfl rfl rfl rfl (Ex.assign rfl) hS.rd ?_
      refine LW.nil fun aa ha => hK3 _ _ _ ?_ aa ha
      refine CW.yes rfl ?_
      refine CW.seq fun K4 hK4 => ?_
      refine CW.region [0] rfl ?_
      refine LW.ex rfl rfl rfl rfl (Ex.assign rfl) hS.rd ?_
      refine LW.nil fun aa ha => hK4 _ _ _ ?_ aa ha
      refine CW.ret fun aa ha => ?_
      refine ret_one ha Try.results95 rfl ?_
      refine hS.retI ?_
      unfold clsN; rw [if_pos (by omega)]
    · have h1_4 := of_decide_eq_false h1_4
      refine LW.ex rfl rfl rfl rfl (by first | exact Ex.pick_yes rfl rfl | exact Ex.pick_no rfl rfl) hS.rd ?_
      refine LW.ex rfl rfl rfl rfl (Ex.assign rfl) hS.rd ?_
      refine LW.nil fun aa ha => hK3 _ _ _ ?_ aa ha
      refine CW.no rfl ?_
      refine CW.seq fun K5 hK5 => ?_
      refine CW.region [0, 1, 2, 3, 4, 5, 6] rfl ?_
      refine LW.ex rfl rfl rfl rfl (Ex.move rfl) hS.rd ?_
      refine LW.ex rfl rfl rfl rfl (Ex.geq rfl rfl rfl) hS.rd ?_
      refine LW.splitB (fun h3_1 => ?_) (fun h3_1 => ?_)
      · have h3_1 := of_decide_eq_true h3_1
        refine LW.ex rfl rfl rfl rfl (Ex.move rfl) hS.rd ?_
        refine LW.ex rfl rfl rfl rfl (Ex.move rfl) hS.rd ?_
        refine LW.ex rfl rfl rfl rfl (Ex.leq rfl rfl rfl) hS.rd ?_
        refine LW.splitB (fun h3_4 => ?_) (fun h3_4 => ?_)
        · have h3_4 := of_decide_eq_true h3_4
          refine LW.ex rfl rfl rfl rfl (by first | exact Ex.pick_yes rfl rfl | exact Ex.pick_no rfl rfl) hS.rd ?_
          refine LW.ex rfl rfl rfl rfl (Ex.assign rfl) hS.rd ?_
          refine LW.nil fun aa ha => hK5 _ _ _ ?_ aa ha
          refine CW.yes rfl ?_
          refine CW.seq fun K6 hK6 => ?_
          refine CW.region [0] rfl ?_
          refine LW.ex rfl rfl rfl rfl (Ex.assign rfl) hS.rd ?_
          refine LW.nil fun aa ha => hK6 _ _ _ ?_ aa ha
          refine CW.ret fun aa ha => ?_
          refine ret_one ha Try.results95 rfl ?_
          refine hS.retI ?_
          unfold clsN; rw [if_neg (by omega), if_pos (by omega)]
        · have h3_4 := of_decide_eq_false h3_4
          refine LW.ex rfl rfl rfl rfl (by first | exact Ex.pick_yes rfl rfl | exact Ex.pick_no rfl rfl) hS.rd ?_
          refine LW.ex rfl rfl rfl rfl (Ex.assign rfl) hS.rd ?_
          refine LW.nil fun aa ha => hK5 _ _ _ ?_ aa ha
          refine CW.no rfl ?_
          refine CW.seq fun K7 hK7 => ?_
          refine CW.region [0, 1, 2, 3, 4, 5, 6] rfl ?_
          refine LW.ex rfl rfl rfl rfl (Ex.move rfl) hS.rd ?_
          refine LW.ex rfl rfl rfl rfl (Ex.geq rfl rfl rfl) hS.rd ?_
          refine LW.splitB (fun h5_1 => ?_) (fun h5_1 => ?_)
          · have h5_1 := of_decide_eq_true h5_1
            refine LW.ex rfl rfl rfl rfl (Ex.move rfl) hS.rd ?_
            refine LW.ex rfl rfl rfl rfl (Ex.move rfl) hS.rd ?_
            refine LW.ex rfl rfl rfl rfl (Ex.leq rfl rfl rfl) hS.rd ?_
            refine LW.splitB (fun h5_4 => ?_) (fun h5_4 => ?_)
            · have h5_4 := of_decide_eq_true h5_4
              refine LW.ex rfl rfl rfl rfl (by first | exact Ex.pick_yes rfl rfl | exact Ex.pick_no rfl rfl) hS.rd ?_
              refine LW.ex rfl rfl rfl rfl (Ex.assign rfl) hS.rd ?_
              refine LW.nil fun aa ha => hK7 _ _ _ ?_ aa ha
              refine CW.yes rfl ?_
              refine CW.seq fun K8 hK8 => ?_
              refine CW.region [0] rfl ?_
              refine LW.ex rfl rfl rfl rfl (Ex.assign rfl) hS.rd ?_
              refine LW.nil fun aa ha => hK8 _ _ _ ?_ aa ha
              refine CW.ret fun aa ha => ?_
              refine ret_one ha Try.results95 rfl ?_
              refine hS.retI ?_
              unfold clsN; rw [if_neg (by omega), if_neg (by omega), if_pos (by omega)]
            · have h5_4 := of_decide_eq_false h5_4
              refine LW.ex rfl rfl rfl rfl (by first | exact Ex.pick_yes rfl rfl | exact Ex.pick_no rfl rfl) hS.rd ?_
              refine LW.ex rfl rfl rfl rfl (Ex.assign rfl) hS.rd ?_
              refine LW.nil fun aa ha => hK7 _ _ _ ?_ aa ha
              refine CW.no rfl ?_
              refine CW.skip fun aa ha => hK2 _ _ _ ?_ aa ha
              refine CW.seq fun K9 hK9 => ?_
              refine CW.region [0] rfl ?_
              refine LW.ex rfl rfl rfl rfl (Ex.assign rfl) hS.rd ?_
              refine LW.nil fun aa ha => hK9 _ _ _ ?_ aa ha
              refine CW.ret fun aa ha => ?_
              refine ret_one ha Try.results95 rfl ?_
              refine hS.retI ?_
              unfold clsN; rw [if_neg (by omega), if_neg (by omega), if_neg (by omega)]
          · have h5_1 := of_decide_eq_false h5_1
            refine LW.ex rfl rfl rfl rfl (Ex.move rfl) hS.rd ?_
            refine LW.skip rfl rfl rfl rfl ?_
            refine LW.skip rfl rfl rfl rfl ?_
            refine LW.ex rfl rfl rfl rfl (by first | exact Ex.pick_yes rfl rfl | exact Ex.pick_no rfl rfl) hS.rd ?_
            refine LW.ex rfl rfl rfl rfl (Ex.assign rfl) hS.rd ?_
            refine LW.nil fun aa ha => hK7 _ _ _ ?_ aa ha
            refine CW.no rfl ?_
            refine CW.skip fun aa ha => hK2 _ _ _ ?_ aa ha
            refine CW.seq fun K10 hK10 => ?_
            refine CW.region [0] rfl ?_
            refine LW.ex rfl rfl rfl rfl (Ex.assign rfl) hS.rd ?_
            refine LW.nil fun aa ha => hK10 _ _ _ ?_ aa ha
            refine CW.ret fun aa ha => ?_
            refine ret_one ha Try.results95 rfl ?_
            refine hS.retI ?_
            unfold clsN; rw [if_neg (by omega), if_neg (by omega), if_neg (by omega)]
      · have h3_1 := of_decide_eq_false h3_1
        refine LW.ex rfl rfl rfl rfl (Ex.move rfl) hS.rd ?_
        refine LW.skip rfl rfl rfl rfl ?_
        refine LW.skip rfl rfl rfl rfl ?_
        refine LW.ex rfl rfl rfl rfl (by first | exact Ex.pick_yes rfl rfl | exact Ex.pick_no rfl rfl) hS.rd ?_
        refine LW.ex rfl rfl rfl rfl (Ex.assign rfl) hS.rd ?_
        refine LW.nil fun aa ha => hK5 _ _ _ ?_ aa ha
        refine CW.no rfl ?_
        refine CW.seq fun K11 hK11 => ?_
        refine CW.region [0, 1, 2, 3, 4, 5, 6] rfl ?_
        refine LW.ex rfl rfl rfl rfl (Ex.move rfl) hS.rd ?_
        refine LW.ex rfl rfl rfl rfl (Ex.geq rfl rfl rfl) hS.rd ?_
        refine LW.splitB (fun h5_1 => ?_) (fun h5_1 => ?_)
        · have h5_1 := of_decide_eq_true h5_1
          refine LW.ex rfl rfl rfl rfl (Ex.move rfl) hS.rd ?_
          refine LW.ex rfl rfl rfl rfl (Ex.move rfl) hS.rd ?_
          refine LW.ex rfl rfl rfl rfl (Ex.leq rfl rfl rfl) hS.rd ?_
          refine LW.splitB (fun h5_4 => ?_) (fun h5_4 => ?_)
          · have h5_4 := of_decide_eq_true h5_4
            refine LW.ex rfl rfl rfl rfl (by first | exact Ex.pick_yes rfl rfl | exact Ex.pick_no rfl rfl) hS.rd ?_
            refine LW.ex rfl rfl rfl rfl (Ex.assign rfl) hS.rd ?_
            refine LW.nil fun aa ha => hK11 _ _ _ ?_ aa ha
            refine CW.yes rfl ?_
            refine CW.seq fun K12 hK12 => ?_
            refine CW.region [0] rfl ?_
            refine LW.ex rfl rfl rfl rfl (Ex.assign rfl) hS.rd ?_
            refine LW.nil fun aa ha => hK12 _ _ _ ?_ aa ha
            refine CW.ret fun aa ha => ?_
            refine ret_one ha Try.results95 rfl ?_
            refine hS.retI ?_
            unfold clsN; rw [if_neg (by omega), if_neg (by omega), if_pos (by omega)]
          · have h5_4 := of_decide_eq_false h5_4
            refine LW.ex rfl rfl rfl rfl (by first | exact Ex.pick_yes rfl rfl | exact Ex.pick_no rfl rfl) hS.rd ?_
            refine LW.ex rfl rfl rfl rfl (Ex.assign rfl) hS.rd ?_
            refine LW.nil fun aa ha => hK11 _ _ _ ?_ aa ha
            refine CW.no rfl ?_
            refine CW.skip fun aa ha => hK2 _ _ _ ?_ aa ha
            refine CW.seq fun K13 hK13 => ?_
            refine CW.region [0] rfl ?_
            refine LW.ex rfl rfl rfl rfl (Ex.assign rfl) hS.rd ?_
            refine LW.nil fun aa ha => hK13 _ _ _ ?_ aa ha
            refine CW.ret fun aa ha => ?_
            refine ret_one ha Try.results95 rfl ?_
            refine hS.retI ?_
            unfold clsN; rw [if_neg (by omega), if_neg (by omega), if_neg (by omega)]
        · have h5_1 := of_decide_eq_false h5_1
          refine LW.ex rfl rfl rfl rfl (Ex.move rfl) hS.rd ?_
          refine LW.skip rfl rfl rfl rfl ?_
          refine LW.skip rfl rfl rfl rfl ?_
          refine LW.ex rfl rfl rfl rfl (by first | exact Ex.pick_yes rfl rfl | exact Ex.pick_no rfl rfl) hS.rd ?_
          refine LW.ex rfl rfl rfl rfl (Ex.assign rfl) hS.rd ?_
          refine LW.nil fun aa ha => hK11 _ _ _ ?_ aa ha
          refine CW.no rfl ?_
          refine CW.skip fun aa ha => hK2 _ _ _ ?_ aa ha
          refine CW.seq fun K14 hK14 => ?_
          refine CW.region [0] rfl ?_
          refine LW.ex rfl rfl rfl rfl (Ex.assign rfl) hS.rd ?_
          refine LW.nil fun aa ha => hK14 _ _ _ ?_ aa ha
          refine CW.ret fun aa ha => ?_
          refine ret_one ha Try.results95 rfl ?_
          refine hS.retI ?_
          unfold clsN; rw [if_neg (by omega), if_neg (by omega), if_neg (by omega)]
  · have h1_1 := of_decide_eq_false h1_1
    refine LW.ex rfl rfl rfl rfl (Ex.move rfl) hS.rd ?_
    refine LW.skip rfl rfl rfl rfl ?_
    refine LW.skip rfl rfl rfl rfl ?_
    refine LW.ex rfl rfl rfl rfl (by first | exact Ex.pick_yes rfl rfl | exact Ex.pick_no rfl rfl) hS.rd ?_
    refine LW.ex rfl rfl rfl rfl (Ex.assign rfl) hS.rd ?_
    refine LW.nil fun aa ha => hK3 _ _ _ ?_ aa ha
    refine CW.no rfl ?_
    refine CW.seq fun K15 hK15 => ?_
    refine CW.region [0, 1, 2, 3, 4, 5, 6] rfl ?_
    refine LW.ex rfl rfl rfl rfl (Ex.move rfl) hS.rd ?_
    refine LW.ex rfl rfl rfl rfl (Ex.geq rfl rfl rfl) hS.rd ?_
    refine LW.splitB (fun h3_1 => ?_) (fun h3_1 => ?_)
    · have h3_1 := of_decide_eq_true h3_1
      refine LW.ex rfl rfl rfl rfl (Ex.move rfl) hS.rd ?_
      refine LW.ex rfl rfl rfl rfl (Ex.move rfl) hS.rd ?_
      refine LW.ex rfl rfl rfl rfl (Ex.leq rfl rfl rfl) hS.rd ?_
      refine LW.splitB (fun h3_4 => ?_) (fun h3_4 => ?_)
      · have h3_4 := of_decide_eq_true h3_4
        refine LW.ex rfl rfl rfl rfl (by first | exact Ex.pick_yes rfl rfl | exact Ex.pick_no rfl rfl) hS.rd ?_
        refine LW.ex rfl rfl rfl rfl (Ex.assign rfl) hS.rd ?_
        refine LW.nil fun aa ha => hK15 _ _ _ ?_ aa ha
        refine CW.yes rfl ?_
        refine CW.seq fun K16 hK16 => ?_
        refine CW.region [0] rfl ?_
        refine LW.ex rfl rfl rfl rfl (Ex.assign rfl) hS.rd ?_
        refine LW.nil fun aa ha => hK16 _ _ _ ?_ aa ha
        refine CW.ret fun aa ha => ?_
        refine ret_one ha Try.results95 rfl ?_
        refine hS.retI ?_
        unfold clsN; rw [if_neg (by omega), if_pos (by omega)]
      · have h3_4 := of_decide_eq_false h3_4
        refine LW.ex rfl rfl rfl rfl (by first | exact Ex.pick_yes rfl rfl | exact Ex.pick_no rfl rfl) hS.rd ?_
        refine LW.ex rfl rfl rfl rfl (Ex.assign rfl) hS.rd ?_
        refine LW.nil fun aa ha => hK15 _ _ _ ?_ aa ha
        refine CW.no rfl ?_
        refine CW.seq fun K17 hK17 => ?_
        refine CW.region [0, 1, 2, 3, 4, 5, 6] rfl ?_
        refine LW.ex rfl rfl rfl rfl (Ex.move rfl) hS.rd ?_
        refine LW.ex rfl rfl rfl rfl (Ex.geq rfl rfl rfl) hS.rd ?_
        refine LW.splitB (fun h5_1 => ?_) (fun h5_1 => ?_)
        · have h5_1 := of_decide_eq_true h5_1
          refine LW.ex rfl rfl rfl rfl (Ex.move rfl) hS.rd ?_
          refine LW.ex rfl rfl rfl rfl (Ex.move rfl) hS.rd ?_
          refine LW.ex rfl rfl rfl rfl (Ex.leq rfl rfl rfl) hS.rd ?_
          refine LW.splitB (fun h5_4 => ?_) (fun h5_4 => ?_)
          · have h5_4 := of_decide_eq_true h5_4
            refine LW.ex rfl rfl rfl rfl (by first | exact Ex.pick_yes rfl rfl | exact Ex.pick_no rfl rfl) hS.rd ?_
            refine LW.ex rfl rfl rfl rfl (Ex.assign rfl) hS.rd ?_
            refine LW.nil fun aa ha => hK17 _ _ _ ?_ aa ha
            refine CW.yes rfl ?_
            refine CW.seq fun K18 hK18 => ?_
            refine CW.region [0] rfl ?_
            refine LW.ex rfl rfl rfl rfl (Ex.assign rfl) hS.rd ?_
            refine LW.nil fun aa ha => hK18 _ _ _ ?_ aa ha
            refine CW.ret fun aa ha => ?_
            refine ret_one ha Try.results95 rfl ?_
            refine hS.retI ?_
            unfold clsN; rw [if_neg (by omega), if_neg (by omega), if_pos (by omega)]
          · have h5_4 := of_decide_eq_false h5_4
            refine LW.ex rfl rfl rfl rfl (by first | exact Ex.pick_yes rfl rfl | exact Ex.pick_no rfl rfl) hS.rd ?_
            refine LW.ex rfl rfl rfl rfl (Ex.assign rfl) hS.rd ?_
            refine LW.nil fun aa ha => hK17 _ _ _ ?_ aa ha
            refine CW.no rfl ?_
            refine CW.skip fun aa ha => hK2 _ _ _ ?_ aa ha
            refine CW.seq fun K19 hK19 => ?_
            refine CW.region [0] rfl ?_
            refine LW.ex rfl rfl rfl rfl (Ex.assign rfl) hS.rd ?_
            refine LW.nil fun aa ha => hK19 _ _ _ ?_ aa ha
            refine CW.ret fun aa ha => ?_
            refine ret_one ha Try.results95 rfl ?_
            refine hS.retI ?_
            unfold clsN; rw [if_neg (by omega), if_neg (by omega), if_neg (by omega)]
        · have h5_1 := of_decide_eq_false h5_1
          refine LW.ex rfl rfl rfl rfl (Ex.move rfl) hS.rd ?_
          refine LW.skip rfl rfl rfl rfl ?_
          refine LW.skip rfl rfl rfl rfl ?_
          refine LW.ex rfl rfl rfl rfl (by first | exact Ex.pick_yes rfl rfl | exact Ex.pick_no rfl rfl) hS.rd ?_
          refine LW.ex rfl rfl rfl rfl (Ex.assign rfl) hS.rd ?_
          refine LW.nil fun aa ha => hK17 _ _ _ ?_ aa ha
          refine CW.no rfl ?_
          refine CW.skip fun aa ha => hK2 _ _ _ ?_ aa ha
          refine CW.seq fun K20 hK20 => ?_
          refine CW.region [0] rfl ?_
          refine LW.ex rfl rfl rfl rfl (Ex.assign rfl) hS.rd ?_
          refine LW.nil fun aa ha => hK20 _ _ _ ?_ aa ha
          refine CW.ret fun aa ha => ?_
          refine ret_one ha Try.results95 rfl ?_
          refine hS.retI ?_
          unfold clsN; rw [if_neg (by omega), if_neg (by omega), if_neg (by omega)]
    · have h3_1 := of_decide_eq_false h3_1
      refine LW.ex rfl rfl rfl rfl (Ex.move rfl) hS.rd ?_
      refine LW.skip rfl rfl rfl rfl ?_
      refine LW.skip rfl rfl rfl rfl ?_
      refine LW.ex rfl rfl rfl rfl (by first | exact Ex.pick_yes rfl rfl | exact Ex.pick_no rfl rfl) hS.rd ?_
      refine LW.ex rfl rfl rfl rfl (Ex.assign rfl) hS.rd ?_
      refine LW.nil fun aa ha => hK15 _ _ _ ?_ aa ha
      refine CW.no rfl ?_
      refine CW.seq fun K21 hK21 => ?_
      refine CW.region [0, 1, 2, 3, 4, 5, 6] rfl ?_
      refine LW.ex rfl rfl rfl rfl (Ex.move rfl) hS.rd ?_
      refine LW.ex rfl rfl rfl rfl (Ex.geq rfl rfl rfl) hS.rd ?_
      refine LW.splitB (fun h5_1 => ?_) (fun h5_1 => ?_)
      · have h5_1 := of_decide_eq_true h5_1
        refine LW.ex rfl rfl rfl rfl (Ex.move rfl) hS.rd ?_
        refine LW.ex rfl rfl rfl rfl (Ex.move rfl) hS.rd ?_
        refine LW.ex rfl rfl rfl rfl (Ex.leq rfl rfl rfl) hS.rd ?_
        refine LW.splitB (fun h5_4 => ?_) (fun h5_4 => ?_)
        · have h5_4 := of_decide_eq_true h5_4
          refine LW.ex rfl rfl rfl rfl (by first | exact Ex.pick_yes rfl rfl | exact Ex.pick_no rfl rfl) hS.rd ?_
          refine LW.ex rfl rfl rfl rfl (Ex.assign rfl) hS.rd ?_
          refine LW.nil fun aa ha => hK21 _ _ _ ?_ aa ha
          refine CW.yes rfl ?_
          refine CW.seq fun K22 hK22 => ?_
          refine CW.region [0] rfl ?_
          refine LW.ex rfl rfl rfl rfl (Ex.assign rfl) hS.rd ?_
          refine LW.nil fun aa ha => hK22 _ _ _ ?_ aa ha
          refine CW.ret fun aa ha => ?_
          refine ret_one ha Try.results95 rfl ?_
          refine hS.retI ?_
          unfold clsN; rw [if_neg (by omega), if_neg (by omega), if_pos (by omega)]
        · have h5_4 := of_decide_eq_false h5_4
          refine LW.ex rfl rfl rfl rfl (by first | exact Ex.pick_yes rfl rfl | exact Ex.pick_no rfl rfl) hS.rd ?_
          refine LW.ex rfl rfl rfl rfl (Ex.assign rfl) hS.rd ?_
          refine LW.nil fun aa ha => hK21 _ _ _ ?_ aa ha
          refine CW.no rfl ?_
          refine CW.skip fun aa ha => hK2 _ _ _ ?_ aa ha
          refine CW.seq fun K23 hK23 => ?_
          refine CW.region [0] rfl ?_
          refine LW.ex rfl rfl rfl rfl (Ex.assign rfl) hS.rd ?_
          refine LW.nil fun aa ha => hK23 _ _ _ ?_ aa ha
          refine CW.ret fun aa ha => ?_
          refine ret_one ha Try.results95 rfl ?_
          refine hS.retI ?_
          unfold clsN; rw [if_neg (by omega), if_neg (by omega), if_neg (by omega)]
      · have h5_1 := of_decide_eq_false h5_1
        refine LW.ex rfl rfl rfl rfl (Ex.move rfl) hS.rd ?_
        refine LW.skip rfl rfl rfl rfl ?_
        refine LW.skip rfl rfl rfl rfl ?_
        refine LW.ex rfl rfl rfl rfl (by first | exact Ex.pick_yes rfl rfl | exact Ex.pick_no rfl rfl) hS.rd ?_
        refine LW.ex rfl rfl rfl rfl (Ex.assign rfl) hS.rd ?_
        refine LW.nil fun aa ha => hK21 _ _ _ ?_ aa ha
        refine CW.no rfl ?_
        refine CW.skip fun aa ha => hK2 _ _ _ ?_ aa ha
        refine CW.seq fun K24 hK24 => ?_
        refine CW.region [0] rfl ?_
        refine LW.ex rfl rfl rfl rfl (Ex.assign rfl) hS.rd ?_
        refine LW.nil fun aa ha => hK24 _ _ _ ?_ aa ha
        refine CW.ret fun aa ha => ?_
        refine ret_one ha Try.results95 rfl ?_
        refine hS.retI ?_
        unfold clsN; rw [if_neg (by omega), if_neg (by omega), if_neg (by omega)]
def clsOk (most : Int) (c : UInt8) : Bool := decide (clsN c ≠ 0 ∧ clsN c ≤ most)
def allC (most : Int) (s : ByteArray) : Bool := (bl s).all (clsOk most)
theorem all_take {s : ByteArray} {most : Int} {i : Nat} (hi : i < s.size) (h : ((bl s).take i).all (clsOk most) = true) : ((bl s).take (i + 1)).all (clsOk most) = clsOk most (sAt s i) := by
  have h' : i < (bl s).length := hi
  have e := sAt_of hi
  rw [List.getElem?_eq_getElem h'] at e
  rw [List.take_succ_eq_append_getElem h', List.all_append, h, Option.some.inj e]; simp
theorem all_c (s : ByteArray) (most : Int) (hs : s.size ≤ 9223372036854775807) (w : World) : Calls Try.prog 73 #[.string s, .int .i64 most] w (RetS w (.bool (allC most s))) := by
  have hS := St.start w (fun _ => none) (fun _ _ h => by cases h)
  refine calls_start 24 [.string s, .int .i64 most] Try.func73 rfl Try.ntmps73 rfl rfl ?_
  refine CW.seq fun K25 hK25 => ?_
  refine CW.region [0] rfl ?_
  refine LW.ex rfl rfl rfl rfl (Ex.assign rfl) hS.rd ?_
  refine LW.nil fun aa ha => hK25 _ _ _ ?_ aa ha
  refine CW.seq fun K26 hK26 => ?_
  refine CW.seq fun K27 hK27 => ?_
  refine CW.region [0, 1, 2] rfl ?_
  refine LW.ex rfl rfl rfl rfl (Ex.move rfl) hS.rd ?_
  refine LW.ex rfl rfl rfl rfl (Ex.lenS rfl Try.underlying9 rfl) hS.rd ?_
  refine LW.ex rfl rfl rfl rfl (Ex.move rfl) hS.rd ?_
  refine LW.nil fun aa ha => hK27 _ _ _ ?_ aa ha
  refine CW.block ?_
  refine CW.loop (fun qq frm wl2 => ∃ (i : Nat), i ≤ s.size ∧ qq = s.size - i ∧ frm = [(0, .string s), (1, .int .i64 most), (8, .int .i64 s.size), (9, .int .i64 i)] ∧ St w wl2 (fun _ => none) [] ∧ (((bl s).take i).all (clsOk most) = true)) _ ⟨0, (by first | omega | (simp; done) | (simp; omega)), rfl, rfl, hS, rfl⟩ ⟨rfl, rfl, rfl, rfl, trivial⟩ ?_
  clear hS
  rintro qq frm wl2 ⟨i, hi, hq, rfl, hS, ha2⟩
  refine CW.seq fun K28 hK28 => ?_
  refine CW.region [0] rfl ?_
  refine LW.ex rfl rfl rfl rfl (Ex.lss rfl rfl rfl) hS.rd ?_
  refine LW.splitB (fun h2_0 => ?_) (fun h2_0 => ?_)
  · have h2_0 := of_decide_eq_true h2_0
    refine LW.nil fun aa ha => hK28 _ _ _ ?_ aa ha
    refine CW.seq fun K29 hK29 => ?_
    refine CW.yes rfl ?_
    refine CW.skip fun aa ha => hK29 _ _ _ ?_ aa ha
    refine CW.seq fun K30 hK30 => ?_
    refine CW.block ?_
    refine CW.seq fun K31 hK31 => ?_
    refine CW.region [0, 1] rfl ?_
    refine LW.ex rfl rfl rfl rfl (Ex.move rfl) hS.rd ?_
    refine LW.ex rfl rfl rfl rfl (Ex.assign rfl) hS.rd ?_
    refine LW.nil fun aa ha => hK31 _ _ _ ?_ aa ha
    refine CW.seq fun K32 hK32 => ?_
    have hi2 : i < s.size := by omega
    have hat := all_take (most := most) hi2 ha2
    refine CW.region [0, 1, 2, 3, 4] rfl ?_
    refine LW.ex rfl rfl rfl rfl (Ex.move rfl) hS.rd ?_
    refine LW.ex rfl rfl rfl rfl (Ex.move rfl) hS.rd ?_
    refine LW.ex rfl rfl rfl rfl (Ex.indexB Try.underlying9 rfl rfl rfl (by omega)) hS.rd ?_
    refine LW.hv rfl rfl rfl rfl (Hv.callS hS rfl rfl rfl cb95 (class_c (sAt s i) _)) fun v w15 ⟨hv, hS⟩ => ?_
    subst hv
    refine LW.ex rfl rfl rfl rfl (Ex.assign rfl) hS.rd ?_
    refine LW.nil fun aa ha => hK32 _ _ _ ?_ aa ha
    refine CW.seq fun K33 hK33 => ?_
    refine CW.region [0, 1, 2, 3, 4, 5, 6] rfl ?_
    refine LW.ex rfl rfl rfl rfl (Ex.move rfl) hS.rd ?_
    refine LW.ex rfl rfl rfl rfl (Ex.eql rfl rfl rfl) hS.rd ?_
    refine LW.splitB (fun h5_1 => ?_) (fun h5_1 => ?_)
    · have h5_1 := of_decide_eq_true h5_1
      refine LW.ex rfl rfl rfl rfl (Ex.move rfl) hS.rd ?_
      refine LW.skip rfl rfl rfl rfl ?_
      refine LW.skip rfl rfl rfl rfl ?_
      refine LW.skip rfl rfl rfl rfl ?_
      refine LW.ex rfl rfl rfl rfl (by first | exact Ex.pick_yes rfl rfl | exact Ex.pick_no rfl rfl) hS.rd ?_
      refine LW.nil fun aa ha => hK33 _ _ _ ?_ aa ha
      refine CW.yes rfl ?_
      refine CW.seq fun K34 hK34 => ?_
      refine CW.region [0] rfl ?_
      refine LW.ex rfl rfl rfl rfl (Ex.assign rfl) hS.rd ?_
      refine LW.nil fun aa ha => hK34 _ _ _ ?_ aa ha
      refine CW.ret fun aa ha => ?_
      refine ret_one ha Try.results73 rfl ?_
      refine hS.retB ?_
      have h1 : clsOk most (sAt s i) = false := by unfold clsOk; rw [decide_eq_false]; omega
      rw [h1] at hat
      unfold allC
      rw [← List.take_append_drop (i + 1) (bl s), List.all_append, hat]; rfl
    · have h5_1 := of_decide_eq_false h5_1
      refine LW.ex rfl rfl rfl rfl (Ex.move rfl) hS.rd ?_
      refine LW.ex rfl rfl rfl rfl (Ex.move rfl) hS.rd ?_
      refine LW.ex rfl rfl rfl rfl (Ex.move rfl) hS.rd ?_
      refine LW.ex rfl rfl rfl rfl (Ex.gtr rfl rfl rfl) hS.rd ?_
      refine LW.splitB (fun h5_5 => ?_) (fun h5_5 => ?_)
      · have h5_5 := of_decide_eq_true h5_5
        refine LW.ex rfl rfl rfl rfl (by first | exact Ex.pick_yes rfl rfl | exact Ex.pick_no rfl rfl) hS.rd ?_
        refine LW.nil fun aa ha => hK33 _ _ _ ?_ aa ha
        refine CW.yes rfl ?_
        refine CW.seq fun K35 hK35 => ?_
        refine CW.region [0] rfl ?_
        refine LW.ex rfl rfl rfl rfl (Ex.assign rfl) hS.rd ?_
        refine LW.nil fun aa ha => hK35 _ _ _ ?_ aa ha
        refine CW.ret fun aa ha => ?_
        refine ret_one ha Try.results73 rfl ?_
        refine hS.retB ?_
        have h1 : clsOk most (sAt s i) = false := by unfold clsOk; rw [decide_eq_false]; omega
        rw [h1] at hat
        unfold allC
        rw [← List.take_append_drop (i + 1) (bl s), List.all_append, hat]; rfl
      · have h5_5 := of_decide_eq_false h5_5
        refine LW.ex rfl rfl rfl rfl (by first | exact Ex.pick_yes rfl rfl | exact Ex.pick_no rfl rfl) hS.rd ?_
        refine LW.nil fun aa ha => hK33 _ _ _ ?_ aa ha
        refine CW.no rfl ?_
        refine CW.skip fun aa ha => hK30 _ _ _ ?_ aa ha
        refine CW.region [0, 1] rfl ?_
        refine LW.ex rfl rfl rfl rfl (Ex.add rfl rfl (by first | exact inc64 (by omega) | exact addN (by omega) | exact w64 (by omega) (by omega))) hS.rd ?_
        refine LW.ex rfl rfl rfl rfl (Ex.move rfl) hS.rd ?_
        refine LW.nil fun aa ha => ?_
        refine ⟨_, _, ?m2, ⟨i + 1, (by first | omega | (simp; done) | (simp; omega)), rfl, rfl, hS, by rw [hat]; unfold clsOk; rw [decide_eq_true]; omega⟩, ha.sub ⟨rfl, rfl, rfl, rfl, trivial⟩⟩
        case m2 => omega
  · have h2_0 := of_decide_eq_false h2_0
    refine LW.nil fun aa ha => hK28 _ _ _ ?_ aa ha
    refine CW.seq fun K36 hK36 => ?_
    refine CW.no rfl ?_
    refine CW.exit fun aa ha => hK26 _ _ _ ?_ aa ha
    refine CW.seq fun K37 hK37 => ?_
    refine CW.region [0] rfl ?_
    refine LW.ex rfl rfl rfl rfl (Ex.assign rfl) hS.rd ?_
    refine LW.nil fun aa ha => hK37 _ _ _ ?_ aa ha
    refine CW.ret fun aa ha => ?_
    refine ret_one ha Try.results73 rfl ?_
    refine hS.retB ?_
    unfold allC
    rw [List.take_of_length_le (by rw [bl_len]; omega)] at ha2
    exact ha2.symm
def lettersC (s : ByteArray) : Bool := decide (s.size ≤ 40) && allC 1 s
theorem letters_c (s : ByteArray) (hs : s.size ≤ 9223372036854775807) (w : World) : Calls Try.prog 54 #[.string s] w (RetS w (.bool (lettersC s))) := by
  have hS := St.start w (fun _ => none) (fun _ _ h => by cases h)
  refine calls_start 10 [.string s] Try.func54 rfl Try.ntmps54 rfl rfl ?_
  refine CW.seq fun K38 hK38 => ?_
  refine CW.region [0] rfl ?_
  refine LW.ex rfl rfl rfl rfl (Ex.assign rfl) hS.rd ?_
  refine LW.nil fun aa ha => hK38 _ _ _ ?_ aa ha
  refine CW.seq fun K39 hK39 => ?_
  refine CW.region [0, 1, 2, 3, 4, 5, 6, 7] rfl ?_
  refine LW.ex rfl rfl rfl rfl (Ex.move rfl) hS.rd ?_
  refine LW.ex rfl rfl rfl rfl (Ex.lenS rfl Try.underlying9 rfl) hS.rd ?_
  refine LW.ex rfl rfl rfl rfl (Ex.leq rfl rfl rfl) hS.rd ?_
  refine LW.splitB (fun h1_2 => ?_) (fun h1_2 => ?_)
  · have h1_2 := of_decide_eq_true h1_2
    refine LW.ex rfl rfl rfl rfl (Ex.move rfl) hS.rd ?_
    refine LW.ex rfl rfl rfl rfl (Ex.move rfl) hS.rd ?_
    refine LW.hv rfl rfl rfl rfl (Hv.callS hS rfl rfl rfl cb73 (all_c s 1 hs _)) fun v w8 ⟨hv, hS⟩ => ?_
    subst hv
    refine LW.ex rfl rfl rfl rfl (by first | exact Ex.pick_yes rfl rfl | exact Ex.pick_no rfl rfl) hS.rd ?_
    refine LW.ex rfl rfl rfl rfl (Ex.assign rfl) hS.rd ?_
    refine LW.nil fun aa ha => hK39 _ _ _ ?_ aa ha
    refine CW.ret fun aa ha => ?_
    refine ret_one ha Try.results54 rfl ?_
    refine hS.retB ?_
    unfold lettersC
    first | (have h1 : s.size ≤ 40 := by omega); simp [h1] | (have h1 : ¬ s.size ≤ 40 := by omega); simp [h1]
  · have h1_2 := of_decide_eq_false h1_2
    refine LW.ex rfl rfl rfl rfl (Ex.move rfl) hS.rd ?_
    refine LW.skip rfl rfl rfl rfl ?_
    refine LW.skip rfl rfl rfl rfl ?_
    refine LW.ex rfl rfl rfl rfl (by first | exact Ex.pick_yes rfl rfl | exact Ex.pick_no rfl rfl) hS.rd ?_
    refine LW.ex rfl rfl rfl rfl (Ex.assign rfl) hS.rd ?_
    refine LW.nil fun aa ha => hK39 _ _ _ ?_ aa ha
    refine CW.ret fun aa ha => ?_
    refine ret_one ha Try.results54 rfl ?_
    refine hS.retB ?_
    unfold lettersC
    first | (have h1 : s.size ≤ 40 := by omega); simp [h1] | (have h1 : ¬ s.size ≤ 40 := by omega); simp [h1]
end Go.Proofs.Ytgbdfgifgngijaa

/-
  Output: the walks of scheme.right, slices.Index and Contains over rules, scheme.Check and scheme.Valid.
-/
namespace Go.Proofs.Ytgbdfgifgngijaa
open Go.RowKit Sy

deriving instance DecidableEq for ByteArray
deriving instance DecidableEq for Rule
instance : Inhabited Rule := ⟨⟨0, 0, ⟨#[]⟩, ⟨#[]⟩, 0⟩⟩
/-- Strings that a machine can hold. -/
def RSmall (r : Rule) : Prop := r.In.size ≤ 9223372036854775807 ∧ r.Out.size ≤ 9223372036854775807
def rightB (r : Rule) (modes : Int) : Bool := decide (0 ≤ r.From ∧ r.From ≤ modes - 1) && decide (0 ≤ r.To ∧ r.To ≤ modes - 1) && decide (0 ≤ r.Cost ∧ r.Cost ≤ 1000) && decide ((r.In.size : Int) ≤ 4) && allC 1 r.In && decide ((r.Out.size : Int) ≤ 4) && allC 3 r.Out
theorem bl_eq_iff {s u : ByteArray} : bl s = bl u ↔ s = u := ⟨bl_inj, fun h => by rw [h]⟩
theorem beqS (s u : ByteArray) : (s == u) = decide (s = u) := by rw [bl_eq]; exact decide_eq_decide.2 bl_eq_iff
def firstR (r : Rule) (l : List Rule) : Int := if r ∈ l then (l.findIdx (fun x => decide (r = x)) : Nat) else -1
theorem firstR_at {r : Rule} {l : List Rule} {i : Nat} (hi : i < l.length) (hn : r ∉ l.take i) (he : r = l[i]) : (i : Int) = firstR r l := by
  have hm : r ∈ l := by rw [he]; exact List.getElem_mem hi
  unfold firstR
  rw [if_pos hm]
  have h1 : l.findIdx (fun x => decide (r = x)) = i := (List.findIdx_eq hi).2 ⟨decide_eq_true he, fun k hk => decide_eq_false fun e => hn (by
    rw [List.mem_iff_getElem]
    exact ⟨k, by rw [List.length_take]; omega, by rw [List.getElem_take, ← e]⟩)⟩
  rw [h1]
theorem firstR_none {r : Rule} {l : List Rule} (hn : r ∉ l) : (-1 : Int) = firstR r l := by unfold firstR; rw [if_neg hn]
theorem firstR_ge (r : Rule) (l : List Rule) : decide (firstR r l ≥ 0) = decide (r ∈ l) := by
  unfold firstR
  split
  · rename_i h; simp [h]
  · rename_i h; simp [h]
theorem in_c (n hi : Int) (w : World) : Calls Try.prog 101 #[.int .i64 n, .int .i64 hi] w (RetS w (.bool (decide (0 ≤ n ∧ n ≤ hi)))) := by
  have hS := St.start w (fun _ => none) (fun _ _ h => by cases h)
  refine calls_start 12 [.int .i64 n, .int .i64 hi] Try.func101 rfl Try.ntmps101 rfl rfl ?_
  refine CW.seq fun K1 hK1 => ?_
  refine CW.region [0] rfl ?_
  refine LW.ex rfl rfl rfl rfl (Ex.assign rfl) hS.rd ?_
  refine LW.nil fun aa ha => hK1 _ _ _ ?_ aa ha
  refine CW.seq fun K2 hK2 => ?_
  refine CW.region [0, 1, 2, 3, 4, 5, 6, 7] rfl ?_
  refine LW.ex rfl rfl rfl rfl (Ex.move rfl) hS.rd ?_
  refine LW.ex rfl rfl rfl rfl (Ex.geq rfl rfl rfl) hS.rd ?_
  refine LW.splitB (fun h1_1 => ?_) (fun h1_1 => ?_)
  · have h1_1 := of_decide_eq_true h1_1
    refine LW.ex rfl rfl rfl rfl (Ex.move rfl) hS.rd ?_
    refine LW.ex rfl rfl rfl rfl (Ex.move rfl) hS.rd ?_
    refine LW.ex rfl rfl rfl rfl (Ex.move rfl) hS.rd ?_
    refine LW.ex rfl rfl rfl rfl (Ex.leq rfl rfl (by first | exact decide_eq_true (by omega) | exact decide_eq_false (by omega) | rfl)) hS.rd ?_
    refine LW.ex rfl rfl rfl rfl (by first | exact Ex.pick_yes rfl rfl | exact Ex.pick_no rfl rfl) hS.rd ?_
    refine LW.ex rfl rfl rfl rfl (Ex.assign rfl) hS.rd ?_
    refine LW.nil fun aa ha => hK2 _ _ _ ?_ aa ha
    refine CW.ret fun aa ha => ?_
    refine ret_one ha Try.results101 rfl ?_
    refine hS.retB ?_
    first | (rw [decide_eq_true]; done) | (simp; omega) | simp_all
  · have h1_1 := of_decide_eq_false h1_1
    refine LW.ex rfl rfl rfl rfl (Ex.move rfl) hS.rd ?_
    refine LW.skip rfl rfl rfl rfl ?_
    refine LW.skip rfl rfl rfl rfl ?_
    refine LW.skip rfl rfl rfl rfl ?_
    refine LW.ex rfl rfl rfl rfl (by first | exact Ex.pick_yes rfl rfl | exact Ex.pick_no rfl rfl) hS.rd ?_
    refine LW.ex rfl rfl rfl rfl (Ex.assign rfl) hS.rd ?_
    refine LW.nil fun aa ha => hK2 _ _ _ ?_ aa ha
    refine CW.ret fun aa ha => ?_
    refine ret_one ha Try.results101 rfl ?_
    refine hS.retB ?_
    first | (rw [decide_eq_true]; done) | (simp; omega) | simp_all
theorem right_c (r : Rule) (modes : Int) (hr : RSmall r) (hm : 0 ≤ modes ∧ modes ≤ 100) (w : World) : Calls Try.prog 86 #[ruleV r, .int .i64 modes] w (RetS w (.bool (rightB r modes))) := by
  obtain ⟨hr1, hr2⟩ := hr
  have hS := St.start w (fun _ => none) (fun _ _ h => by cases h)
  refine calls_start 48 [ruleV r, .int .i64 modes] Try.func86 rfl Try.ntmps86 rfl rfl ?_
  refine CW.seq fun K3 hK3 => ?_
  refine CW.region [0, 1] rfl ?_
  refine LW.hv rfl rfl rfl rfl (Hv.boxS hS rfl rfl) fun v w2 ⟨b2, hv, hb2, hS⟩ => ?_
  subst hv
  refine LW.ex rfl rfl rfl rfl (Ex.assign rfl) hS.rd ?_
  refine LW.nil fun aa ha => hK3 _ _ _ ?_ aa ha
  refine CW.seq fun K4 hK4 => ?_
  refine CW.region [0] rfl ?_
  refine LW.ex rfl rfl rfl rfl (Ex.assign rfl) hS.rd ?_
  refine LW.nil fun aa ha => hK4 _ _ _ ?_ aa ha
  refine CW.seq fun K5 hK5 => ?_
  refine CW.region [0, 1, 2, 3, 4, 5, 6, 7, 8, 9, 10, 11, 12, 13, 14, 15, 16, 17, 18, 19, 20, 21, 22, 23, 24, 25, 26, 27, 28, 29, 30, 31, 32, 33, 34, 35, 36, 37, 38, 39, 40, 41, 42] rfl ?_
  refine LW.ex rfl rfl rfl rfl (Ex.move rfl) hS.rd ?_
  refine LW.ex rfl rfl rfl rfl (Ex.fieldO 0 Try.underlying58 rfl rfl ti3 rfl) hS.rd ?_
  refine LW.ex rfl rfl rfl rfl (Ex.load1 ti3 rfl rfl (by first | exact obT rfl | exact Rd.imm ‹_› | exact slT ‹_›)) hS.rd ?_
  refine LW.ex rfl rfl rfl rfl (Ex.move rfl) hS.rd ?_
  refine LW.ex rfl rfl rfl rfl (Ex.sub rfl rfl (by first | exact dec64 (by omega) (by omega) | exact subN (by omega) (by omega) | exact w64 (by omega) (by omega))) hS.rd ?_
  refine LW.hv rfl rfl rfl rfl (Hv.callS hS rfl rfl rfl cb101 (in_c _ _ _)) fun v w11 ⟨hv, hS⟩ => ?_
  subst hv
  refine LW.splitB (fun h2_5 => ?_) (fun h2_5 => ?_)
  · skip
    refine LW.ex rfl rfl rfl rfl (Ex.move rfl) hS.rd ?_
    refine LW.ex rfl rfl rfl rfl (Ex.move rfl) hS.rd ?_
    refine LW.ex rfl rfl rfl rfl (Ex.fieldO 1 Try.underlying58 rfl rfl ti3 rfl) hS.rd ?_
    refine LW.ex rfl rfl rfl rfl (Ex.load1 ti3 rfl rfl (by first | exact obT rfl | exact Rd.imm ‹_› | exact slT ‹_›)) hS.rd ?_
    refine LW.ex rfl rfl rfl rfl (Ex.move rfl) hS.rd ?_
    refine LW.ex rfl rfl rfl rfl (Ex.sub rfl rfl (by first | exact dec64 (by omega) (by omega) | exact subN (by omega) (by omega) | exact w64 (by omega) (by omega))) hS.rd ?_
    refine LW.hv rfl rfl rfl rfl (Hv.callS hS rfl rfl rfl cb101 (in_c _ _ _)) fun v w18 ⟨hv, hS⟩ => ?_
    subst hv
    refine LW.splitB (fun h2_12 => ?_) (fun h2_12 => ?_)
    · skip
      refine LW.ex rfl rfl rfl rfl (by first | exact Ex.pick_yes rfl rfl | exact Ex.pick_no rfl rfl) hS.rd ?_
      refine LW.ex rfl rfl rfl rfl (Ex.move rfl) hS.rd ?_
      refine LW.ex rfl rfl rfl rfl (Ex.move rfl) hS.rd ?_
      refine LW.ex rfl rfl rfl rfl (Ex.fieldO 4 Try.underlying58 rfl rfl ti3 rfl) hS.rd ?_
      refine LW.ex rfl rfl rfl rfl (Ex.load1 ti3 rfl rfl (by first | exact obT rfl | exact Rd.imm ‹_› | exact slT ‹_›)) hS.rd ?_
      refine LW.hv rfl rfl rfl rfl (Hv.callS hS rfl rfl rfl cb101 (in_c _ _ _)) fun v w24 ⟨hv, hS⟩ => ?_
      subst hv
      refine LW.splitB (fun h2_18 => ?_) (fun h2_18 => ?_)
      · skip
        refine LW.ex rfl rfl rfl rfl (by first | exact Ex.pick_yes rfl rfl | exact Ex.pick_no rfl rfl) hS.rd ?_
        refine LW.ex rfl rfl rfl rfl (Ex.move rfl) hS.rd ?_
        refine LW.ex rfl rfl rfl rfl (Ex.fieldO 2 Try.underlying58 rfl rfl ti9 rfl) hS.rd ?_
        refine LW.ex rfl rfl rfl rfl (Ex.load1 ti9 rfl rfl (by first | exact obT rfl | exact Rd.imm ‹_› | exact slT ‹_›)) hS.rd ?_
        refine LW.ex rfl rfl rfl rfl (Ex.lenS rfl Try.underlying9 rfl) hS.rd ?_
        refine LW.ex rfl rfl rfl rfl (Ex.leq rfl rfl rfl) hS.rd ?_
        refine LW.splitB (fun h2_24 => ?_) (fun h2_24 => ?_)
        · have h2_24 := of_decide_eq_true h2_24
          refine LW.ex rfl rfl rfl rfl (by first | exact Ex.pick_yes rfl rfl | exact Ex.pick_no rfl rfl) hS.rd ?_
          refine LW.ex rfl rfl rfl rfl (Ex.move rfl) hS.rd ?_
          refine LW.ex rfl rfl rfl rfl (Ex.fieldO 2 Try.underlying58 rfl rfl ti9 rfl) hS.rd ?_
          refine LW.ex rfl rfl rfl rfl (Ex.load1 ti9 rfl rfl (by first | exact obT rfl | exact Rd.imm ‹_› | exact slT ‹_›)) hS.rd ?_
          refine LW.hv rfl rfl rfl rfl (Hv.callS hS rfl rfl rfl cb73 (all_c r.In 1 hr1 _)) fun v w35 ⟨hv, hS⟩ => ?_
          subst hv
          refine LW.splitB (fun h2_29 => ?_) (fun h2_29 => ?_)
          · skip
            refine LW.ex rfl rfl rfl rfl (by first | exact Ex.pick_yes rfl rfl | exact Ex.pick_no rfl rfl) hS.rd ?_
            refine LW.ex rfl rfl rfl rfl (Ex.move rfl) hS.rd ?_
            refine LW.ex rfl rfl rfl rfl (Ex.fieldO 3 Try.underlying58 rfl rfl ti9 rfl) hS.rd ?_
            refine LW.ex rfl rfl rfl rfl (Ex.load1 ti9 rfl rfl (by first | exact obT rfl | exact Rd.imm ‹_› | exact slT ‹_›)) hS.rd ?_
            refine LW.ex rfl rfl rfl rfl (Ex.lenS rfl Try.underlying9 rfl) hS.rd ?_
            refine LW.ex rfl rfl rfl rfl (Ex.leq rfl rfl rfl) hS.rd ?_
            refine LW.splitB (fun h2_35 => ?_) (fun h2_35 => ?_)
            · have h2_35 := of_decide_eq_true h2_35
              refine LW.ex rfl rfl rfl rfl (by first | exact Ex.pick_yes rfl rfl | exact Ex.pick_no rfl rfl) hS.rd ?_
              refine LW.ex rfl rfl rfl rfl (Ex.move rfl) hS.rd ?_
              refine LW.ex rfl rfl rfl rfl (Ex.fieldO 3 Try.underlying58 rfl rfl ti9 rfl) hS.rd ?_
              refine LW.ex rfl rfl rfl rfl (Ex.load1 ti9 rfl rfl (by first | exact obT rfl | exact Rd.imm ‹_› | exact slT ‹_›)) hS.rd ?_
              refine LW.hv rfl rfl rfl rfl (Hv.callS hS rfl rfl rfl cb73 (all_c r.Out 3 hr2 _)) fun v w46 ⟨hv, hS⟩ => ?_
              subst hv
              refine LW.ex rfl rfl rfl rfl (by first | exact Ex.pick_yes rfl rfl | exact Ex.pick_no rfl rfl) hS.rd ?_
              refine LW.ex rfl rfl rfl rfl (Ex.assign rfl) hS.rd ?_
              refine LW.nil fun aa ha => hK5 _ _ _ ?_ aa ha
              refine CW.ret fun aa ha => ?_
              refine ret_one ha Try.results86 rfl ?_
              refine hS.retB ?_
              unfold rightB
              first | (rw [h2_5, h2_12, h2_18, decide_eq_true h2_24, h2_29, decide_eq_true h2_35]; rfl) | (rw [h2_5, h2_12, h2_18, decide_eq_true h2_24, h2_29, decide_eq_false h2_35]; rfl) | (rw [h2_5, h2_12, h2_18, decide_eq_true h2_24, h2_29]; rfl) | (rw [h2_5, h2_12, h2_18, decide_eq_false h2_24]; rfl) | (rw [h2_5, h2_12, h2_18]; rfl) | (rw [h2_5, h2_12]; rfl) | (rw [h2_5]; rfl)
            · have h2_35 := of_decide_eq_false h2_35
              refine LW.ex rfl rfl rfl rfl (by first | exact Ex.pick_yes rfl rfl | exact Ex.pick_no rfl rfl) hS.rd ?_
              refine LW.ex rfl rfl rfl rfl (Ex.move rfl) hS.rd ?_
              refine LW.skip rfl rfl rfl rfl ?_
              refine LW.skip rfl rfl rfl rfl ?_
              refine LW.skip rfl rfl rfl rfl ?_
              refine LW.ex rfl rfl rfl rfl (by first | exact Ex.pick_yes rfl rfl | exact Ex.pick_no rfl rfl) hS.rd ?_
              refine LW.ex rfl rfl rfl rfl (Ex.assign rfl) hS.rd ?_
              refine LW.nil fun aa ha => hK5 _ _ _ ?_ aa ha
              refine CW.ret fun aa ha => ?_
              refine ret_one ha Try.results86 rfl ?_
              refine hS.retB ?_
              unfold rightB
              first | (rw [h2_5, h2_12, h2_18, decide_eq_true h2_24, h2_29, decide_eq_true h2_35]; rfl) | (rw [h2_5, h2_12, h2_18, decide_eq_true h2_24, h2_29, decide_eq_false h2_35]; rfl) | (rw [h2_5, h2_12, h2_18, decide_eq_true h2_24, h2_29]; rfl) | (rw [h2_5, h2_12, h2_18, decide_eq_false h2_24]; rfl) | (rw [h2_5, h2_12, h2_18]; rfl) | (rw [h2_5, h2_12]; rfl) | (rw [h2_5]; rfl)
          · skip
            refine LW.ex rfl rfl rfl rfl (by first | exact Ex.pick_yes rfl rfl | exact Ex.pick_no rfl rfl) hS.rd ?_
            refine LW.ex rfl rfl rfl rfl (Ex.move rfl) hS.rd ?_
            refine LW.skip rfl rfl rfl rfl ?_
            refine LW.skip rfl rfl rfl rfl ?_
            refine LW.skip rfl rfl rfl rfl ?_
            refine LW.skip rfl rfl rfl rfl ?_
            refine LW.ex rfl rfl rfl rfl (by first | exact Ex.pick_yes rfl rfl | exact Ex.pick_no rfl rfl) hS.rd ?_
            refine LW.ex rfl rfl rfl rfl (Ex.move rfl) hS.rd ?_
            refine LW.skip rfl rfl rfl rfl ?_
            refine LW.skip rfl rfl rfl rfl ?_
            refine LW.skip rfl rfl rfl rfl ?_
            refine LW.ex rfl rfl rfl rfl (by first | exact Ex.pick_yes rfl rfl | exact Ex.pick_no rfl rfl) hS.rd ?_
            refine LW.ex rfl rfl rfl rfl (Ex.assign rfl) hS.rd ?_
            refine LW.nil fun aa ha => hK5 _ _ _ ?_ aa ha
            refine CW.ret fun aa ha => ?_
            refine ret_one ha Try.results86 rfl ?_
            refine hS.retB ?_
            unfold rightB
            first | (rw [h2_5, h2_12, h2_18, decide_eq_true h2_24, h2_29, decide_eq_true h2_35]; rfl) | (rw [h2_5, h2_12, h2_18, decide_eq_true h2_24, h2_29, decide_eq_false h2_35]; rfl) | (rw [h2_5, h2_12, h2_18, decide_eq_true h2_24, h2_29]; rfl) | (rw [h2_5, h2_12, h2_18, decide_eq_false h2_24]; rfl) | (rw [h2_5, h2_12, h2_18]; rfl) | (rw [h2_5, h2_12]; rfl) | (rw [h2_5]; rfl)
        · have h2_24 := of_decide_eq_false h2_24
          refine LW.ex rfl rfl rfl rfl (by first | exact Ex.pick_yes rfl rfl | exact Ex.pick_no rfl rfl) hS.rd ?_
          refine LW.ex rfl rfl rfl rfl (Ex.move rfl) hS.rd ?_
          refine LW.skip rfl rfl rfl rfl ?_
          refine LW.skip rfl rfl rfl rfl ?_
          refine LW.skip rfl rfl rfl rfl ?_
          refine LW.ex rfl rfl rfl rfl (by first | exact Ex.pick_yes rfl rfl | exact Ex.pick_no rfl rfl) hS.rd ?_
          refine LW.ex rfl rfl rfl rfl (Ex.move rfl) hS.rd ?_
          refine LW.skip rfl rfl rfl rfl ?_
          refine LW.skip rfl rfl rfl rfl ?_
          refine LW.skip rfl rfl rfl rfl ?_
          refine LW.skip rfl rfl rfl rfl ?_
          refine LW.ex rfl rfl rfl rfl (by first | exact Ex.pick_yes rfl rfl | exact Ex.pick_no rfl rfl) hS.rd ?_
          refine LW.ex rfl rfl rfl rfl (Ex.move rfl) hS.rd ?_
          refine LW.skip rfl rfl rfl rfl ?_
          refine LW.skip rfl rfl rfl rfl ?_
          refine LW.skip rfl rfl rfl rfl ?_
          refine LW.ex rfl rfl rfl rfl (by first | exact Ex.pick_yes rfl rfl | exact Ex.pick_no rfl rfl) hS.rd ?_
          refine LW.ex rfl rfl rfl rfl (Ex.assign rfl) hS.rd ?_
          refine LW.nil fun aa ha => hK5 _ _ _ ?_ aa ha
          refine CW.ret fun aa ha => ?_
          refine ret_one ha Try.results86 rfl ?_
          refine hS.retB ?_
          unfold rightB
          first | (rw [h2_5, h2_12, h2_18, decide_eq_true h2_24, h2_29, decide_eq_true h2_35]; rfl) | (rw [h2_5, h2_12, h2_18, decide_eq_true h2_24, h2_29, decide_eq_false h2_35]; rfl) | (rw [h2_5, h2_12, h2_18, decide_eq_true h2_24, h2_29]; rfl) | (rw [h2_5, h2_12, h2_18, decide_eq_false h2_24]; rfl) | (rw [h2_5, h2_12, h2_18]; rfl) | (rw [h2_5, h2_12]; rfl) | (rw [h2_5]; rfl)
      · skip
        refine LW.ex rfl rfl rfl rfl (by first | exact Ex.pick_yes rfl rfl | exact Ex.pick_no rfl rfl) hS.rd ?_
        refine LW.ex rfl rfl rfl rfl (Ex.move rfl) hS.rd ?_
        refine LW.skip rfl rfl rfl rfl ?_
        refine LW.skip rfl rfl rfl rfl ?_
        refine LW.skip rfl rfl rfl rfl ?_
        refine LW.skip rfl rfl rfl rfl ?_
        refine LW.ex rfl rfl rfl rfl (by first | exact Ex.pick_yes rfl rfl | exact Ex.pick_no rfl rfl) hS.rd ?_
        refine LW.ex rfl rfl rfl rfl (Ex.move rfl) hS.rd ?_
        refine LW.skip rfl rfl rfl rfl ?_
        refine LW.skip rfl rfl rfl rfl ?_
        refine LW.skip rfl rfl rfl rfl ?_
        refine LW.ex rfl rfl rfl rfl (by first | exact Ex.pick_yes rfl rfl | exact Ex.pick_no rfl rfl) hS.rd ?_
        refine LW.ex rfl rfl rfl rfl (Ex.move rfl) hS.rd ?_
        refine LW.skip rfl rfl rfl rfl ?_
        refine LW.skip rfl rfl rfl rfl ?_
        refine LW.skip rfl rfl rfl rfl ?_
        refine LW.skip rfl rfl rfl rfl ?_
        refine LW.ex rfl rfl rfl rfl (by first | exact Ex.pick_yes rfl rfl | exact Ex.pick_no rfl rfl) hS.rd ?_
        refine LW.ex rfl rfl rfl rfl (Ex.move rfl) hS.rd ?_
        refine LW.skip rfl rfl rfl rfl ?_
        refine LW.skip rfl rfl rfl rfl ?_
        refine LW.skip rfl rfl rfl rfl ?_
        refine LW.ex rfl rfl rfl rfl (by first | exact Ex.pick_yes rfl rfl | exact Ex.pick_no rfl rfl) hS.rd ?_
        refine LW.ex rfl rfl rfl rfl (Ex.assign rfl) hS.rd ?_
        refine LW.nil fun aa ha => hK5 _ _ _ ?_ aa ha
        refine CW.ret fun aa ha => ?_
        refine ret_one ha Try.results86 rfl ?_
        refine hS.retB ?_
        unfold rightB
        first | (rw [h2_5, h2_12, h2_18, decide_eq_true h2_24, h2_29, decide_eq_true h2_35]; rfl) | (rw [h2_5, h2_12, h2_18, decide_eq_true h2_24, h2_29, decide_eq_false h2_35]; rfl) | (rw [h2_5, h2_12, h2_18, decide_eq_true h2_24, h2_29]; rfl) | (rw [h2_5, h2_12, h2_18, decide_eq_false h2_24]; rfl) | (rw [h2_5, h2_12, h2_18]; rfl) | (rw [h2_5, h2_12]; rfl) | (rw [h2_5]; rfl)
    · skip
      refine LW.ex rfl rfl rfl rfl (by first | exact Ex.pick_yes rfl rfl | exact Ex.pick_no rfl rfl) hS.rd ?_
      refine LW.ex rfl rfl rfl rfl (Ex.move rfl) hS.rd ?_
      refine LW.skip rfl rfl rfl rfl ?_
      refine LW.skip rfl rfl rfl rfl ?_
      refine LW.skip rfl rfl rfl rfl ?_
      refine LW.skip rfl rfl rfl rfl ?_
      refine LW.ex rfl rfl rfl rfl (by first | exact Ex.pick_yes rfl rfl | exact Ex.pick_no rfl rfl) hS.rd ?_
      refine LW.ex rfl rfl rfl rfl (Ex.move rfl) hS.rd ?_
      refine LW.skip rfl rfl rfl rfl ?_
      refine LW.skip rfl rfl rfl rfl ?_
      refine LW.skip rfl rfl rfl rfl ?_
      refine LW.skip rfl rfl rfl rfl ?_
      refine LW.ex rfl rfl rfl rfl (by first | exact Ex.pick_yes rfl rfl | exact Ex.pick_no rfl rfl) hS.rd ?_
      refine LW.ex rfl rfl rfl rfl (Ex.move rfl) hS.rd ?_
      refine LW.skip rfl rfl rfl rfl ?_
      refine LW.skip rfl rfl rfl rfl ?_
      refine LW.skip rfl rfl rfl rfl ?_
      refine LW.ex rfl rfl rfl rfl (by first | exact Ex.pick_yes rfl rfl | exact Ex.pick_no rfl rfl) hS.rd ?_
      refine LW.ex rfl rfl rfl rfl (Ex.move rfl) hS.rd ?_
      refine LW.skip rfl rfl rfl rfl ?_
      refine LW.skip rfl rfl rfl rfl ?_
      refine LW.skip rfl rfl rfl rfl ?_
      refine LW.skip rfl rfl rfl rfl ?_
      refine LW.ex rfl rfl rfl rfl (by first | exact Ex.pick_yes rfl rfl | exact Ex.pick_no rfl rfl) hS.rd ?_
      refine LW.ex rfl rfl rfl rfl (Ex.move rfl) hS.rd ?_
      refine LW.skip rfl rfl rfl rfl ?_
      refine LW.skip rfl rfl rfl rfl ?_
      refine LW.skip rfl rfl rfl rfl ?_
      refine LW.ex rfl rfl rfl rfl (by first | exact Ex.pick_yes rfl rfl | exact Ex.pick_no rfl rfl) hS.rd ?_
      refine LW.ex rfl rfl rfl rfl (Ex.assign rfl) hS.rd ?_
      refine LW.nil fun aa ha => hK5 _ _ _ ?_ aa ha
      refine CW.ret fun aa ha => ?_
      refine ret_one ha Try.results86 rfl ?_
      refine hS.retB ?_
      unfold rightB
      first | (rw [h2_5, h2_12, h2_18, decide_eq_true h2_24, h2_29, decide_eq_true h2_35]; rfl) | (rw [h2_5, h2_12, h2_18, decide_eq_true h2_24, h2_29, decide_eq_false h2_35]; rfl) | (rw [h2_5, h2_12, h2_18, decide_eq_true h2_24, h2_29]; rfl) | (rw [h2_5, h2_12, h2_18, decide_eq_false h2_24]; rfl) | (rw [h2_5, h2_12, h2_18]; rfl) | (rw [h2_5, h2_12]; rfl) | (rw [h2_5]; rfl)
  · skip
    refine LW.ex rfl rfl rfl rfl (Ex.move rfl) hS.rd ?_
    refine LW.skip rfl rfl rfl rfl ?_
    refine LW.skip rfl rfl rfl rfl ?_
    refine LW.skip rfl rfl rfl rfl ?_
    refine LW.skip rfl rfl rfl rfl ?_
    refine LW.skip rfl rfl rfl rfl ?_
    refine LW.skip rfl rfl rfl rfl ?_
    refine LW.ex rfl rfl rfl rfl (by first | exact Ex.pick_yes rfl rfl | exact Ex.pick_no rfl rfl) hS.rd ?_
    refine LW.ex rfl rfl rfl rfl (Ex.move rfl) hS.rd ?_
    refine LW.skip rfl rfl rfl rfl ?_
    refine LW.skip rfl rfl rfl rfl ?_
    refine LW.skip rfl rfl rfl rfl ?_
    refine LW.skip rfl rfl rfl rfl ?_
    refine LW.ex rfl rfl rfl rfl (by first | exact Ex.pick_yes rfl rfl | exact Ex.pick_no rfl rfl) hS.rd ?_
    refine LW.ex rfl rfl rfl rfl (Ex.move rfl) hS.rd ?_
    refine LW.skip rfl rfl rfl rfl ?_
    refine LW.skip rfl rfl rfl rfl ?_
    refine LW.skip rfl rfl rfl rfl ?_
    refine LW.skip rfl rfl rfl rfl ?_
    refine LW.ex rfl rfl rfl rfl (by first | exact Ex.pick_yes rfl rfl | exact Ex.pick_no rfl rfl) hS.rd ?_
    refine LW.ex rfl rfl rfl rfl (Ex.move rfl) hS.rd ?_
    refine LW.skip rfl rfl rfl rfl ?_
    refine LW.skip rfl rfl rfl rfl ?_
    refine LW.skip rfl rfl rfl rfl ?_
    refine LW.ex rfl rfl rfl rfl (by first | exact Ex.pick_yes rfl rfl | exact Ex.pick_no rfl rfl) hS.rd ?_
    refine LW.ex rfl rfl rfl rfl (Ex.move rfl) hS.rd ?_
    refine LW.skip rfl rfl rfl rfl ?_
    refine LW.skip rfl rfl rfl rfl ?_
    refine LW.skip rfl rfl rfl rfl ?_
    refine LW.skip rfl rfl rfl rfl ?_
    refine LW.ex rfl rfl rfl rfl (by first | exact Ex.pick_yes rfl rfl | exact Ex.pick_no rfl rfl) hS.rd ?_
    refine LW.ex rfl rfl rfl rfl (Ex.move rfl) hS.rd ?_
    refine LW.skip rfl rfl rfl rfl ?_
    refine LW.skip rfl rfl rfl rfl ?_
    refine LW.skip rfl rfl rfl rfl ?_
    refine LW.ex rfl rfl rfl rfl (by first | exact Ex.pick_yes rfl rfl | exact Ex.pick_no rfl rfl) hS.rd ?_
    refine LW.ex rfl rfl rfl rfl (Ex.assign rfl) hS.rd ?_
    refine LW.nil fun aa ha => hK5 _ _ _ ?_ aa ha
    refine CW.ret fun aa ha => ?_
    refine ret_one ha Try.results86 rfl ?_
    refine hS.retB ?_
    unfold rightB
    first | (rw [h2_5, h2_12, h2_18, decide_eq_true h2_24, h2_29, decide_eq_true h2_35]; rfl) | (rw [h2_5, h2_12, h2_18, decide_eq_true h2_24, h2_29, decide_eq_false h2_35]; rfl) | (rw [h2_5, h2_12, h2_18, decide_eq_true h2_24, h2_29]; rfl) | (rw [h2_5, h2_12, h2_18, decide_eq_false h2_24]; rfl) | (rw [h2_5, h2_12, h2_18]; rfl) | (rw [h2_5, h2_12]; rfl) | (rw [h2_5]; rfl)

/-! ### Lists of rules -/
set_option maxRecDepth 100000 in
theorem ruleEq (a b : Rule) (w : World) : (Op.equal 58 (ruleV a) (ruleV b)).run Try.prog w = .ok (decide (a = b)) w := by
  have h := eqStruct (P := Try.prog) (xs := #[.int .i64 a.From, .int .i64 a.To, .string a.In, .string a.Out, .int .i64 a.Cost]) (ys := #[.int .i64 b.From, .int .i64 b.To, .string b.In, .string b.Out, .int .i64 b.Cost]) Try.underlying58 (by kernel_rfl) (eqF_int rfl ti3 rfl rfl (eqF_int rfl ti3 rfl rfl (eqF_string rfl ti9 rfl rfl (eqF_string rfl ti9 rfl rfl (eqF_int rfl ti3 rfl rfl eqF_nil))))) w
  rw [h]; congr 1
  obtain ⟨a1, a2, a3, a4, a5⟩ := a
  obtain ⟨c1, c2, c3, c4, c5⟩ := b
  rw [beqS, beqS, Bool.eq_iff_iff]; simp
theorem idx_c (l : List Rule) (r : Rule) (ad : Option Addr) (c : Nat) (μ : Mem) (w : World) (hμ : Imm μ w) (hl : Sl μ ad c l) :
    Calls Try.prog 102 #[.slice ad l.length c, ruleV r] w (RetS w (.int .i64 (firstR r l))) := by
  have hcl := hl.1
  have hcm := hl.2.1
  simp only [maxLen] at hcm
  have hS := St.start w μ hμ
  refine calls_start 19 [.slice ad l.length c, ruleV r] Try.func102 rfl Try.ntmps102 rfl rfl ?_
  refine CW.seq fun K6 hK6 => ?_
  refine CW.region [0, 1] rfl ?_
  refine LW.hv rfl rfl rfl rfl (Hv.boxS hS rfl rfl) fun v w3 ⟨b3, hv, hb3, hS⟩ => ?_
  subst hv
  refine LW.ex rfl rfl rfl rfl (Ex.assign rfl) hS.rd ?_
  refine LW.nil fun aa ha => hK6 _ _ _ ?_ aa ha
  refine CW.seq fun K7 hK7 => ?_
  refine CW.seq fun K8 hK8 => ?_
  refine CW.region [0, 1, 2] rfl ?_
  refine LW.ex rfl rfl rfl rfl (Ex.move rfl) hS.rd ?_
  refine LW.ex rfl rfl rfl rfl (Ex.lenSl rfl Try.underlying27 rfl) hS.rd ?_
  refine LW.ex rfl rfl rfl rfl (Ex.move rfl) hS.rd ?_
  refine LW.nil fun aa ha => hK8 _ _ _ ?_ aa ha
  refine CW.block ?_
  refine CW.loop (fun qq frm wl2 => ∃ (i : Nat), i ≤ l.length ∧ qq = l.length - i ∧ frm = [(0, .slice ad l.length c), (3, .pointer (some ⟨b3, 0, none⟩)), (7, .int .i64 l.length), (8, .int .i64 i)] ∧ St w wl2 μ [Own.obj b3 (ruleL r) 58] ∧ (r ∉ l.take i)) _ ⟨0, (by first | omega | (simp; done) | (simp; omega)), rfl, rfl, hS, by simp⟩ ⟨rfl, rfl, rfl, rfl, trivial⟩ ?_
  clear hS
  rintro qq frm wl2 ⟨i, hi, hq, rfl, hS, hn⟩
  refine CW.seq fun K9 hK9 => ?_
  refine CW.region [0] rfl ?_
  refine LW.ex rfl rfl rfl rfl (Ex.lss rfl rfl rfl) hS.rd ?_
  refine LW.splitB (fun h2_0 => ?_) (fun h2_0 => ?_)
  · have h2_0 := of_decide_eq_true h2_0
    refine LW.nil fun aa ha => hK9 _ _ _ ?_ aa ha
    refine CW.seq fun K10 hK10 => ?_
    refine CW.yes rfl ?_
    refine CW.skip fun aa ha => hK10 _ _ _ ?_ aa ha
    refine CW.seq fun K11 hK11 => ?_
    refine CW.block ?_
    refine CW.seq fun K12 hK12 => ?_
    refine CW.region [0, 1] rfl ?_
    refine LW.ex rfl rfl rfl rfl (Ex.move rfl) hS.rd ?_
    refine LW.ex rfl rfl rfl rfl (Ex.assign rfl) hS.rd ?_
    refine LW.nil fun aa ha => hK12 _ _ _ ?_ aa ha
    refine CW.seq fun K13 hK13 => ?_
    have hi2 : i < l.length := by omega
    obtain ⟨bl', ol, rfl, k0, k1, k2, k3, k4⟩ := hl.at hi2
    have hS := hS.drew
    refine CW.draw 6 (.ex 0 <| .ex 1 <| .ex 2 <| .ex 3 <| .ex 4 <| .ex 5 <| .done) [] (Rd _ _) mixed (by kernel_rfl) rfl rfl hS.rd ?_
    refine PW.ex rfl rfl rfl rfl (Ex.load5c ti58 rfl rfl (by first | exact obT rfl | exact Rd.imm ‹_› | exact slT ‹_›) (by first | exact obT rfl | exact Rd.imm ‹_› | exact slT ‹_›) (by first | exact obT rfl | exact Rd.imm ‹_› | exact slT ‹_›) (by first | exact obT rfl | exact Rd.imm ‹_› | exact slT ‹_›) (by first | exact obT rfl | exact Rd.imm ‹_› | exact slT ‹_›)) ?_
    refine PW.ex rfl rfl rfl rfl (Ex.move rfl) ?_
    refine PW.ex rfl rfl rfl rfl (Ex.move rfl) ?_
    refine PW.ex rfl rfl rfl rfl (Ex.indexSl Try.underlying27 ti58 rfl rfl rfl (by omega)) ?_
    refine PW.ex rfl rfl rfl rfl (Ex.load5c ti58 rfl rfl (by first | exact obT rfl | exact Rd.imm ‹_› | exact slT ‹_›) (by first | exact obT rfl | exact Rd.imm ‹_› | exact slT ‹_›) (by first | exact obT rfl | exact Rd.imm ‹_› | exact slT ‹_›) (by first | exact obT rfl | exact Rd.imm ‹_› | exact slT ‹_›) (by first | exact obT rfl | exact Rd.imm ‹_› | exact slT ‹_›)) ?_
    refine PW.ex rfl rfl rfl rfl (Ex.eqlSt (by kernel_rfl) rfl rfl (ruleEq r l[i])) ?_
    refine PW.splitB (fun h4_5 => ?_) (fun h4_5 => ?_)
    · have h4_5 := of_decide_eq_true h4_5
      refine PW.nil ?_
      refine LW.nil fun aa ha => hK13 _ _ _ ?_ aa ha
      refine CW.yes rfl ?_
      refine CW.seq fun K14 hK14 => ?_
      refine CW.region [0, 1] rfl ?_
      refine LW.ex rfl rfl rfl rfl (Ex.move rfl) hS.rd ?_
      refine LW.ex rfl rfl rfl rfl (Ex.assign rfl) hS.rd ?_
      refine LW.nil fun aa ha => hK14 _ _ _ ?_ aa ha
      refine CW.ret fun aa ha => ?_
      refine ret_one ha Try.results102 rfl ?_
      exact hS.retI (firstR_at hi2 hn h4_5)
    · have h4_5 := of_decide_eq_false h4_5
      refine PW.nil ?_
      refine LW.nil fun aa ha => hK13 _ _ _ ?_ aa ha
      refine CW.no rfl ?_
      refine CW.skip fun aa ha => hK11 _ _ _ ?_ aa ha
      refine CW.region [0, 1] rfl ?_
      refine LW.ex rfl rfl rfl rfl (Ex.add rfl rfl (by first | exact inc64 (by omega) | exact addN (by omega) | exact w64 (by omega) (by omega))) hS.rd ?_
      refine LW.ex rfl rfl rfl rfl (Ex.move rfl) hS.rd ?_
      refine LW.nil fun aa ha => ?_
      refine ⟨_, _, ?m2, ⟨i + 1, (by first | omega | (simp; done) | (simp; omega)), rfl, rfl, hS, by rw [List.take_succ_eq_append_getElem hi2, List.mem_append, List.mem_singleton]; exact fun h => h.elim hn h4_5⟩, ha.sub ⟨rfl, rfl, rfl, rfl, trivial⟩⟩
      case m2 => omega
  · have h2_0 := of_decide_eq_false h2_0
    refine LW.nil fun aa ha => hK9 _ _ _ ?_ aa ha
    refine CW.seq fun K15 hK15 => ?_
    refine CW.no rfl ?_
    refine CW.exit fun aa ha => hK7 _ _ _ ?_ aa ha
    refine CW.seq fun K16 hK16 => ?_
    refine CW.region [0] rfl ?_
    refine LW.ex rfl rfl rfl rfl (Ex.assign rfl) hS.rd ?_
    refine LW.nil fun aa ha => hK16 _ _ _ ?_ aa ha
    refine CW.ret fun aa ha => ?_
    refine ret_one ha Try.results102 rfl ?_
    rw [List.take_of_length_le (by omega)] at hn
    exact hS.retI (firstR_none hn)
theorem has_c (l : List Rule) (r : Rule) (ad : Option Addr) (c : Nat) (μ : Mem) (w : World) (hμ : Imm μ w) (hl : Sl μ ad c l) :
    Calls Try.prog 87 #[.slice ad l.length c, ruleV r] w (RetS w (.bool (decide (r ∈ l)))) := by
  have hS := St.start w μ hμ
  refine calls_start 9 [.slice ad l.length c, ruleV r] Try.func87 rfl Try.ntmps87 rfl rfl ?_
  refine CW.seq fun K17 hK17 => ?_
  refine CW.region [0, 1] rfl ?_
  refine LW.hv rfl rfl rfl rfl (Hv.boxS hS rfl rfl) fun v w3 ⟨b3, hv, hb3, hS⟩ => ?_
  subst hv
  refine LW.ex rfl rfl rfl rfl (Ex.assign rfl) hS.rd ?_
  refine LW.nil fun aa ha => hK17 _ _ _ ?_ aa ha
  refine CW.seq fun K18 hK18 => ?_
  refine CW.region [0, 1, 2, 3, 4] rfl ?_
  refine LW.ex rfl rfl rfl rfl (Ex.move rfl) hS.rd ?_
  refine LW.ex rfl rfl rfl rfl (Ex.load5c ti58 rfl rfl (by first | exact obT rfl | exact Rd.imm ‹_› | exact slT ‹_›) (by first | exact obT rfl | exact Rd.imm ‹_› | exact slT ‹_›) (by first | exact obT rfl | exact Rd.imm ‹_› | exact slT ‹_›) (by first | exact obT rfl | exact Rd.imm ‹_› | exact slT ‹_›) (by first | exact obT rfl | exact Rd.imm ‹_› | exact slT ‹_›)) hS.rd ?_
  refine LW.hv rfl rfl rfl rfl (Hv.callS hS rfl rfl rfl cb102 (idx_c l r _ _ μ _ hS.imm hl)) fun v w7 ⟨hv, hS⟩ => ?_
  subst hv
  refine LW.ex rfl rfl rfl rfl (Ex.geq rfl rfl (by first | exact decide_eq_true (by omega) | exact decide_eq_false (by omega) | rfl)) hS.rd ?_
  refine LW.ex rfl rfl rfl rfl (Ex.assign rfl) hS.rd ?_
  refine LW.nil fun aa ha => hK18 _ _ _ ?_ aa ha
  refine CW.ret fun aa ha => ?_
  refine ret_one ha Try.results87 rfl ?_
  exact hS.retB (firstR_ge r l)
theorem has_n (l : List Rule) (n : Nat) (hn : n = l.length) (r : Rule) (ad : Option Addr) (c : Nat) (μ : Mem) (w : World) (hμ : Imm μ w) (hl : Sl μ ad c l) :
    Calls Try.prog 87 #[.slice ad n c, ruleV r] w (RetS w (.bool (decide (r ∈ l)))) := by
  subst hn; exact has_c l r ad c μ w hμ hl
end Go.Proofs.Ytgbdfgifgngijaa

/-
  Output: valid schemes: in plain Lean, and the walks of scheme.Check and scheme.Valid.
-/
namespace Go.Proofs.Ytgbdfgifgngijaa
open Go.RowKit Sy

structure SchOk (s : Sch) : Prop where
  m1 : 1 ≤ s.Modes
  m2 : s.Modes ≤ 8
  a0 : s.Accept.toNat ≠ 0
  a1 : (s.Accept.toNat : Int) < 2 ^ s.Modes.toNat
  rl : s.Rules.length ≤ 64
  ru : ∀ i (h : i < s.Rules.length), rightB s.Rules[i] s.Modes = true ∧ s.Rules[i] ∉ s.Rules.take i
noncomputable def okS (s : Sch) : Bool := @decide (SchOk s) (Classical.propDecidable _)
theorem okS_iff {s : Sch} : okS s = true ↔ SchOk s := by unfold okS; exact @decide_eq_true_iff _ (Classical.propDecidable _)
theorem okS_yes {s : Sch} (h : SchOk s) : okS s = true := okS_iff.2 h
theorem okS_no {s : Sch} (h : ¬ SchOk s) : okS s = false := by
  cases e : okS s with
  | false => rfl
  | true => exact absurd (okS_iff.1 e) h
def SSmall (s : Sch) : Prop := ∀ r ∈ s.Rules, RSmall r
theorem pow8 {m : Int} (h1 : 1 ≤ m) (h2 : m ≤ 8) : (2 : Int) ≤ 2 ^ m.toNat ∧ (2 : Int) ^ m.toNat ≤ 256 := by
  have : m = 1 ∨ m = 2 ∨ m = 3 ∨ m = 4 ∨ m = 5 ∨ m = 6 ∨ m = 7 ∨ m = 8 := by omega
  rcases this with rfl | rfl | rfl | rfl | rfl | rfl | rfl | rfl <;> decide
noncomputable def errS (s : Sch) : Int := if okS s = true then 0 else 20
theorem errS_no {s : Sch} (h : ¬ SchOk s) : errS s = 20 := by unfold errS; rw [okS_no h]; rfl
theorem errS_yes {s : Sch} (h : SchOk s) : errS s = 0 := by unfold errS; rw [okS_yes h]; rfl
def IsChk (s : Sch) (_ : Mem) (v : Value) : Prop := ∃ n : Int, v = .tuple #[.int .i64 n, .int .i64 (errS s)]
set_option maxRecDepth 100000 in
theorem check_c (s : Sch) (hs : SSmall s) (a0 : Option Addr) (c0 : Nat) (μ : Mem) (w : World) (hμ : Imm μ w) (h0 : Sl μ a0 c0 s.Rules) :
    Calls Try.prog 69 #[.agg #[.int .i64 s.Modes, .int .u8 s.Accept.toNat, .slice a0 s.Rules.length c0]] w (RetV w μ (IsChk s)) := by
  have hac := s.Accept.toNat_lt
  have hcl := h0.1
  have hcm := h0.2.1
  simp only [maxLen] at hcm
  have hS := St.start w μ hμ
  refine calls_start 60 [.agg #[.int .i64 s.Modes, .int .u8 s.Accept.toNat, .slice a0 s.Rules.length c0]] Try.func69 rfl Try.ntmps69 rfl rfl ?_
  refine CW.seq fun K1 hK1 => ?_
  refine CW.region [0, 1, 2] rfl ?_
  refine LW.hv rfl rfl rfl rfl (Hv.boxS hS rfl rfl) fun v w1 ⟨b1, hv, hb1, hS⟩ => ?_
  subst hv
  refine LW.ex rfl rfl rfl rfl (Ex.assign rfl) hS.rd ?_
  refine LW.ex rfl rfl rfl rfl (Ex.assign rfl) hS.rd ?_
  refine LW.nil fun aa ha => hK1 _ _ _ ?_ aa ha
  refine CW.seq fun K2 hK2 => ?_
  refine CW.seq fun K3 hK3 => ?_
  have hS := hS.drew
  refine CW.draw 28 (.ex 0 <| .ex 1 <| .ex 2 <| .ex 3 <| .ex 4 <| .ex 5 <| .ex 6 <| .ex 7 <| .ex 8 <| .ex 9 <| .ex 10 <| .ex 11 <| .ex 12 <| .ex 13 <| .ex 14 <| .ex 15 <| .ex 16 <| .ex 17 <| .ex 18 <| .ex 19 <| .ex 20 <| .ex 21 <| .ex 22 <| .ex 23 <| .ex 24 <| .ex 25 <| .ex 26 <| .ex 27 <| .done) [] (Rd _ _) mixed (by kernel_rfl) rfl rfl hS.rd ?_
  refine PW.ex rfl rfl rfl rfl (Ex.fieldO 0 Try.underlying29 rfl rfl ti3 rfl) ?_
  refine PW.ex rfl rfl rfl rfl (Ex.load1 ti3 rfl rfl (by first | exact obT rfl | exact Rd.imm ‹_› | exact slT ‹_›)) ?_
  refine PW.ex rfl rfl rfl rfl (Ex.lss rfl rfl rfl) ?_
  refine PW.splitB (fun h1_2 => ?_) (fun h1_2 => ?_)
  · have h1_2 := of_decide_eq_true h1_2
    refine PW.ex rfl rfl rfl rfl (Ex.move rfl) ?_
    refine PW.skip rfl rfl rfl rfl ?_
    refine PW.skip rfl rfl rfl rfl ?_
    refine PW.skip rfl rfl rfl rfl ?_
    refine PW.ex rfl rfl rfl rfl (by first | exact Ex.pick_yes rfl rfl | exact Ex.pick_no rfl rfl) ?_
    refine PW.ex rfl rfl rfl rfl (Ex.move rfl) ?_
    refine PW.skip rfl rfl rfl rfl ?_
    refine PW.skip rfl rfl rfl rfl ?_
    refine PW.skip rfl rfl rfl rfl ?_
    refine PW.ex rfl rfl rfl rfl (by first | exact Ex.pick_yes rfl rfl | exact Ex.pick_no rfl rfl) ?_
    refine PW.ex rfl rfl rfl rfl (Ex.move rfl) ?_
    refine PW.skip rfl rfl rfl rfl ?_
    refine PW.skip rfl rfl rfl rfl ?_
    refine PW.skip rfl rfl rfl rfl ?_
    refine PW.skip rfl rfl rfl rfl ?_
    refine PW.skip rfl rfl rfl rfl ?_
    refine PW.skip rfl rfl rfl rfl ?_
    refine PW.skip rfl rfl rfl rfl ?_
    refine PW.ex rfl rfl rfl rfl (by first | exact Ex.pick_yes rfl rfl | exact Ex.pick_no rfl rfl) ?_
    refine PW.ex rfl rfl rfl rfl (Ex.move rfl) ?_
    refine PW.skip rfl rfl rfl rfl ?_
    refine PW.skip rfl rfl rfl rfl ?_
    refine PW.skip rfl rfl rfl rfl ?_
    refine PW.skip rfl rfl rfl rfl ?_
    refine PW.ex rfl rfl rfl rfl (by first | exact Ex.pick_yes rfl rfl | exact Ex.pick_no rfl rfl) ?_
    refine PW.nil ?_
    refine LW.nil fun aa ha => hK3 _ _ _ ?_ aa ha
    refine CW.yes rfl ?_
    refine CW.seq fun K4 hK4 => ?_
    refine CW.region [0, 1] rfl ?_
    refine LW.ex rfl rfl rfl rfl (Ex.assign rfl) hS.rd ?_
    refine LW.ex rfl rfl rfl rfl (Ex.assign rfl) hS.rd ?_
    refine LW.nil fun aa ha => hK4 _ _ _ ?_ aa ha
    refine CW.ret fun aa ha => ?_
    refine ret_two ha Try.results69 rfl rfl ?_
    have hno : ¬ SchOk s := fun h => by
      have := h.m1; have := h.m2; have := h.a0; have := h.a1; have := h.rl
      omega
    exact ⟨_, μ, rfl, hS.below, Mem.ext.refl _ _, hS.imm, -1, by rw [errS_no hno]⟩
  · have h1_2 := of_decide_eq_false h1_2
    refine PW.ex rfl rfl rfl rfl (Ex.move rfl) ?_
    refine PW.ex rfl rfl rfl rfl (Ex.fieldO 0 Try.underlying29 rfl rfl ti3 rfl) ?_
    refine PW.ex rfl rfl rfl rfl (Ex.load1 ti3 rfl rfl (by first | exact obT rfl | exact Rd.imm ‹_› | exact slT ‹_›)) ?_
    refine PW.ex rfl rfl rfl rfl (Ex.gtr rfl rfl rfl) ?_
    refine PW.splitB (fun h1_6 => ?_) (fun h1_6 => ?_)
    · have h1_6 := of_decide_eq_true h1_6
      refine PW.ex rfl rfl rfl rfl (by first | exact Ex.pick_yes rfl rfl | exact Ex.pick_no rfl rfl) ?_
      refine PW.ex rfl rfl rfl rfl (Ex.move rfl) ?_
      refine PW.skip rfl rfl rfl rfl ?_
      refine PW.skip rfl rfl rfl rfl ?_
      refine PW.skip rfl rfl rfl rfl ?_
      refine PW.ex rfl rfl rfl rfl (by first | exact Ex.pick_yes rfl rfl | exact Ex.pick_no rfl rfl) ?_
      refine PW.ex rfl rfl rfl rfl (Ex.move rfl) ?_
      refine PW.skip rfl rfl rfl rfl ?_
      refine PW.skip rfl rfl rfl rfl ?_
      refine PW.skip rfl rfl rfl rfl ?_
      refine PW.skip rfl rfl rfl rfl ?_
      refine PW.skip rfl rfl rfl rfl ?_
      refine PW.skip rfl rfl rfl rfl ?_
      refine PW.skip rfl rfl rfl rfl ?_
      refine PW.ex rfl rfl rfl rfl (by first | exact Ex.pick_yes rfl rfl | exact Ex.pick_no rfl rfl) ?_
      refine PW.ex rfl rfl rfl rfl (Ex.move rfl) ?_
      refine PW.skip rfl rfl rfl rfl ?_
      refine PW.skip rfl rfl rfl rfl ?_
      refine PW.skip rfl rfl rfl rfl ?_
      refine PW.skip rfl rfl rfl rfl ?_
      refine PW.ex rfl rfl rfl rfl (by first | exact Ex.pick_yes rfl rfl | exact Ex.pick_no rfl rfl) ?_
      refine PW.nil ?_
      refine LW.nil fun aa ha => hK3 _ _ _ ?_ aa ha
      refine CW.yes rfl ?_
      refine CW.seq fun K5 hK5 => ?_
      refine CW.region [0, 1] rfl ?_
      refine LW.ex rfl rfl rfl rfl (Ex.assign rfl) hS.rd ?_
      refine LW.ex rfl rfl rfl rfl (Ex.assign rfl) hS.rd ?_
      refine LW.nil fun aa ha => hK5 _ _ _ ?_ aa ha
      refine CW.ret fun aa ha => ?_
      refine ret_two ha Try.results69 rfl rfl ?_
      have hno : ¬ SchOk s := fun h => by
        have := h.m1; have := h.m2; have := h.a0; have := h.a1; have := h.rl
        omega
      exact ⟨_, μ, rfl, hS.below, Mem.ext.refl _ _, hS.imm, -1, by rw [errS_no hno]⟩
    · have h1_6 := of_decide_eq_false h1_6
      refine PW.ex rfl rfl rfl rfl (by first | exact Ex.pick_yes rfl rfl | exact Ex.pick_no rfl rfl) ?_
      refine PW.ex rfl rfl rfl rfl (Ex.move rfl) ?_
      refine PW.ex rfl rfl rfl rfl (Ex.fieldO 1 Try.underlying29 rfl rfl ti5 rfl) ?_
      refine PW.ex rfl rfl rfl rfl (Ex.load1 ti5 rfl rfl (by first | exact obT rfl | exact Rd.imm ‹_› | exact slT ‹_›)) ?_
      refine PW.ex rfl rfl rfl rfl (Ex.eql rfl rfl rfl) ?_
      refine PW.splitB (fun h1_11 => ?_) (fun h1_11 => ?_)
      · have h1_11 := of_decide_eq_true h1_11
        refine PW.ex rfl rfl rfl rfl (by first | exact Ex.pick_yes rfl rfl | exact Ex.pick_no rfl rfl) ?_
        refine PW.ex rfl rfl rfl rfl (Ex.move rfl) ?_
        refine PW.skip rfl rfl rfl rfl ?_
        refine PW.skip rfl rfl rfl rfl ?_
        refine PW.skip rfl rfl rfl rfl ?_
        refine PW.skip rfl rfl rfl rfl ?_
        refine PW.skip rfl rfl rfl rfl ?_
        refine PW.skip rfl rfl rfl rfl ?_
        refine PW.skip rfl rfl rfl rfl ?_
        refine PW.ex rfl rfl rfl rfl (by first | exact Ex.pick_yes rfl rfl | exact Ex.pick_no rfl rfl) ?_
        refine PW.ex rfl rfl rfl rfl (Ex.move rfl) ?_
        refine PW.skip rfl rfl rfl rfl ?_
        refine PW.skip rfl rfl rfl rfl ?_
        refine PW.skip rfl rfl rfl rfl ?_
        refine PW.skip rfl rfl rfl rfl ?_
        refine PW.ex rfl rfl rfl rfl (by first | exact Ex.pick_yes rfl rfl | exact Ex.pick_no rfl rfl) ?_
        refine PW.nil ?_
        refine LW.nil fun aa ha => hK3 _ _ _ ?_ aa ha
        refine CW.yes rfl ?_
        refine CW.seq fun K6 hK6 => ?_
        refine CW.region [0, 1] rfl ?_
        refine LW.ex rfl rfl rfl rfl (Ex.assign rfl) hS.rd ?_
        refine LW.ex rfl rfl rfl rfl (Ex.assign rfl) hS.rd ?_
        refine LW.nil fun aa ha => hK6 _ _ _ ?_ aa ha
        refine CW.ret fun aa ha => ?_
        refine ret_two ha Try.results69 rfl rfl ?_
        have hno : ¬ SchOk s := fun h => by
          have := h.m1; have := h.m2; have := h.a0; have := h.a1; have := h.rl
          omega
        exact ⟨_, μ, rfl, hS.below, Mem.ext.refl _ _, hS.imm, -1, by rw [errS_no hno]⟩
      · have h1_11 := of_decide_eq_false h1_11
        refine PW.ex rfl rfl rfl rfl (by first | exact Ex.pick_yes rfl rfl | exact Ex.pick_no rfl rfl) ?_
        refine PW.ex rfl rfl rfl rfl (Ex.move rfl) ?_
        refine PW.ex rfl rfl rfl rfl (Ex.fieldO 1 Try.underlying29 rfl rfl ti5 rfl) ?_
        refine PW.ex rfl rfl rfl rfl (Ex.load1 ti5 rfl rfl (by first | exact obT rfl | exact Rd.imm ‹_› | exact slT ‹_›)) ?_
        refine PW.ex rfl rfl rfl rfl (Ex.conv Try.underlying5 Try.underlying3 rfl (by first | exact w64 (by omega) (by omega) | exact wu8 (by omega) (by omega))) ?_
        refine PW.ex rfl rfl rfl rfl (Ex.fieldO 0 Try.underlying29 rfl rfl ti3 rfl) ?_
        refine PW.ex rfl rfl rfl rfl (Ex.load1 ti3 rfl rfl (by first | exact obT rfl | exact Rd.imm ‹_› | exact slT ‹_›)) ?_
        refine PW.ex rfl rfl rfl rfl (Ex.shl (r := (2 : Int) ^ s.Modes.toNat) rfl rfl (by omega) (by show s.Modes.toNat ≤ 64; omega) (by have := pow8 (m := s.Modes) (by omega) (by omega); rw [Int.one_mul, Sy.w64 (by omega) (by omega)])) ?_
        refine PW.ex rfl rfl rfl rfl (Ex.geq rfl rfl rfl) ?_
        refine PW.splitB (fun h1_20 => ?_) (fun h1_20 => ?_)
        · have h1_20 := of_decide_eq_true h1_20
          refine PW.ex rfl rfl rfl rfl (by first | exact Ex.pick_yes rfl rfl | exact Ex.pick_no rfl rfl) ?_
          refine PW.ex rfl rfl rfl rfl (Ex.move rfl) ?_
          refine PW.skip rfl rfl rfl rfl ?_
          refine PW.skip rfl rfl rfl rfl ?_
          refine PW.skip rfl rfl rfl rfl ?_
          refine PW.skip rfl rfl rfl rfl ?_
          refine PW.ex rfl rfl rfl rfl (by first | exact Ex.pick_yes rfl rfl | exact Ex.pick_no rfl rfl) ?_
          refine PW.nil ?_
          refine LW.nil fun aa ha => hK3 _ _ _ ?_ aa ha
          refine CW.yes rfl ?_
          refine CW.seq fun K7 hK7 => ?_
          refine CW.region [0, 1] rfl ?_
          refine LW.ex rfl rfl rfl rfl (Ex.assign rfl) hS.rd ?_
          refine LW.ex rfl rfl rfl rfl (Ex.assign rfl) hS.rd ?_
          refine LW.nil fun aa ha => hK7 _ _ _ ?_ aa ha
          refine CW.ret fun aa ha => ?_
          refine ret_two ha Try.results69 rfl rfl ?_
          have hno : ¬ SchOk s := fun h => by
            have := h.m1; have := h.m2; have := h.a0; have := h.a1; have := h.rl
            omega
          exact ⟨_, μ, rfl, hS.below, Mem.ext.refl _ _, hS.imm, -1, by rw [errS_no hno]⟩
        · have h1_20 := of_decide_eq_false h1_20
          refine PW.ex rfl rfl rfl rfl (by first | exact Ex.pick_yes rfl rfl | exact Ex.pick_no rfl rfl) ?_
          refine PW.ex rfl rfl rfl rfl (Ex.move rfl) ?_
          refine PW.ex rfl rfl rfl rfl (Ex.fieldO 2 Try.underlying29 rfl rfl ti27 rfl) ?_
          refine PW.ex rfl rfl rfl rfl (Ex.load1 ti27 rfl rfl (by first | exact obT rfl | exact Rd.imm ‹_› | exact slT ‹_›)) ?_
          refine PW.ex rfl rfl rfl rfl (Ex.lenSl rfl Try.underlying27 rfl) ?_
          refine PW.ex rfl rfl rfl rfl (Ex.gtr rfl rfl rfl) ?_
          refine PW.splitB (fun h1_26 => ?_) (fun h1_26 => ?_)
          · have h1_26 := of_decide_eq_true h1_26
            refine PW.ex rfl rfl rfl rfl (by first | exact Ex.pick_yes rfl rfl | exact Ex.pick_no rfl rfl) ?_
            refine PW.nil ?_
            refine LW.nil fun aa ha => hK3 _ _ _ ?_ aa ha
            refine CW.yes rfl ?_
            refine CW.seq fun K8 hK8 => ?_
            refine CW.region [0, 1] rfl ?_
            refine LW.ex rfl rfl rfl rfl (Ex.assign rfl) hS.rd ?_
            refine LW.ex rfl rfl rfl rfl (Ex.assign rfl) hS.rd ?_
            refine LW.nil fun aa ha => hK8 _ _ _ ?_ aa ha
            refine CW.ret fun aa ha => ?_
            refine ret_two ha Try.results69 rfl rfl ?_
            have hno : ¬ SchOk s := fun h => by
              have := h.m1; have := h.m2; have := h.a0; have := h.a1; have := h.rl
              omega
            exact ⟨_, μ, rfl, hS.below, Mem.ext.refl _ _, hS.imm, -1, by rw [errS_no hno]⟩
          · have h1_26 := of_decide_eq_false h1_26
            refine PW.ex rfl rfl rfl rfl (by first | exact Ex.pick_yes rfl rfl | exact Ex.pick_no rfl rfl) ?_
            refine PW.nil ?_
            refine LW.nil fun aa ha => hK3 _ _ _ ?_ aa ha
            refine CW.no rfl ?_
            refine CW.skip fun aa ha => hK2 _ _ _ ?_ aa ha
            refine CW.seq fun K9 hK9 => ?_
            refine CW.seq fun K10 hK10 => ?_
            refine CW.region [0, 1, 2, 3] rfl ?_
            refine LW.ex rfl rfl rfl rfl (Ex.fieldO 2 Try.underlying29 rfl rfl ti27 rfl) hS.rd ?_
            refine LW.ex rfl rfl rfl rfl (Ex.load1 ti27 rfl rfl (by first | exact obT rfl | exact Rd.imm ‹_› | exact slT ‹_›)) hS.rd ?_
            refine LW.ex rfl rfl rfl rfl (Ex.lenSl rfl Try.underlying27 rfl) hS.rd ?_
            refine LW.ex rfl rfl rfl rfl (Ex.move rfl) hS.rd ?_
            refine LW.nil fun aa ha => hK10 _ _ _ ?_ aa ha
            refine CW.block ?_
            refine CW.loop (fun qq frm wl4 => ∃ (i : Nat), i ≤ s.Rules.length ∧ qq = s.Rules.length - i ∧ frm = [(1, .pointer (some ⟨b1, 0, none⟩)), (35, .slice a0 s.Rules.length c0), (36, .int .i64 s.Rules.length), (37, .int .i64 i)] ∧ St w wl4 μ [Own.obj b1 [.int .i64 s.Modes, .int .u8 s.Accept.toNat, .slice a0 s.Rules.length c0] 29] ∧ (∀ j (h : j < s.Rules.length), j < i → rightB s.Rules[j] s.Modes = true ∧ s.Rules[j] ∉ s.Rules.take j)) _ ⟨0, (by first | omega | (simp; done) | (simp; omega)), rfl, rfl, hS, fun j _ h => by omega⟩ ⟨rfl, rfl, rfl, rfl, trivial⟩ ?_
            clear hS
            rintro qq frm wl4 ⟨i, hi, hq, rfl, hS, hall⟩
            refine CW.seq fun K11 hK11 => ?_
            refine CW.region [0] rfl ?_
            refine LW.ex rfl rfl rfl rfl (Ex.lss rfl rfl rfl) hS.rd ?_
            refine LW.splitB (fun h4_0 => ?_) (fun h4_0 => ?_)
            · have h4_0 := of_decide_eq_true h4_0
              refine LW.nil fun aa ha => hK11 _ _ _ ?_ aa ha
              refine CW.seq fun K12 hK12 => ?_
              refine CW.yes rfl ?_
              refine CW.skip fun aa ha => hK12 _ _ _ ?_ aa ha
              refine CW.seq fun K13 hK13 => ?_
              refine CW.block ?_
              refine CW.seq fun K14 hK14 => ?_
              have hi2 : i < s.Rules.length := by omega
              have hsr := hs _ (List.getElem_mem hi2)
              have hSl := hS
              obtain ⟨bl', ol, rfl, k0, k1, k2, k3, k4⟩ := h0.at hi2
              have hS := hSl
              refine CW.region [0, 1, 2, 3, 4, 5] rfl ?_
              refine LW.ex rfl rfl rfl rfl (Ex.move rfl) hS.rd ?_
              refine LW.ex rfl rfl rfl rfl (Ex.indexSl Try.underlying27 ti58 rfl rfl rfl (by omega)) hS.rd ?_
              refine LW.ex rfl rfl rfl rfl (Ex.load5c ti58 rfl rfl (by first | exact obT rfl | exact Rd.imm ‹_› | exact slT ‹_›) (by first | exact obT rfl | exact Rd.imm ‹_› | exact slT ‹_›) (by first | exact obT rfl | exact Rd.imm ‹_› | exact slT ‹_›) (by first | exact obT rfl | exact Rd.imm ‹_› | exact slT ‹_›) (by first | exact obT rfl | exact Rd.imm ‹_› | exact slT ‹_›)) hS.rd ?_
              refine LW.hv rfl rfl rfl rfl (Hv.alloc ti58 hS) fun v w5 ⟨b5, hv, hb5, hS⟩ => ?_
              subst hv
              refine LW.ex rfl rfl rfl rfl (Ex.assign rfl) hS.rd ?_
              refine LW.hu rfl rfl rfl (Hv.storeN (k := 0) ti58 hS rfl rfl rfl rfl (by simp [Value.oneCell'])) fun _ w_5 hS => ?_
              dsimp only [List.set] at hS
              refine LW.nil fun aa ha => hK14 _ _ _ ?_ aa ha
              refine CW.seq fun K15 hK15 => ?_
              have hS := hS.drew
              refine CW.draw 13 (.ex 0 <| .ex 1 <| .ex 2 <| .one 3 <| .ex 4 <| .ex 5 <| .ex 6 <| .ex 7 <| .ex 8 <| .ex 9 <| .ex 10 <| .one 11 <| .ex 12 <| .done) [] (Rd _ _) mixed (by kernel_rfl) rfl rfl hS.rd ?_
              refine PW.ex rfl rfl rfl rfl (Ex.load5c ti58 rfl rfl (by first | exact obT rfl | exact Rd.imm ‹_› | exact slT ‹_›) (by first | exact obT rfl | exact Rd.imm ‹_› | exact slT ‹_›) (by first | exact obT rfl | exact Rd.imm ‹_› | exact slT ‹_›) (by first | exact obT rfl | exact Rd.imm ‹_› | exact slT ‹_›) (by first | exact obT rfl | exact Rd.imm ‹_› | exact slT ‹_›)) ?_
              refine PW.ex rfl rfl rfl rfl (Ex.fieldO 0 Try.underlying29 rfl rfl ti3 rfl) ?_
              refine PW.ex rfl rfl rfl rfl (Ex.load1 ti3 rfl rfl (by first | exact obT rfl | exact Rd.imm ‹_› | exact slT ‹_›)) ?_
              refine PW.hv rfl rfl rfl rfl (Hv.callS hS rfl rfl rfl cb86 (right_c s.Rules[i] s.Modes hsr (by omega) _)) (fun _ _ h => h.2.rd) fun v w45 ⟨hv, hS⟩ => ?_
              subst hv
              refine PW.splitB (fun h6_3 => ?_) (fun h6_3 => ?_)
              · skip
                refine PW.ex rfl rfl rfl rfl (Ex.not rfl rfl) ?_
                refine PW.ex rfl rfl rfl rfl (Ex.move rfl) ?_
                refine PW.ex rfl rfl rfl rfl (Ex.fieldO 2 Try.underlying29 rfl rfl ti27 rfl) ?_
                refine PW.ex rfl rfl rfl rfl (Ex.load1 ti27 rfl rfl (by first | exact obT rfl | exact Rd.imm ‹_› | exact slT ‹_›)) ?_
                refine PW.ex rfl rfl rfl rfl (Ex.move rfl) ?_
                refine PW.ex rfl rfl rfl rfl (Ex.sliceTo Try.underlying27 ti58 rfl rfl rfl (by omega)) ?_
                refine PW.ex rfl rfl rfl rfl (Ex.load5c ti58 rfl rfl (by first | exact obT rfl | exact Rd.imm ‹_› | exact slT ‹_›) (by first | exact obT rfl | exact Rd.imm ‹_› | exact slT ‹_›) (by first | exact obT rfl | exact Rd.imm ‹_› | exact slT ‹_›) (by first | exact obT rfl | exact Rd.imm ‹_› | exact slT ‹_›) (by first | exact obT rfl | exact Rd.imm ‹_› | exact slT ‹_›)) ?_
                refine PW.hv rfl rfl rfl rfl (Hv.callS hS rfl rfl rfl cb87 (has_n (s.Rules.take i) i (by rw [List.length_take]; omega) s.Rules[i] _ _ μ _ hS.imm (h0.take i))) (fun _ _ h => h.2.rd) fun v w53 ⟨hv, hS⟩ => ?_
                subst hv
                refine PW.splitB (fun h6_11 => ?_) (fun h6_11 => ?_)
                · skip
                  refine PW.ex rfl rfl rfl rfl (by first | exact Ex.pick_yes rfl rfl | exact Ex.pick_no rfl rfl) ?_
                  refine PW.nil ?_
                  refine LW.nil fun aa ha => hK15 _ _ _ ?_ aa ha
                  refine CW.yes rfl ?_
                  refine CW.seq fun K16 hK16 => ?_
                  refine CW.region [0, 1, 2] rfl ?_
                  refine LW.ex rfl rfl rfl rfl (Ex.move rfl) hS.rd ?_
                  refine LW.ex rfl rfl rfl rfl (Ex.assign rfl) hS.rd ?_
                  refine LW.ex rfl rfl rfl rfl (Ex.assign rfl) hS.rd ?_
                  refine LW.nil fun aa ha => hK16 _ _ _ ?_ aa ha
                  refine CW.ret fun aa ha => ?_
                  refine ret_two ha Try.results69 rfl rfl ?_
                  have hno : ¬ SchOk s := fun h => by
                    have := h.ru i hi2
                    first | (rw [h6_3] at this; exact absurd this.1 (by decide)) | (exact this.2 (of_decide_eq_true h6_11))
                  exact ⟨_, μ, rfl, hS.below, Mem.ext.refl _ _, hS.imm, i, by rw [errS_no hno]⟩
                · skip
                  refine PW.ex rfl rfl rfl rfl (by first | exact Ex.pick_yes rfl rfl | exact Ex.pick_no rfl rfl) ?_
                  refine PW.nil ?_
                  refine LW.nil fun aa ha => hK15 _ _ _ ?_ aa ha
                  refine CW.no rfl ?_
                  refine CW.skip fun aa ha => hK13 _ _ _ ?_ aa ha
                  refine CW.region [0, 1] rfl ?_
                  refine LW.ex rfl rfl rfl rfl (Ex.add rfl rfl (by first | exact inc64 (by omega) | exact addN (by omega) | exact w64 (by omega) (by omega))) hS.rd ?_
                  refine LW.ex rfl rfl rfl rfl (Ex.move rfl) hS.rd ?_
                  refine LW.nil fun aa ha => ?_
                  have hS := hS.drop 0 rfl
                  dsimp only [List.eraseIdx] at hS
                  refine ⟨_, _, ?m4, ⟨i + 1, (by first | omega | (simp; done) | (simp; omega)), rfl, rfl, hS, fun j hj hji => if e : j = i then (by subst e; exact ⟨h6_3, of_decide_eq_false h6_11⟩) else hall j hj (by omega)⟩, ha.sub ⟨rfl, rfl, rfl, rfl, trivial⟩⟩
                  case m4 => omega
              · skip
                refine PW.ex rfl rfl rfl rfl (Ex.not rfl rfl) ?_
                refine PW.ex rfl rfl rfl rfl (Ex.move rfl) ?_
                refine PW.skip rfl rfl rfl rfl ?_
                refine PW.skip rfl rfl rfl rfl ?_
                refine PW.skip rfl rfl rfl rfl ?_
                refine PW.skip rfl rfl rfl rfl ?_
                refine PW.skip rfl rfl rfl rfl ?_
                refine PW.skip1 rfl rfl rfl rfl ?_
                refine PW.ex rfl rfl rfl rfl (by first | exact Ex.pick_yes rfl rfl | exact Ex.pick_no rfl rfl) ?_
                refine PW.nil ?_
                refine LW.nil fun aa ha => hK15 _ _ _ ?_ aa ha
                refine CW.yes rfl ?_
                refine CW.seq fun K17 hK17 => ?_
                refine CW.region [0, 1, 2] rfl ?_
                refine LW.ex rfl rfl rfl rfl (Ex.move rfl) hS.rd ?_
                refine LW.ex rfl rfl rfl rfl (Ex.assign rfl) hS.rd ?_
                refine LW.ex rfl rfl rfl rfl (Ex.assign rfl) hS.rd ?_
                refine LW.nil fun aa ha => hK17 _ _ _ ?_ aa ha
                refine CW.ret fun aa ha => ?_
                refine ret_two ha Try.results69 rfl rfl ?_
                have hno : ¬ SchOk s := fun h => by
                  have := h.ru i hi2
                  first | (rw [h6_3] at this; exact absurd this.1 (by decide)) | (exact this.2 (of_decide_eq_true h6_11))
                exact ⟨_, μ, rfl, hS.below, Mem.ext.refl _ _, hS.imm, i, by rw [errS_no hno]⟩
            · have h4_0 := of_decide_eq_false h4_0
              refine LW.nil fun aa ha => hK11 _ _ _ ?_ aa ha
              refine CW.seq fun K18 hK18 => ?_
              refine CW.no rfl ?_
              refine CW.exit fun aa ha => hK9 _ _ _ ?_ aa ha
              refine CW.seq fun K19 hK19 => ?_
              refine CW.region [0, 1, 2, 3, 4] rfl ?_
              refine LW.ex rfl rfl rfl rfl (Ex.fieldO 2 Try.underlying29 rfl rfl ti27 rfl) hS.rd ?_
              refine LW.ex rfl rfl rfl rfl (Ex.load1 ti27 rfl rfl (by first | exact obT rfl | exact Rd.imm ‹_› | exact slT ‹_›)) hS.rd ?_
              refine LW.ex rfl rfl rfl rfl (Ex.lenSl rfl Try.underlying27 rfl) hS.rd ?_
              refine LW.ex rfl rfl rfl rfl (Ex.assign rfl) hS.rd ?_
              refine LW.ex rfl rfl rfl rfl (Ex.assign rfl) hS.rd ?_
              refine LW.nil fun aa ha => hK19 _ _ _ ?_ aa ha
              refine CW.ret fun aa ha => ?_
              refine ret_two ha Try.results69 rfl rfl ?_
              have hok : SchOk s := by
                have hp := pow8 (m := s.Modes) (by omega) (by omega)
                exact ⟨by omega, by omega, by omega, by omega, by omega, fun j hj => hall j hj (by omega)⟩
              exact ⟨_, μ, rfl, hS.below, Mem.ext.refl _ _, hS.imm, s.Rules.length, by rw [errS_yes hok]⟩
theorem errS_ok (s : Sch) : decide (errS s = 0) = okS s := by
  unfold errS
  cases h : okS s <;> simp
theorem valid_c (s : Sch) (hs : SSmall s) (a0 : Option Addr) (c0 : Nat) (μ : Mem) (w : World) (hμ : Imm μ w) (h0 : Sl μ a0 c0 s.Rules) :
    Calls Try.prog 52 #[.agg #[.int .i64 s.Modes, .int .u8 s.Accept.toNat, .slice a0 s.Rules.length c0]] w (RetS w (.bool (okS s))) := by
  have hS := St.start w μ hμ
  refine calls_start 12 [.agg #[.int .i64 s.Modes, .int .u8 s.Accept.toNat, .slice a0 s.Rules.length c0]] Try.func52 rfl Try.ntmps52 rfl rfl ?_
  refine CW.seq fun K20 hK20 => ?_
  refine CW.region [0, 1] rfl ?_
  refine LW.hv rfl rfl rfl rfl (Hv.boxS hS rfl rfl) fun v w1 ⟨b1, hv, hb1, hS⟩ => ?_
  subst hv
  refine LW.ex rfl rfl rfl rfl (Ex.assign rfl) hS.rd ?_
  refine LW.nil fun aa ha => hK20 _ _ _ ?_ aa ha
  refine CW.seq fun K21 hK21 => ?_
  refine CW.region [0, 1, 2, 3, 4, 5, 6] rfl ?_
  refine LW.ex rfl rfl rfl rfl (Ex.load3c ti29 rfl rfl (by first | exact obT rfl | exact Rd.imm ‹_› | exact slT ‹_›) (by first | exact obT rfl | exact Rd.imm ‹_› | exact slT ‹_›) (by first | exact obT rfl | exact Rd.imm ‹_› | exact slT ‹_›)) hS.rd ?_
  refine LW.hv rfl rfl rfl rfl (Hv.callV hS rfl rfl rfl cb69 (check_c s hs _ _ μ _ hS.imm h0)) fun v w7 ⟨μ7, hv7, hm7, hS⟩ => ?_
  obtain ⟨n, hv⟩ := hv7
  subst hv
  refine LW.ex rfl rfl rfl rfl (Ex.move rfl) hS.rd ?_
  refine LW.ex rfl rfl rfl rfl (Ex.extract rfl rfl) hS.rd ?_
  refine LW.ex rfl rfl rfl rfl (Ex.extract rfl rfl) hS.rd ?_
  refine LW.ex rfl rfl rfl rfl (Ex.assign rfl) hS.rd ?_
  refine LW.ex rfl rfl rfl rfl (Ex.assign rfl) hS.rd ?_
  refine LW.nil fun aa ha => hK21 _ _ _ ?_ aa ha
  refine CW.seq fun K22 hK22 => ?_
  refine CW.region [0, 1, 2] rfl ?_
  refine LW.ex rfl rfl rfl rfl (Ex.move rfl) hS.rd ?_
  refine LW.ex rfl rfl rfl rfl (Ex.eql rfl rfl (by first | exact decide_eq_true (by omega) | exact decide_eq_false (by omega) | rfl)) hS.rd ?_
  refine LW.ex rfl rfl rfl rfl (Ex.assign rfl) hS.rd ?_
  refine LW.nil fun aa ha => hK22 _ _ _ ?_ aa ha
  refine CW.ret fun aa ha => ?_
  refine ret_one ha Try.results52 rfl ?_
  exact hS.retB (errS_ok s)
end Go.Proofs.Ytgbdfgifgngijaa
