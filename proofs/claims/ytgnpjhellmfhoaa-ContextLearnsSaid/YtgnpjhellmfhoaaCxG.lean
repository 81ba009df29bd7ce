/-
  Context: words; the costs of words and pairs.
-/
import Derived.Test.YtgnpjhellmfhoaaCxF
namespace Go.Proofs.Ytgnpjhellmfhoaa
open Go.RowKit Sy

/-! ### Words -/
def classN (c : UInt8) : Int := if 97 ≤ c.toNat ∧ c.toNat ≤ 122 then 1 else if 65 ≤ c.toNat ∧ c.toNat ≤ 90 then 2 else if 48 ≤ c.toNat ∧ c.toNat ≤ 57 then 3 else 0
theorem class_c (c : UInt8) (w : World) : Calls Try.prog 91 #[.int .u8 c.toNat] w (RetS w (.int .i64 (classN c))) := by
  have hS := St.start w (fun _ => none) (fun _ _ h => by cases h)
  refine calls_start 24 [.int .u8 c.toNat] Try.func91 rfl Try.ntmps91 rfl rfl ?_
  refine CW.seq fun K1 hK1 => ?_
  refine CW.region [0] rfl ?_
  refine LW.ex rfl rfl rfl rfl (Ex.assign rfl) hS.rd ?_
  refine LW.nil fun aa ha => hK1 _ _ _ ?_ aa ha
  refine CW.seq fun K2 hK2 => ?_
  refine CW.block ?_
  refine CW.seq fun K3 hK3 => ?_
  refine CW.region [0, 1, 2, 3, 4, 5, 6] rfl ?_
  refine LW.ex rfl rfl rfl rfl (Ex.move rfl) hS.rd ?_
  refine LW.ex rfl rfl rfl rfl (Ex.geq rfl rfl rfl) hS.rd ?_
  refine LW.splitB (fun h1_1 => ?_) (fun h1_1 => ?_)
  · have h1_1 := of_decide_eq_true h1_1
    refine LW.ex rfl rfl rfl rfl (Ex.move rfl) hS.rd ?_
    refine LW.ex rfl rfl rfl rfl (Ex.move rfl) hS.rd ?_
    refine LW.ex rfl rfl rfl rfl (Ex.leq rfl rfl rfl) hS.rd ?_
    refine LW.splitB (fun h1_4 => ?_) (fun h1_4 => ?_)
    · have h1_4 := of_decide_eq_true h1_4
      refine LW.ex rfl rfl rfl rfl (by first | exact Ex.pick_yes rfl rfl | exact Ex.pick_no rfl rfl) hS.rd ?_
      refine LW.ex rfl rfl rfl rfl (Ex.assign rfl) hS.rd ?_
      refine LW.nil fun aa ha => hK3 _ _ _ ?_ aa ha
      refine CW.yes rfl ?_
      refine CW.seq fun K4 hK4 => ?_
      refine CW.region [0] rfl ?_
      refine LW.ex rfl rfl rfl rfl (Ex.assign rfl) hS.rd ?_
      refine LW.nil fun aa ha => hK4 _ _ _ ?_ aa ha
      refine CW.ret fun aa ha => ?_
      refine ret_one ha Try.results91 rfl ?_
      exact hS.retE (by unfold classN; congr 1; repeat (first | rw [if_pos (by omega)] | rw [if_neg (by omega)]); try omega)
    · have h1_4 := of_decide_eq_false h1_4
      refine LW.ex rfl rfl rfl rfl (by first | exact Ex.pick_yes rfl rfl | exact Ex.pick_no rfl rfl) hS.rd ?_
      refine LW.ex rfl rfl rfl rfl (Ex.assign rfl) hS.rd ?_
      refine LW.nil fun aa ha => hK3 _ _ _ ?_ aa ha
      refine CW.no rfl ?_
      refine CW.seq fun K5 hK5 => ?_
      refine CW.region [0, 1, 2, 3, 4, 5, 6] rfl ?_
      refine LW.ex rfl rfl rfl rfl (Ex.move rfl) hS.rd ?_
      refine LW.ex rfl rfl rfl rfl (Ex.geq rfl rfl rfl) hS.rd ?_
      refine LW.splitB (fun h3_1 => ?_) (fun h3_1 => ?_)
      · have h3_1 := of_decide_eq_true h3_1
        refine LW.ex rfl rfl rfl rfl (Ex.move rfl) hS.rd ?_
        refine LW.ex rfl rfl rfl rfl (Ex.move rfl) hS.rd ?_
        refine LW.ex rfl rfl rfl rfl (Ex.leq rfl rfl rfl) hS.rd ?_
        refine LW.splitB (fun h3_4 => ?_) (fun h3_4 => ?_)
        · have h3_4 := of_decide_eq_true h3_4
          refine LW.ex rfl rfl rfl rfl (by first | exact Ex.pick_yes rfl rfl | exact Ex.pick_no rfl rfl) hS.rd ?_
          refine LW.ex rfl rfl rfl rfl (Ex.assign rfl) hS.rd ?_
          refine LW.nil fun aa ha => hK5 _ _ _ ?_ aa ha
          refine CW.yes rfl ?_
          refine CW.seq fun K6 hK6 => ?_
          refine CW.region [0] rfl ?_
          refine LW.ex rfl rfl rfl rfl (Ex.assign rfl) hS.rd ?_
          refine LW.nil fun aa ha => hK6 _ _ _ ?_ aa ha
          refine CW.ret fun aa ha => ?_
          refine ret_one ha Try.results91 rfl ?_
          exact hS.retE (by unfold classN; congr 1; repeat (first | rw [if_pos (by omega)] | rw [if_neg (by omega)]); try omega)
        · have h3_4 := of_decide_eq_false h3_4
          refine LW.ex rfl rfl rfl rfl (by first | exact Ex.pick_yes rfl rfl | exact Ex.pick_no rfl rfl) hS.rd ?_
          refine LW.ex rfl rfl rfl rfl (Ex.assign rfl) hS.rd ?_
          refine LW.nil fun aa ha => hK5 _ _ _ ?_ aa ha
          refine CW.no rfl ?_
          refine CW.seq fun K7 hK7 => ?_
          refine CW.region [0, 1, 2, 3, 4, 5, 6] rfl ?_
          refine LW.ex rfl rfl rfl rfl (Ex.move rfl) hS.rd ?_
          refine LW.ex rfl rfl rfl rfl (Ex.geq rfl rfl rfl) hS.rd ?_
          refine LW.splitB (fun h5_1 => ?_) (fun h5_1 => ?_)
          · have h5_1 := of_decide_eq_true h5_1
            refine LW.ex rfl rfl rfl rfl (Ex.move rfl) hS.rd ?_
            refine LW.ex rfl rfl rfl rfl (Ex.move rfl) hS.rd ?_
            refine LW.ex rfl rfl rfl rfl (Ex.leq rfl rfl rfl) hS.rd ?_
            refine LW.splitB (fun h5_4 => ?_) (fun h5_4 => ?_)
            · have h5_4 := of_decide_eq_true h5_4
              refine LW.ex rfl rfl rfl rfl (by first | exact Ex.pick_yes rfl rfl | exact Ex.pick_no rfl rfl) hS.rd ?_
              refine LW.ex rfl rfl rfl rfl (Ex.assign rfl) hS.rd ?_
              refine LW.nil fun aa ha => hK7 _ _ _ ?_ aa ha
              refine CW.yes rfl ?_
              refine CW.seq fun K8 hK8 => ?_
              refine CW.region [0] rfl ?_
              refine LW.ex rfl rfl rfl rfl (Ex.assign rfl) hS.rd ?_
              refine LW.nil fun aa ha => hK8 _ _ _ ?_ aa ha
              refine CW.ret fun aa ha => ?_
              refine ret_one ha Try.results91 rfl ?_
              exact hS.retE (by unfold classN; congr 1; repeat (first | rw [if_pos (by omega)] | rw [if_neg (by omega)]); try omega)
            · have h5_4 := of_decide_eq_false h5_4
              refine LW.ex rfl rfl rfl rfl (by first | exact Ex.pick_yes rfl rfl | exact Ex.pick_no rfl rfl) hS.rd ?_
              refine LW.ex rfl rfl rfl rfl (Ex.assign rfl) hS.rd ?_
              refine LW.nil fun aa ha => hK7 _ _ _ ?_ aa ha
              refine CW.no rfl ?_
              refine CW.skip fun aa ha => hK2 _ _ _ ?_ aa ha
              refine CW.seq fun K9 hK9 => ?_
              refine CW.region [0] rfl ?_
              refine LW.ex rfl rfl rfl rfl (Ex.assign rfl) hS.rd ?_
              refine LW.nil fun aa ha => hK9 _ _ _ ?_ aa ha
              refine CW.ret fun aa ha => ?_
              refine ret_one ha Try.results91 rfl ?_
              exact hS.retE (by unfold classN; congr 1; repeat (first | rw [if_pos (by omega)] | rw [if_neg (by omega)]); try omega)
          · have h5_1 := of_decide_eq_false h5_1
            refine LW.ex rfl rfl rfl rfl (Ex.move rfl) hS.rd ?_
            refine LW.skip rfl rfl rfl rfl ?_
            refine LW.skip rfl rfl rfl rfl ?_
            refine LW.ex rfl rfl rfl rfl (by first | exact Ex.pick_yes rfl rfl | exact Ex.pick_no rfl rfl) hS.rd ?_
            refine LW.ex rfl rfl rfl rfl (Ex.assign rfl) hS.rd ?_
            refine LW.nil fun aa ha => hK7 _ _ _ ?_ aa ha
            refine CW.no rfl ?_
            refine CW.skip fun aa ha => hK2 _ _ _ ?_ aa ha
            refine CW.seq fun K10 hK10 => ?_
            refine CW.region [0] rfl ?_
            refine LW.ex rfl rfl rfl rfl (Ex.assign rfl) hS.rd ?_
            refine LW.nil fun aa ha => hK10 _ _ _ ?_ aa ha
            refine CW.ret fun aa ha => ?_
            refine ret_one ha Try.results91 rfl ?_
            exact hS.retE (by unfold classN; congr 1; repeat (first | rw [if_pos (by omega)] | rw [if_neg (by omega)]); try omega)
      · have h3_1 := of_decide_eq_false h3_1
        refine LW.ex rfl rfl rfl rfl (Ex.move rfl) hS.rd ?_
        refine LW.skip rfl rfl rfl rfl ?_
        refine LW.skip rfl rfl rfl rfl ?_
        refine LW.ex rfl rfl rfl rfl (by first | exact Ex.pick_yes rfl rfl | exact Ex.pick_no rfl rfl) hS.rd ?_
        refine LW.ex rfl rfl rfl rfl (Ex.assign rfl) hS.rd ?_
        refine LW.nil fun aa ha => hK5 _ _ _ ?_ aa ha
        refine CW.no rfl ?_
        refine CW.seq fun K11 hK11 => ?_
        refine CW.region [0, 1, 2, 3, 4, 5, 6] rfl ?_
        refine LW.ex rfl rfl rfl rfl (Ex.move rfl) hS.rd ?_
        refine LW.ex rfl rfl rfl rfl (Ex.geq rfl rfl rfl) hS.rd ?_
        refine LW.splitB (fun h5_1 => ?_) (fun h5_1 => ?_)
        · have h5_1 := of_decide_eq_true h5_1
          refine LW.ex rfl rfl rfl rfl (Ex.move rfl) hS.rd ?_
          refine LW.ex rfl rfl rfl rfl (Ex.move rfl) hS.rd ?_
          refine LW.ex rfl rfl rfl rfl (Ex.leq rfl rfl rfl) hS.rd ?_
          refine LW.splitB (fun h5_4 => ?_) (fun h5_4 => ?_)
          · have h5_4 := of_decide_eq_true h5_4
            refine LW.ex rfl rfl rfl rfl (by first | exact Ex.pick_yes rfl rfl | exact Ex.pick_no rfl rfl) hS.rd ?_
            refine LW.ex rfl rfl rfl rfl (Ex.assign rfl) hS.rd ?_
            refine LW.nil fun aa ha => hK11 _ _ _ ?_ aa ha
            refine CW.yes rfl ?_
            refine CW.seq fun K12 hK12 => ?_
            refine CW.region [0] rfl ?_
            refine LW.ex rfl rfl rfl rfl (Ex.assign rfl) hS.rd ?_
            refine LW.nil fun aa ha => hK12 _ _ _ ?_ aa ha
            refine CW.ret fun aa ha => ?_
            refine ret_one ha Try.results91 rfl ?_
            exact hS.retE (by unfold classN; congr 1; repeat (first | rw [if_pos (by omega)] | rw [if_neg (by omega)]); try omega)
          · have h5_4 := of_decide_eq_false h5_4
            refine LW.ex rfl rfl rfl rfl (by first | exact Ex.pick_yes rfl rfl | exact Ex.pick_no rfl rfl) hS.rd ?_
            refine LW.ex rfl rfl rfl rfl (Ex.assign rfl) hS.rd ?_
            refine LW.nil fun aa ha => hK11 _ _ _ ?_ aa ha
            refine CW.no rfl ?_
            refine CW.skip fun aa ha => hK2 _ _ _ ?_ aa ha
            refine CW.seq fun K13 hK13 => ?_
            refine CW.region [0] rfl ?_
            refine LW.ex rfl rfl rfl rfl (Ex.assign rfl) hS.rd ?_
            refine LW.nil fun aa ha => hK13 _ _ _ ?_ aa ha
            refine CW.ret fun aa ha => ?_
            refine ret_one ha Try.results91 rfl ?_
            exact hS.retE (by unfold classN; congr 1; repeat (first | rw [if_pos (by omega)] | rw [if_neg (by omega)]); try omega)
        · have h5_1 := of_decide_eq_false h5_1
          refine LW.ex rfl rfl rfl rfl (Ex.move rfl) hS.rd ?_
          refine LW.skip rfl rfl rfl rfl ?_
          refine LW.skip rfl rfl rfl rfl ?_
          refine LW.ex rfl rfl rfl rfl (by first | exact Ex.pick_yes rfl rfl | exact Ex.pick_no rfl rfl) hS.rd ?_
          refine LW.ex rfl rfl rfl rfl (Ex.assign rfl) hS.rd ?_
          refine LW.nil fun aa ha => hK11 _ _ _ ?_ aa ha
          refine CW.no rfl ?_
          refine CW.skip fun aa ha => hK2 _ _ _ ?_ aa ha
          refine CW.seq fun K14 hK14 => ?_
          refine CW.region [0] rfl ?_
          refine LW.ex rfl rfl rfl rfl (Ex.assign rfl) hS.rd ?_
          refine LW.nil fun aa ha => hK14 _ _ _ ?_ aa ha
          refine CW.ret fun aa ha => ?_
          refine ret_one ha Try.results91 rfl ?_
          exact hS.retE (by unfold classN; congr 1; repeat (first | rw [if_pos (by omega)] | rw [if_neg (by omega)]); try omega)
  · have h1_1 := of_decide_eq_false h1_1
    refine LW.ex rfl rfl rfl rfl (Ex.move rfl) hS.rd ?_
    refine LW.skip rfl rfl rfl rfl ?_
    refine LW.skip rfl rfl rfl rfl ?_
    refine LW.ex rfl rfl rfl rfl (by first | exact Ex.pick_yes rfl rfl | exact Ex.pick_no rfl rfl) hS.rd ?_
    refine LW.ex rfl rfl rfl rfl (Ex.assign rfl) hS.rd ?_
    refine LW.nil fun aa ha => hK3 _ _ _ ?_ aa ha
    refine CW.no rfl ?_
    refine CW.seq fun K15 hK15 => ?_
    refine CW.region [0, 1, 2, 3, 4, 5, 6] rfl ?_
    refine LW.ex rfl rfl rfl rfl (Ex.move rfl) hS.rd ?_
    refine LW.ex rfl rfl rfl rfl (Ex.geq rfl rfl rfl) hS.rd ?_
    refine LW.splitB (fun h3_1 => ?_) (fun h3_1 => ?_)
    · have h3_1 := of_decide_eq_true h3_1
      refine LW.ex rfl rfl rfl rfl (Ex.move rfl) hS.rd ?_
      refine LW.ex rfl rfl rfl rfl (Ex.move rfl) hS.rd ?_
      refine LW.ex rfl rfl rfl rfl (Ex.leq rfl rfl rfl) hS.rd ?_
      refine LW.splitB (fun h3_4 => ?_) (fun h3_4 => ?_)
      · have h3_4 := of_decide_eq_true h3_4
        refine LW.ex rfl rfl rfl rfl (by first | exact Ex.pick_yes rfl rfl | exact Ex.pick_no rfl rfl) hS.rd ?_
        refine LW.ex rfl rfl rfl rfl (Ex.assign rfl) hS.rd ?_
        refine LW.nil fun aa ha => hK15 _ _ _ ?_ aa ha
        refine CW.yes rfl ?_
        refine CW.seq fun K16 hK16 => ?_
        refine CW.region [0] rfl ?_
        refine LW.ex rfl rfl rfl rfl (Ex.assign rfl) hS.rd ?_
        refine LW.nil fun aa ha => hK16 _ _ _ ?_ aa ha
        refine CW.ret fun aa ha => ?_
        refine ret_one ha Try.results91 rfl ?_
        exact hS.retE (by unfold classN; congr 1; repeat (first | rw [if_pos (by omega)] | rw [if_neg (by omega)]); try omega)
      · have h3_4 := of_decide_eq_false h3_4
        refine LW.ex rfl rfl rfl rfl (by first | exact Ex.pick_yes rfl rfl | exact Ex.pick_no rfl rfl) hS.rd ?_
        refine LW.ex rfl rfl rfl rfl (Ex.assign rfl) hS.rd ?_
        refine LW.nil fun aa ha => hK15 _ _ _ ?_ aa ha
        refine CW.no rfl ?_
        refine CW.seq fun K17 hK17 => ?_
        refine CW.region [0, 1, 2, 3, 4, 5, 6] rfl ?_
        refine LW.ex rfl rfl rfl rfl (Ex.move rfl) hS.rd ?_
        refine LW.ex rfl rfl rfl rfl (Ex.geq rfl rfl rfl) hS.rd ?_
        refine LW.splitB (fun h5_1 => ?_) (fun h5_1 => ?_)
        · have h5_1 := of_decide_eq_true h5_1
          refine LW.ex rfl rfl rfl rfl (Ex.move rfl) hS.rd ?_
          refine LW.ex rfl rfl rfl rfl (Ex.move rfl) hS.rd ?_
          refine LW.ex rfl rfl rfl rfl (Ex.leq rfl rfl rfl) hS.rd ?_
          refine LW.splitB (fun h5_4 => ?_) (fun h5_4 => ?_)
          · have h5_4 := of_decide_eq_true h5_4
            refine LW.ex rfl rfl rfl rfl (by first | exact Ex.pick_yes rfl rfl | exact Ex.pick_no rfl rfl) hS.rd ?_
            refine LW.ex rfl rfl rfl rfl (Ex.assign rfl) hS.rd ?_
            refine LW.nil fun aa ha => hK17 _ _ _ ?_ aa ha
            refine CW.yes rfl ?_
            refine CW.seq fun K18 hK18 => ?_
            refine CW.region [0] rfl ?_
            refine LW.ex rfl rfl rfl rfl (Ex.assign rfl) hS.rd ?_
            refine LW.nil fun aa ha => hK18 _ _ _ ?_ aa ha
            refine CW.ret fun aa ha => ?_
            refine ret_one ha Try.results91 rfl ?_
            exact hS.retE (by unfold classN; congr 1; repeat (first | rw [if_pos (by omega)] | rw [if_neg (by omega)]); try omega)
          · have h5_4 := of_decide_eq_false h5_4
            refine LW.ex rfl rfl rfl rfl (by first | exact Ex.pick_yes rfl rfl | exact Ex.pick_no rfl rfl) hS.rd ?_
            refine LW.ex rfl rfl rfl rfl (Ex.assign rfl) hS.rd ?_
            refine LW.nil fun aa ha => hK17 _ _ _ ?_ aa ha
            refine CW.no rfl ?_
            refine CW.skip fun aa ha => hK2 _ _ _ ?_ aa ha
            refine CW.seq fun K19 hK19 => ?_
            refine CW.region [0] rfl ?_
            refine LW.ex rfl rfl rfl rfl (Ex.assign rfl) hS.rd ?_
            refine LW.nil fun aa ha => hK19 _ _ _ ?_ aa ha
            refine CW.ret fun aa ha => ?_
            refine ret_one ha Try.results91 rfl ?_
            exact hS.retE (by unfold classN; congr 1; repeat (first | rw [if_pos (by omega)] | rw [if_neg (by omega)]); try omega)
        · have h5_1 := of_decide_eq_false h5_1
          refine LW.ex rfl rfl rfl rfl (Ex.move rfl) hS.rd ?_
          refine LW.skip rfl rfl rfl rfl ?_
          refine LW.skip rfl rfl rfl rfl ?_
          refine LW.ex rfl rfl rfl rfl (by first | exact Ex.pick_yes rfl rfl | exact Ex.pick_no rfl rfl) hS.rd ?_
          refine LW.ex rfl rfl rfl rfl (Ex.assign rfl) hS.rd ?_
          refine LW.nil fun aa ha => hK17 _ _ _ ?_ aa ha
          refine CW.no rfl ?_
          refine CW.skip fun aa ha => hK2 _ _ _ ?_ aa ha
          refine CW.seq fun K20 hK20 => ?_
          refine CW.region [0] rfl ?_
          refine LW.ex rfl rfl rfl rfl (Ex.assign rfl) hS.rd ?_
          refine LW.nil fun aa ha => hK20 _ _ _ ?_ aa ha
          refine CW.ret fun aa ha => ?_
          refine ret_one ha Try.results91 rfl ?_
          exact hS.retE (by unfold classN; congr 1; repeat (first | rw [if_pos (by omega)] | rw [if_neg (by omega)]); try omega)
    · have h3_1 := of_decide_eq_false h3_1
      refine LW.ex rfl rfl rfl rfl (Ex.move rfl) hS.rd ?_
      refine LW.skip rfl rfl rfl rfl ?_
      refine LW.skip rfl rfl rfl rfl ?_
      refine LW.ex rfl rfl rfl rfl (by first | exact Ex.pick_yes rfl rfl | exact Ex.pick_no rfl rfl) hS.rd ?_
      refine LW.ex rfl rfl rfl rfl (Ex.assign rfl) hS.rd ?_
      refine LW.nil fun aa ha => hK15 _ _ _ ?_ aa ha
      refine CW.no rfl ?_
      refine CW.seq fun K21 hK21 => ?_
      refine CW.region [0, 1, 2, 3, 4, 5, 6] rfl ?_
      refine LW.ex rfl rfl rfl rfl (Ex.move rfl) hS.rd ?_
      refine LW.ex rfl rfl rfl rfl (Ex.geq rfl rfl rfl) hS.rd ?_
      refine LW.splitB (fun h5_1 => ?_) (fun h5_1 => ?_)
      · have h5_1 := of_decide_eq_true h5_1
        refine LW.ex rfl rfl rfl rfl (Ex.move rfl) hS.rd ?_
        refine LW.ex rfl rfl rfl rfl (Ex.move rfl) hS.rd ?_
        refine LW.ex rfl rfl rfl rfl (Ex.leq rfl rfl rfl) hS.rd ?_
        refine LW.splitB (fun h5_4 => ?_) (fun h5_4 => ?_)
        · have h5_4 := of_decide_eq_true h5_4
          refine LW.ex rfl rfl rfl rfl (by first | exact Ex.pick_yes rfl rfl | exact Ex.pick_no rfl rfl) hS.rd ?_
          refine LW.ex rfl rfl rfl rfl (Ex.assign rfl) hS.rd ?_
          refine LW.nil fun aa ha => hK21 _ _ _ ?_ aa ha
          refine CW.yes rfl ?_
          refine CW.seq fun K22 hK22 => ?_
          refine CW.region [0] rfl ?_
          refine LW.ex rfl rfl rfl rfl (Ex.assign rfl) hS.rd ?_
          refine LW.nil fun aa ha => hK22 _ _ _ ?_ aa ha
          refine CW.ret fun aa ha => ?_
          refine ret_one ha Try.results91 rfl ?_
          exact hS.retE (by unfold classN; congr 1; repeat (first | rw [if_pos (by omega)] | rw [if_neg (by omega)]); try omega)
        · have h5_4 := of_decide_eq_false h5_4
          refine LW.ex rfl rfl rfl rfl (by first | exact Ex.pick_yes rfl rfl | exact Ex.pick_no rfl rfl) hS.rd ?_
          refine LW.ex rfl rfl rfl rfl (Ex.assign rfl) hS.rd ?_
          refine LW.nil fun aa ha => hK21 _ _ _ ?_ aa ha
          refine CW.no rfl ?_
          refine CW.skip fun aa ha => hK2 _ _ _ ?_ aa ha
          refine CW.seq fun K23 hK23 => ?_
          refine CW.region [0] rfl ?_
          refine LW.ex rfl rfl rfl rfl (Ex.assign rfl) hS.rd ?_
          refine LW.nil fun aa ha => hK23 _ _ _ ?_ aa ha
          refine CW.ret fun aa ha => ?_
          refine ret_one ha Try.results91 rfl ?_
          exact hS.retE (by unfold classN; congr 1; repeat (first | rw [if_pos (by omega)] | rw [if_neg (by omega)]); try omega)
      · have h5_1 := of_decide_eq_false h5_1
        refine LW.ex rfl rfl rfl rfl (Ex.move rfl) hS.rd ?_
        refine LW.skip rfl rfl rfl rfl ?_
        refine LW.skip rfl rfl rfl rfl ?_
        refine LW.ex rfl rfl rfl rfl (by first | exact Ex.pick_yes rfl rfl | exact Ex.pick_no rfl rfl) hS.rd ?_
        refine LW.ex rfl rfl rfl rfl (Ex.assign rfl) hS.rd ?_
        refine LW.nil fun aa ha => hK21 _ _ _ ?_ aa ha
        refine CW.no rfl ?_
        refine CW.skip fun aa ha => hK2 _ _ _ ?_ aa ha
        refine CW.seq fun K24 hK24 => ?_
        refine CW.region [0] rfl ?_
        refine LW.ex rfl rfl rfl rfl (Ex.assign rfl) hS.rd ?_
        refine LW.nil fun aa ha => hK24 _ _ _ ?_ aa ha
        refine CW.ret fun aa ha => ?_
        refine ret_one ha Try.results91 rfl ?_
        exact hS.retE (by unfold classN; congr 1; repeat (first | rw [if_pos (by omega)] | rw [if_neg (by omega)]); try omega)
theorem lt_len {s : ByteArray} {i : Nat} (h : i < s.size) : i < (bl s).length := h
theorem sAt_get (s : ByteArray) (i : Nat) (h : i < (bl s).length) : (bl s)[i] = sAt s i := by
  have := sAt_of (s := s) (j := i) h
  rw [List.getElem?_eq_getElem h] at this; exact Option.some.inj this
def allC (k : Int) (s : ByteArray) : Bool := (bl s).all fun c => !(decide (classN c = 0)) && decide (classN c ≤ k)
theorem all_not {s : ByteArray} {i : Nat} (p : UInt8 → Bool) (h : i < s.size) (hp : p (sAt s i) = false) : (bl s).all p = false := by
  rw [List.all_eq_false]; exact ⟨_, List.getElem_mem (lt_len h), by rw [sAt_get, hp]; simp⟩
theorem all_yes {s : ByteArray} (p : UInt8 → Bool) (h : ∀ i, i < s.size → p (sAt s i) = true) : (bl s).all p = true := by
  rw [List.all_eq_true]; intro x hx; obtain ⟨i, hi, rfl⟩ := List.getElem_of_mem hx; rw [sAt_get]; exact h i hi
theorem all_c (k : Int) (s : ByteArray) (hk : 0 ≤ k) (w : World) (hs : s.size ≤ 9223372036854775807) : Calls Try.prog 80 #[.string s, .int .i64 k] w (RetS w (.bool (allC k s))) := by
  have hS := St.start w (fun _ => none) (fun _ _ h => by cases h)
  refine calls_start 24 [.string s, .int .i64 k] Try.func80 rfl Try.ntmps80 rfl rfl ?_
  refine CW.seq fun K25 hK25 => ?_
  refine CW.region [0] rfl ?_
  refine LW.ex rfl rfl rfl rfl (Ex.assign rfl) hS.rd ?_
  refine LW.nil fun aa ha => hK25 _ _ _ ?_ aa ha
  refine CW.seq fun K26 hK26 => ?_
  refine CW.seq fun K27 hK27 => ?_
  refine CW.region [0, 1, 2] rfl ?_
  refine LW.ex rfl rfl rfl rfl (Ex.move rfl) hS.rd ?_
  refine LW.ex rfl rfl rfl rfl (Ex.lenS rfl Try.underlying9 rfl) hS.rd ?_
  refine LW.ex rfl rfl rfl rfl (Ex.move rfl) hS.rd ?_
  refine LW.nil fun aa ha => hK27 _ _ _ ?_ aa ha
  refine CW.block ?_
  refine CW.loop (fun qq frm wl2 => ∃ (i : Nat), i ≤ s.size ∧ qq = s.size - i ∧ frm = [(0, .string s), (1, .int .i64 k), (8, .int .i64 ((s.size : Nat) : Int)), (9, .int .i64 i)] ∧ St w wl2 (fun _ => none) [] ∧ (∀ j, j < i → (!(decide (classN (sAt s j) = 0)) && decide (classN (sAt s j) ≤ k)) = true)) _ ⟨0, (by first | omega | (simp; done) | (simp; omega)), rfl, rfl, hS, fun j hj => by omega⟩ ⟨rfl, rfl, rfl, rfl, trivial⟩ ?_
  clear hS
  rintro qq frm wl2 ⟨i, hi, hq, rfl, hS, he⟩
  refine CW.seq fun K28 hK28 => ?_
  refine CW.region [0] rfl ?_
  refine LW.ex rfl rfl rfl rfl (Ex.lss rfl rfl rfl) hS.rd ?_
  refine LW.splitB (fun h2_0 => ?_) (fun h2_0 => ?_)
  · have h2_0 := of_decide_eq_true h2_0
    refine LW.nil fun aa ha => hK28 _ _ _ ?_ aa ha
    refine CW.seq fun K29 hK29 => ?_
    refine CW.yes rfl ?_
    refine CW.skip fun aa ha => hK29 _ _ _ ?_ aa ha
    refine CW.seq fun K30 hK30 => ?_
    refine CW.block ?_
    refine CW.seq fun K31 hK31 => ?_
    refine CW.region [0, 1] rfl ?_
    refine LW.ex rfl rfl rfl rfl (Ex.move rfl) hS.rd ?_
    refine LW.ex rfl rfl rfl rfl (Ex.assign rfl) hS.rd ?_
    refine LW.nil fun aa ha => hK31 _ _ _ ?_ aa ha
    refine CW.seq fun K32 hK32 => ?_
    refine CW.region [0, 1, 2, 3, 4] rfl ?_
    refine LW.ex rfl rfl rfl rfl (Ex.move rfl) hS.rd ?_
    refine LW.ex rfl rfl rfl rfl (Ex.move rfl) hS.rd ?_
    refine LW.ex rfl rfl rfl rfl (Ex.indexB Try.underlying9 rfl rfl rfl (by omega)) hS.rd ?_
    refine LW.hv rfl rfl rfl rfl (Hv.callS hS rfl rfl rfl cb91 (class_c (sAt s i) _)) fun v w15 ⟨hv, hS⟩ => ?_
    subst hv
    refine LW.ex rfl rfl rfl rfl (Ex.assign rfl) hS.rd ?_
    refine LW.nil fun aa ha => hK32 _ _ _ ?_ aa ha
    refine CW.seq fun K33 hK33 => ?_
    refine CW.region [0, 1, 2, 3, 4, 5, 6] rfl ?_
    refine LW.ex rfl rfl rfl rfl (Ex.move rfl) hS.rd ?_
    refine LW.ex rfl rfl rfl rfl (Ex.eql rfl rfl rfl) hS.rd ?_
    refine LW.splitB (fun h5_1 => ?_) (fun h5_1 => ?_)
    · have h5_1 := of_decide_eq_true h5_1
      refine LW.ex rfl rfl rfl rfl (Ex.move rfl) hS.rd ?_
      refine LW.skip rfl rfl rfl rfl ?_
      refine LW.skip rfl rfl rfl rfl ?_
      refine LW.skip rfl rfl rfl rfl ?_
      refine LW.ex rfl rfl rfl rfl (by first | exact Ex.pick_yes rfl rfl | exact Ex.pick_no rfl rfl) hS.rd ?_
      refine LW.nil fun aa ha => hK33 _ _ _ ?_ aa ha
      refine CW.yes rfl ?_
      refine CW.seq fun K34 hK34 => ?_
      refine CW.region [0] rfl ?_
      refine LW.ex rfl rfl rfl rfl (Ex.assign rfl) hS.rd ?_
      refine LW.nil fun aa ha => hK34 _ _ _ ?_ aa ha
      refine CW.ret fun aa ha => ?_
      refine ret_one ha Try.results80 rfl ?_
      have e : allC k s = false := all_not _ (i := i) (by omega) (by simp only [Bool.and_eq_false_iff, Bool.not_eq_false', decide_eq_true_eq, decide_eq_false_iff_not]; omega)
      rw [e]; exact hS.retS
    · have h5_1 := of_decide_eq_false h5_1
      refine LW.ex rfl rfl rfl rfl (Ex.move rfl) hS.rd ?_
      refine LW.ex rfl rfl rfl rfl (Ex.move rfl) hS.rd ?_
      refine LW.ex rfl rfl rfl rfl (Ex.move rfl) hS.rd ?_
      refine LW.ex rfl rfl rfl rfl (Ex.gtr rfl rfl rfl) hS.rd ?_
      refine LW.splitB (fun h5_5 => ?_) (fun h5_5 => ?_)
      · have h5_5 := of_decide_eq_true h5_5
        refine LW.ex rfl rfl rfl rfl (by first | exact Ex.pick_yes rfl rfl | exact Ex.pick_no rfl rfl) hS.rd ?_
        refine LW.nil fun aa ha => hK33 _ _ _ ?_ aa ha
        refine CW.yes rfl ?_
        refine CW.seq fun K35 hK35 => ?_
        refine CW.region [0] rfl ?_
        refine LW.ex rfl rfl rfl rfl (Ex.assign rfl) hS.rd ?_
        refine LW.nil fun aa ha => hK35 _ _ _ ?_ aa ha
        refine CW.ret fun aa ha => ?_
        refine ret_one ha Try.results80 rfl ?_
        have e : allC k s = false := all_not _ (i := i) (by omega) (by simp only [Bool.and_eq_false_iff, Bool.not_eq_false', decide_eq_true_eq, decide_eq_false_iff_not]; omega)
        rw [e]; exact hS.retS
      · have h5_5 := of_decide_eq_false h5_5
        refine LW.ex rfl rfl rfl rfl (by first | exact Ex.pick_yes rfl rfl | exact Ex.pick_no rfl rfl) hS.rd ?_
        refine LW.nil fun aa ha => hK33 _ _ _ ?_ aa ha
        refine CW.no rfl ?_
        refine CW.skip fun aa ha => hK30 _ _ _ ?_ aa ha
        refine CW.region [0, 1] rfl ?_
        refine LW.ex rfl rfl rfl rfl (Ex.add rfl rfl (by first | exact inc64 (by omega) | exact addN (by omega) | exact w64 (by omega) (by omega))) hS.rd ?_
        refine LW.ex rfl rfl rfl rfl (Ex.move rfl) hS.rd ?_
        refine LW.nil fun aa ha => ?_
        refine ⟨_, _, ?m2, ⟨i + 1, (by first | omega | (simp; done) | (simp; omega)), rfl, rfl, hS, ?_⟩, ha.sub ⟨rfl, rfl, rfl, rfl, trivial⟩⟩
        case m2 => omega
        intro j hj
        by_cases hji : j = i
        · subst hji; simp only [Bool.and_eq_true, Bool.not_eq_true', decide_eq_false_iff_not, decide_eq_true_eq]; omega
        · exact he j (by omega)
  · have h2_0 := of_decide_eq_false h2_0
    refine LW.nil fun aa ha => hK28 _ _ _ ?_ aa ha
    refine CW.seq fun K36 hK36 => ?_
    refine CW.no rfl ?_
    refine CW.exit fun aa ha => hK26 _ _ _ ?_ aa ha
    refine CW.seq fun K37 hK37 => ?_
    refine CW.region [0] rfl ?_
    refine LW.ex rfl rfl rfl rfl (Ex.assign rfl) hS.rd ?_
    refine LW.nil fun aa ha => hK37 _ _ _ ?_ aa ha
    refine CW.ret fun aa ha => ?_
    refine ret_one ha Try.results80 rfl ?_
    have e : allC k s = true := all_yes _ fun j hj => he j (by omega)
    rw [e]; exact hS.retS
def wordOk (s : ByteArray) : Bool := decide (1 ≤ s.size) && decide (s.size ≤ 20) && allC 3 s
theorem size_empty {s : ByteArray} : (s != ⟨#[]⟩) = decide (1 ≤ s.size) := by
  rw [bne, bl_eq, ← bl_len]
  cases h : bl s with
  | nil => rfl
  | cons x r => simp [bl]
theorem word_c (s : ByteArray) (w : World) (hs : s.size ≤ 9223372036854775807) : Calls Try.prog 61 #[.string s] w (RetS w (.bool (wordOk s))) := by
  have hS := St.start w (fun _ => none) (fun _ _ h => by cases h)
  refine calls_start 14 [.string s] Try.func61 rfl Try.ntmps61 rfl rfl ?_
  refine CW.seq fun K38 hK38 => ?_
  refine CW.region [0] rfl ?_
  refine LW.ex rfl rfl rfl rfl (Ex.assign rfl) hS.rd ?_
  refine LW.nil fun aa ha => hK38 _ _ _ ?_ aa ha
  refine CW.seq fun K39 hK39 => ?_
  refine CW.region [0, 1, 2, 3, 4, 5, 6, 7, 8, 9, 10, 11] rfl ?_
  refine LW.ex rfl rfl rfl rfl (Ex.move rfl) hS.rd ?_
  refine LW.ex rfl rfl rfl rfl (Ex.neqS rfl rfl size_empty) hS.rd ?_
  refine LW.splitB (fun h1_1 => ?_) (fun h1_1 => ?_)
  · have h1_1 := of_decide_eq_true h1_1
    refine LW.ex rfl rfl rfl rfl (Ex.move rfl) hS.rd ?_
    refine LW.ex rfl rfl rfl rfl (Ex.move rfl) hS.rd ?_
    refine LW.ex rfl rfl rfl rfl (Ex.lenS rfl Try.underlying9 rfl) hS.rd ?_
    refine LW.ex rfl rfl rfl rfl (Ex.leq rfl rfl rfl) hS.rd ?_
    refine LW.splitB (fun h1_5 => ?_) (fun h1_5 => ?_)
    · have h1_5 := of_decide_eq_true h1_5
      refine LW.ex rfl rfl rfl rfl (by first | exact Ex.pick_yes rfl rfl | exact Ex.pick_no rfl rfl) hS.rd ?_
      refine LW.ex rfl rfl rfl rfl (Ex.move rfl) hS.rd ?_
      refine LW.ex rfl rfl rfl rfl (Ex.move rfl) hS.rd ?_
      refine LW.hv rfl rfl rfl rfl (Hv.callS hS rfl rfl rfl cb80 (all_c 3 s (by omega) _ hs)) fun v w12 ⟨hv, hS⟩ => ?_
      subst hv
      refine LW.ex rfl rfl rfl rfl (by first | exact Ex.pick_yes rfl rfl | exact Ex.pick_no rfl rfl) hS.rd ?_
      refine LW.ex rfl rfl rfl rfl (Ex.assign rfl) hS.rd ?_
      refine LW.nil fun aa ha => hK39 _ _ _ ?_ aa ha
      refine CW.ret fun aa ha => ?_
      refine ret_one ha Try.results61 rfl ?_
      refine hS.retB ?_
      unfold wordOk
      simp_all <;> (try (intro _; omega))
    · have h1_5 := of_decide_eq_false h1_5
      refine LW.ex rfl rfl rfl rfl (by first | exact Ex.pick_yes rfl rfl | exact Ex.pick_no rfl rfl) hS.rd ?_
      refine LW.ex rfl rfl rfl rfl (Ex.move rfl) hS.rd ?_
      refine LW.skip rfl rfl rfl rfl ?_
      refine LW.skip rfl rfl rfl rfl ?_
      refine LW.ex rfl rfl rfl rfl (by first | exact Ex.pick_yes rfl rfl | exact Ex.pick_no rfl rfl) hS.rd ?_
      refine LW.ex rfl rfl rfl rfl (Ex.assign rfl) hS.rd ?_
      refine LW.nil fun aa ha => hK39 _ _ _ ?_ aa ha
      refine CW.ret fun aa ha => ?_
      refine ret_one ha Try.results61 rfl ?_
      refine hS.retB ?_
      unfold wordOk
      simp_all <;> (try (intro _; omega))
  · skip
    refine LW.ex rfl rfl rfl rfl (Ex.move rfl) hS.rd ?_
    refine LW.skip rfl rfl rfl rfl ?_
    refine LW.skip rfl rfl rfl rfl ?_
    refine LW.skip rfl rfl rfl rfl ?_
    refine LW.ex rfl rfl rfl rfl (by first | exact Ex.pick_yes rfl rfl | exact Ex.pick_no rfl rfl) hS.rd ?_
    refine LW.ex rfl rfl rfl rfl (Ex.move rfl) hS.rd ?_
    refine LW.skip rfl rfl rfl rfl ?_
    refine LW.skip rfl rfl rfl rfl ?_
    refine LW.ex rfl rfl rfl rfl (by first | exact Ex.pick_yes rfl rfl | exact Ex.pick_no rfl rfl) hS.rd ?_
    refine LW.ex rfl rfl rfl rfl (Ex.assign rfl) hS.rd ?_
    refine LW.nil fun aa ha => hK39 _ _ _ ?_ aa ha
    refine CW.ret fun aa ha => ?_
    refine ret_one ha Try.results61 rfl ?_
    refine hS.retB ?_
    unfold wordOk
    simp_all <;> (try (intro _; omega))
theorem plain_c (s : ByteArray) (w : World) (hs : s.size ≤ 9223372036854775807) : Calls Try.prog 90 #[.string s] w (RetS w (.bool (allC 3 s))) := by
  have hS := St.start w (fun _ => none) (fun _ _ h => by cases h)
  refine calls_start 36 [.string s] Try.func90 rfl Try.ntmps90 rfl rfl ?_
  refine CW.seq fun K40 hK40 => ?_
  refine CW.region [0] rfl ?_
  refine LW.ex rfl rfl rfl rfl (Ex.assign rfl) hS.rd ?_
  refine LW.nil fun aa ha => hK40 _ _ _ ?_ aa ha
  refine CW.seq fun K41 hK41 => ?_
  refine CW.seq fun K42 hK42 => ?_
  refine CW.region [0] rfl ?_
  refine LW.ex rfl rfl rfl rfl (Ex.assign rfl) hS.rd ?_
  refine LW.nil fun aa ha => hK42 _ _ _ ?_ aa ha
  refine CW.block ?_
  refine CW.loop (fun qq frm wl2 => ∃ (i : Nat), i ≤ s.size ∧ qq = s.size - i ∧ frm = [(0, .string s), (3, .int .i64 i)] ∧ St w wl2 (fun _ => none) [] ∧ (∀ j, j < i → (!(decide (classN (sAt s j) = 0)) && decide (classN (sAt s j) ≤ 3)) = true)) _ ⟨0, (by first | omega | (simp; done) | (simp; omega)), rfl, rfl, hS, fun j hj => by omega⟩ ⟨rfl, rfl, trivial⟩ ?_
  clear hS
  rintro qq frm wl2 ⟨i, hi, hq, rfl, hS, he⟩
  refine CW.seq fun K43 hK43 => ?_
  refine CW.seq fun K44 hK44 => ?_
  refine CW.region [0, 1, 2, 3] rfl ?_
  refine LW.ex rfl rfl rfl rfl (Ex.move rfl) hS.rd ?_
  refine LW.ex rfl rfl rfl rfl (Ex.move rfl) hS.rd ?_
  refine LW.ex rfl rfl rfl rfl (Ex.lenS rfl Try.underlying9 rfl) hS.rd ?_
  refine LW.ex rfl rfl rfl rfl (Ex.lss rfl rfl rfl) hS.rd ?_
  refine LW.splitB (fun h2_3 => ?_) (fun h2_3 => ?_)
  · have h2_3 := of_decide_eq_true h2_3
    refine LW.nil fun aa ha => hK44 _ _ _ ?_ aa ha
    refine CW.yes rfl ?_
    refine CW.skip fun aa ha => hK43 _ _ _ ?_ aa ha
    refine CW.seq fun K45 hK45 => ?_
    refine CW.block ?_
    refine CW.seq fun K46 hK46 => ?_
    refine CW.region [0, 1, 2, 3] rfl ?_
    refine LW.ex rfl rfl rfl rfl (Ex.move rfl) hS.rd ?_
    refine LW.ex rfl rfl rfl rfl (Ex.move rfl) hS.rd ?_
    refine LW.ex rfl rfl rfl rfl (Ex.indexB Try.underlying9 rfl rfl rfl (by omega)) hS.rd ?_
    refine LW.ex rfl rfl rfl rfl (Ex.assign rfl) hS.rd ?_
    refine LW.nil fun aa ha => hK46 _ _ _ ?_ aa ha
    refine CW.seq fun K47 hK47 => ?_
    refine CW.region [0, 1, 2, 3, 4, 5, 6, 7, 8, 9, 10, 11, 12, 13, 14, 15, 16, 17, 18, 19, 20, 21] rfl ?_
    refine LW.ex rfl rfl rfl rfl (Ex.move rfl) hS.rd ?_
    refine LW.ex rfl rfl rfl rfl (Ex.lss rfl rfl rfl) hS.rd ?_
    refine LW.splitB (fun h5_1 => ?_) (fun h5_1 => ?_)
    · have h5_1 := of_decide_eq_true h5_1
      refine LW.ex rfl rfl rfl rfl (Ex.move rfl) hS.rd ?_
      refine LW.skip rfl rfl rfl rfl ?_
      refine LW.skip rfl rfl rfl rfl ?_
      refine LW.ex rfl rfl rfl rfl (by first | exact Ex.pick_yes rfl rfl | exact Ex.pick_no rfl rfl) hS.rd ?_
      refine LW.ex rfl rfl rfl rfl (Ex.move rfl) hS.rd ?_
      refine LW.ex rfl rfl rfl rfl (Ex.move rfl) hS.rd ?_
      refine LW.ex rfl rfl rfl rfl (Ex.lss rfl rfl rfl) hS.rd ?_
      refine LW.splitB (fun h5_8 => ?_) (fun h5_8 => ?_)
      · have h5_8 := of_decide_eq_true h5_8
        refine LW.ex rfl rfl rfl rfl (Ex.move rfl) hS.rd ?_
        refine LW.skip rfl rfl rfl rfl ?_
        refine LW.skip rfl rfl rfl rfl ?_
        refine LW.ex rfl rfl rfl rfl (by first | exact Ex.pick_yes rfl rfl | exact Ex.pick_no rfl rfl) hS.rd ?_
        refine LW.ex rfl rfl rfl rfl (by first | exact Ex.pick_yes rfl rfl | exact Ex.pick_no rfl rfl) hS.rd ?_
        refine LW.ex rfl rfl rfl rfl (Ex.move rfl) hS.rd ?_
        refine LW.ex rfl rfl rfl rfl (Ex.move rfl) hS.rd ?_
        refine LW.ex rfl rfl rfl rfl (Ex.lss rfl rfl rfl) hS.rd ?_
        refine LW.splitB (fun h5_16 => ?_) (fun h5_16 => ?_)
        · have h5_16 := of_decide_eq_true h5_16
          refine LW.ex rfl rfl rfl rfl (Ex.move rfl) hS.rd ?_
          refine LW.skip rfl rfl rfl rfl ?_
          refine LW.skip rfl rfl rfl rfl ?_
          refine LW.ex rfl rfl rfl rfl (by first | exact Ex.pick_yes rfl rfl | exact Ex.pick_no rfl rfl) hS.rd ?_
          refine LW.ex rfl rfl rfl rfl (by first | exact Ex.pick_yes rfl rfl | exact Ex.pick_no rfl rfl) hS.rd ?_
          refine LW.nil fun aa ha => hK47 _ _ _ ?_ aa ha
          refine CW.yes rfl ?_
          refine CW.seq fun K48 hK48 => ?_
          refine CW.region [0] rfl ?_
          refine LW.ex rfl rfl rfl rfl (Ex.assign rfl) hS.rd ?_
          refine LW.nil fun aa ha => hK48 _ _ _ ?_ aa ha
          refine CW.ret fun aa ha => ?_
          refine ret_one ha Try.results90 rfl ?_
          have e : allC 3 s = false := all_not _ (i := i) (by omega) (by simp only [Bool.and_eq_false_iff, Bool.not_eq_false', decide_eq_true_eq, decide_eq_false_iff_not]; left; unfold classN; rw [if_neg (by omega), if_neg (by omega), if_neg (by omega)])
          rw [e]; exact hS.retS
        · have h5_16 := of_decide_eq_false h5_16
          refine LW.ex rfl rfl rfl rfl (Ex.move rfl) hS.rd ?_
          refine LW.ex rfl rfl rfl rfl (Ex.move rfl) hS.rd ?_
          refine LW.ex rfl rfl rfl rfl (Ex.gtr rfl rfl rfl) hS.rd ?_
          refine LW.splitB (fun h5_19 => ?_) (fun h5_19 => ?_)
          · have h5_19 := of_decide_eq_true h5_19
            refine LW.ex rfl rfl rfl rfl (by first | exact Ex.pick_yes rfl rfl | exact Ex.pick_no rfl rfl) hS.rd ?_
            refine LW.ex rfl rfl rfl rfl (by first | exact Ex.pick_yes rfl rfl | exact Ex.pick_no rfl rfl) hS.rd ?_
            refine LW.nil fun aa ha => hK47 _ _ _ ?_ aa ha
            refine CW.yes rfl ?_
            refine CW.seq fun K49 hK49 => ?_
            refine CW.region [0] rfl ?_
            refine LW.ex rfl rfl rfl rfl (Ex.assign rfl) hS.rd ?_
            refine LW.nil fun aa ha => hK49 _ _ _ ?_ aa ha
            refine CW.ret fun aa ha => ?_
            refine ret_one ha Try.results90 rfl ?_
            have e : allC 3 s = false := all_not _ (i := i) (by omega) (by simp only [Bool.and_eq_false_iff, Bool.not_eq_false', decide_eq_true_eq, decide_eq_false_iff_not]; left; unfold classN; rw [if_neg (by omega), if_neg (by omega), if_neg (by omega)])
            rw [e]; exact hS.retS
          · have h5_19 := of_decide_eq_false h5_19
            refine LW.ex rfl rfl rfl rfl (by first | exact Ex.pick_yes rfl rfl | exact Ex.pick_no rfl rfl) hS.rd ?_
            refine LW.ex rfl rfl rfl rfl (by first | exact Ex.pick_yes rfl rfl | exact Ex.pick_no rfl rfl) hS.rd ?_
            refine LW.nil fun aa ha => hK47 _ _ _ ?_ aa ha
            refine CW.no rfl ?_
            refine CW.skip fun aa ha => hK45 _ _ _ ?_ aa ha
            refine CW.region [0, 1, 2] rfl ?_
            refine LW.ex rfl rfl rfl rfl (Ex.move rfl) hS.rd ?_
            refine LW.ex rfl rfl rfl rfl (Ex.add rfl rfl (by first | exact inc64 (by omega) | exact addN (by omega) | exact w64 (by omega) (by omega))) hS.rd ?_
            refine LW.ex rfl rfl rfl rfl (Ex.assign rfl) hS.rd ?_
            refine LW.nil fun aa ha => ?_
            refine ⟨_, _, ?m2, ⟨i + 1, (by first | omega | (simp; done) | (simp; omega)), rfl, rfl, hS, ?_⟩, ha.sub ⟨rfl, rfl, trivial⟩⟩
            case m2 => omega
            intro j hj
            by_cases hji : j = i
            · subst hji; simp only [Bool.and_eq_true, Bool.not_eq_true', decide_eq_false_iff_not, decide_eq_true_eq]; unfold classN; (repeat (first | rw [if_pos (by omega)] | rw [if_neg (by omega)])); decide
            · exact he j (by omega)
      · have h5_8 := of_decide_eq_false h5_8
        refine LW.ex rfl rfl rfl rfl (Ex.move rfl) hS.rd ?_
        refine LW.ex rfl rfl rfl rfl (Ex.move rfl) hS.rd ?_
        refine LW.ex rfl rfl rfl rfl (Ex.gtr rfl rfl rfl) hS.rd ?_
        refine LW.splitB (fun h5_11 => ?_) (fun h5_11 => ?_)
        · have h5_11 := of_decide_eq_true h5_11
          refine LW.ex rfl rfl rfl rfl (by first | exact Ex.pick_yes rfl rfl | exact Ex.pick_no rfl rfl) hS.rd ?_
          refine LW.ex rfl rfl rfl rfl (by first | exact Ex.pick_yes rfl rfl | exact Ex.pick_no rfl rfl) hS.rd ?_
          refine LW.ex rfl rfl rfl rfl (Ex.move rfl) hS.rd ?_
          refine LW.ex rfl rfl rfl rfl (Ex.move rfl) hS.rd ?_
          refine LW.ex rfl rfl rfl rfl (Ex.lss rfl rfl rfl) hS.rd ?_
          refine LW.splitB (fun h5_16 => ?_) (fun h5_16 => ?_)
          · have h5_16 := of_decide_eq_true h5_16
            refine LW.ex rfl rfl rfl rfl (Ex.move rfl) hS.rd ?_
            refine LW.skip rfl rfl rfl rfl ?_
            refine LW.skip rfl rfl rfl rfl ?_
            refine LW.ex rfl rfl rfl rfl (by first | exact Ex.pick_yes rfl rfl | exact Ex.pick_no rfl rfl) hS.rd ?_
            refine LW.ex rfl rfl rfl rfl (by first | exact Ex.pick_yes rfl rfl | exact Ex.pick_no rfl rfl) hS.rd ?_
            refine LW.nil fun aa ha => hK47 _ _ _ ?_ aa ha
            refine CW.yes rfl ?_
            refine CW.seq fun K50 hK50 => ?_
            refine CW.region [0] rfl ?_
            refine LW.ex rfl rfl rfl rfl (Ex.assign rfl) hS.rd ?_
            refine LW.nil fun aa ha => hK50 _ _ _ ?_ aa ha
            refine CW.ret fun aa ha => ?_
            refine ret_one ha Try.results90 rfl ?_
            have e : allC 3 s = false := all_not _ (i := i) (by omega) (by simp only [Bool.and_eq_false_iff, Bool.not_eq_false', decide_eq_true_eq, decide_eq_false_iff_not]; left; unfold classN; rw [if_neg (by omega), if_neg (by omega), if_neg (by omega)])
            rw [e]; exact hS.retS
          · have h5_16 := of_decide_eq_false h5_16
            refine LW.ex rfl rfl rfl rfl (Ex.move rfl) hS.rd ?_
            refine LW.ex rfl rfl rfl rfl (Ex.move rfl) hS.rd ?_
            refine LW.ex rfl rfl rfl rfl (Ex.gtr rfl rfl rfl) hS.rd ?_
            refine LW.splitB (fun h5_19 => ?_) (fun h5_19 => ?_)
            · have h5_19 := of_decide_eq_true h5_19
              refine LW.ex rfl rfl rfl rfl (by first | exact Ex.pick_yes rfl rfl | exact Ex.pick_no rfl rfl) hS.rd ?_
              refine LW.ex rfl rfl rfl rfl (by first | exact Ex.pick_yes rfl rfl | exact Ex.pick_no rfl rfl) hS.rd ?_
              refine LW.nil fun aa ha => hK47 _ _ _ ?_ aa ha
              refine CW.yes rfl ?_
              refine CW.seq fun K51 hK51 => ?_
              refine CW.region [0] rfl ?_
              refine LW.ex rfl rfl rfl rfl (Ex.assign rfl) hS.rd ?_
              refine LW.nil fun aa ha => hK51 _ _ _ ?_ aa ha
              refine CW.ret fun aa ha => ?_
              refine ret_one ha Try.results90 rfl ?_
              have e : allC 3 s = false := all_not _ (i := i) (by omega) (by simp only [Bool.and_eq_false_iff, Bool.not_eq_false', decide_eq_true_eq, decide_eq_false_iff_not]; left; unfold classN; rw [if_neg (by omega), if_neg (by omega), if_neg (by omega)])
              rw [e]; exact hS.retS
            · have h5_19 := of_decide_eq_false h5_19
              refine LW.ex rfl rfl rfl rfl (by first | exact Ex.pick_yes rfl rfl | exact Ex.pick_no rfl rfl) hS.rd ?_
              refine LW.ex rfl rfl rfl rfl (by first | exact Ex.pick_yes rfl rfl | exact Ex.pick_no rfl rfl) hS.rd ?_
              refine LW.nil fun aa ha => hK47 _ _ _ ?_ aa ha
              refine CW.no rfl ?_
              refine CW.skip fun aa ha => hK45 _ _ _ ?_ aa ha
              refine CW.region [0, 1, 2] rfl ?_
              refine LW.ex rfl rfl rfl rfl (Ex.move rfl) hS.rd ?_
              refine LW.ex rfl rfl rfl rfl (Ex.add rfl rfl (by first | exact inc64 (by omega) | exact addN (by omega) | exact w64 (by omega) (by omega))) hS.rd ?_
              refine LW.ex rfl rfl rfl rfl (Ex.assign rfl) hS.rd ?_
              refine LW.nil fun aa ha => ?_
              refine ⟨_, _, ?m2, ⟨i + 1, (by first | omega | (simp; done) | (simp; omega)), rfl, rfl, hS, ?_⟩, ha.sub ⟨rfl, rfl, trivial⟩⟩
              case m2 => omega
              intro j hj
              by_cases hji : j = i
              · subst hji; simp only [Bool.and_eq_true, Bool.not_eq_true', decide_eq_false_iff_not, decide_eq_true_eq]; unfold classN; (repeat (first | rw [if_pos (by omega)] | rw [if_neg (by omega)])); decide
              · exact he j (by omega)
        · have h5_11 := of_decide_eq_false h5_11
          refine LW.ex rfl rfl rfl rfl (by first | exact Ex.pick_yes rfl rfl | exact Ex.pick_no rfl rfl) hS.rd ?_
          refine LW.ex rfl rfl rfl rfl (by first | exact Ex.pick_yes rfl rfl | exact Ex.pick_no rfl rfl) hS.rd ?_
          refine LW.ex rfl rfl rfl rfl (Ex.move rfl) hS.rd ?_
          refine LW.skip rfl rfl rfl rfl ?_
          refine LW.skip rfl rfl rfl rfl ?_
          refine LW.skip rfl rfl rfl rfl ?_
          refine LW.skip rfl rfl rfl rfl ?_
          refine LW.skip rfl rfl rfl rfl ?_
          refine LW.skip rfl rfl rfl rfl ?_
          refine LW.ex rfl rfl rfl rfl (by first | exact Ex.pick_yes rfl rfl | exact Ex.pick_no rfl rfl) hS.rd ?_
          refine LW.nil fun aa ha => hK47 _ _ _ ?_ aa ha
          refine CW.no rfl ?_
          refine CW.skip fun aa ha => hK45 _ _ _ ?_ aa ha
          refine CW.region [0, 1, 2] rfl ?_
          refine LW.ex rfl rfl rfl rfl (Ex.move rfl) hS.rd ?_
          refine LW.ex rfl rfl rfl rfl (Ex.add rfl rfl (by first | exact inc64 (by omega) | exact addN (by omega) | exact w64 (by omega) (by omega))) hS.rd ?_
          refine LW.ex rfl rfl rfl rfl (Ex.assign rfl) hS.rd ?_
          refine LW.nil fun aa ha => ?_
          refine ⟨_, _, ?m2, ⟨i + 1, (by first | omega | (simp; done) | (simp; omega)), rfl, rfl, hS, ?_⟩, ha.sub ⟨rfl, rfl, trivial⟩⟩
          case m2 => omega
          intro j hj
          by_cases hji : j = i
          · subst hji; simp only [Bool.and_eq_true, Bool.not_eq_true', decide_eq_false_iff_not, decide_eq_true_eq]; unfold classN; (repeat (first | rw [if_pos (by omega)] | rw [if_neg (by omega)])); decide
          · exact he j (by omega)
    · have h5_1 := of_decide_eq_false h5_1
      refine LW.ex rfl rfl rfl rfl (Ex.move rfl) hS.rd ?_
      refine LW.ex rfl rfl rfl rfl (Ex.move rfl) hS.rd ?_
      refine LW.ex rfl rfl rfl rfl (Ex.gtr rfl rfl rfl) hS.rd ?_
      refine LW.splitB (fun h5_4 => ?_) (fun h5_4 => ?_)
      · have h5_4 := of_decide_eq_true h5_4
        refine LW.ex rfl rfl rfl rfl (by first | exact Ex.pick_yes rfl rfl | exact Ex.pick_no rfl rfl) hS.rd ?_
        refine LW.ex rfl rfl rfl rfl (Ex.move rfl) hS.rd ?_
        refine LW.ex rfl rfl rfl rfl (Ex.move rfl) hS.rd ?_
        refine LW.ex rfl rfl rfl rfl (Ex.lss rfl rfl rfl) hS.rd ?_
        refine LW.splitB (fun h5_8 => ?_) (fun h5_8 => ?_)
        · have h5_8 := of_decide_eq_true h5_8
          refine LW.ex rfl rfl rfl rfl (Ex.move rfl) hS.rd ?_
          refine LW.skip rfl rfl rfl rfl ?_
          refine LW.skip rfl rfl rfl rfl ?_
          refine LW.ex rfl rfl rfl rfl (by first | exact Ex.pick_yes rfl rfl | exact Ex.pick_no rfl rfl) hS.rd ?_
          refine LW.ex rfl rfl rfl rfl (by first | exact Ex.pick_yes rfl rfl | exact Ex.pick_no rfl rfl) hS.rd ?_
          refine LW.ex rfl rfl rfl rfl (Ex.move rfl) hS.rd ?_
          refine LW.ex rfl rfl rfl rfl (Ex.move rfl) hS.rd ?_
          refine LW.ex rfl rfl rfl rfl (Ex.lss rfl rfl rfl) hS.rd ?_
          refine LW.splitB (fun h5_16 => ?_) (fun h5_16 => ?_)
          · have h5_16 := of_decide_eq_true h5_16
            refine LW.ex rfl rfl rfl rfl (Ex.move rfl) hS.rd ?_
            refine LW.skip rfl rfl rfl rfl ?_
            refine LW.skip rfl rfl rfl rfl ?_
            refine LW.ex rfl rfl rfl rfl (by first | exact Ex.pick_yes rfl rfl | exact Ex.pick_no rfl rfl) hS.rd ?_
            refine LW.ex rfl rfl rfl rfl (by first | exact Ex.pick_yes rfl rfl | exact Ex.pick_no rfl rfl) hS.rd ?_
            refine LW.nil fun aa ha => hK47 _ _ _ ?_ aa ha
            refine CW.yes rfl ?_
            refine CW.seq fun K52 hK52 => ?_
            refine CW.region [0] rfl ?_
            refine LW.ex rfl rfl rfl rfl (Ex.assign rfl) hS.rd ?_
            refine LW.nil fun aa ha => hK52 _ _ _ ?_ aa ha
            refine CW.ret fun aa ha => ?_
            refine ret_one ha Try.results90 rfl ?_
            have e : allC 3 s = false := all_not _ (i := i) (by omega) (by simp only [Bool.and_eq_false_iff, Bool.not_eq_false', decide_eq_true_eq, decide_eq_false_iff_not]; left; unfold classN; rw [if_neg (by omega), if_neg (by omega), if_neg (by omega)])
            rw [e]; exact hS.retS
          · have h5_16 := of_decide_eq_false h5_16
            refine LW.ex rfl rfl rfl rfl (Ex.move rfl) hS.rd ?_
            refine LW.ex rfl rfl rfl rfl (Ex.move rfl) hS.rd ?_
            refine LW.ex rfl rfl rfl rfl (Ex.gtr rfl rfl rfl) hS.rd ?_
            refine LW.splitB (fun h5_19 => ?_) (fun h5_19 => ?_)
            · have h5_19 := of_decide_eq_true h5_19
              refine LW.ex rfl rfl rfl rfl (by first | exact Ex.pick_yes rfl rfl | exact Ex.pick_no rfl rfl) hS.rd ?_
              refine LW.ex rfl rfl rfl rfl (by first | exact Ex.pick_yes rfl rfl | exact Ex.pick_no rfl rfl) hS.rd ?_
              refine LW.nil fun aa ha => hK47 _ _ _ ?_ aa ha
              refine CW.yes rfl ?_
              refine CW.seq fun K53 hK53 => ?_
              refine CW.region [0] rfl ?_
              refine LW.ex rfl rfl rfl rfl (Ex.assign rfl) hS.rd ?_
              refine LW.nil fun aa ha => hK53 _ _ _ ?_ aa ha
              refine CW.ret fun aa ha => ?_
              refine ret_one ha Try.results90 rfl ?_
              have e : allC 3 s = false := all_not _ (i := i) (by omega) (by simp only [Bool.and_eq_false_iff, Bool.not_eq_false', decide_eq_true_eq, decide_eq_false_iff_not]; left; unfold classN; rw [if_neg (by omega), if_neg (by omega), if_neg (by omega)])
              rw [e]; exact hS.retS
            · have h5_19 := of_decide_eq_false h5_19
              refine LW.ex rfl rfl rfl rfl (by first | exact Ex.pick_yes rfl rfl | exact Ex.pick_no rfl rfl) hS.rd ?_
              refine LW.ex rfl rfl rfl rfl (by first | exact Ex.pick_yes rfl rfl | exact Ex.pick_no rfl rfl) hS.rd ?_
              refine LW.nil fun aa ha => hK47 _ _ _ ?_ aa ha
              refine CW.no rfl ?_
              refine CW.skip fun aa ha => hK45 _ _ _ ?_ aa ha
              refine CW.region [0, 1, 2] rfl ?_
              refine LW.ex rfl rfl rfl rfl (Ex.move rfl) hS.rd ?_
              refine LW.ex rfl rfl rfl rfl (Ex.add rfl rfl (by first | exact inc64 (by omega) | exact addN (by omega) | exact w64 (by omega) (by omega))) hS.rd ?_
              refine LW.ex rfl rfl rfl rfl (Ex.assign rfl) hS.rd ?_
              refine LW.nil fun aa ha => ?_
              refine ⟨_, _, ?m2, ⟨i + 1, (by first | omega | (simp; done) | (simp; omega)), rfl, rfl, hS, ?_⟩, ha.sub ⟨rfl, rfl, trivial⟩⟩
              case m2 => omega
              intro j hj
              by_cases hji : j = i
              · subst hji; simp only [Bool.and_eq_true, Bool.not_eq_true', decide_eq_false_iff_not, decide_eq_true_eq]; unfold classN; (repeat (first | rw [if_pos (by omega)] | rw [if_neg (by omega)])); decide
              · exact he j (by omega)
        · have h5_8 := of_decide_eq_false h5_8
          refine LW.ex rfl rfl rfl rfl (Ex.move rfl) hS.rd ?_
          refine LW.ex rfl rfl rfl rfl (Ex.move rfl) hS.rd ?_
          refine LW.ex rfl rfl rfl rfl (Ex.gtr rfl rfl rfl) hS.rd ?_
          refine LW.splitB (fun h5_11 => ?_) (fun h5_11 => ?_)
          · have h5_11 := of_decide_eq_true h5_11
            refine LW.ex rfl rfl rfl rfl (by first | exact Ex.pick_yes rfl rfl | exact Ex.pick_no rfl rfl) hS.rd ?_
            refine LW.ex rfl rfl rfl rfl (by first | exact Ex.pick_yes rfl rfl | exact Ex.pick_no rfl rfl) hS.rd ?_
            refine LW.ex rfl rfl rfl rfl (Ex.move rfl) hS.rd ?_
            refine LW.ex rfl rfl rfl rfl (Ex.move rfl) hS.rd ?_
            refine LW.ex rfl rfl rfl rfl (Ex.lss rfl rfl rfl) hS.rd ?_
            refine LW.splitB (fun h5_16 => ?_) (fun h5_16 => ?_)
            · have h5_16 := of_decide_eq_true h5_16
              refine LW.ex rfl rfl rfl rfl (Ex.move rfl) hS.rd ?_
              refine LW.skip rfl rfl rfl rfl ?_
              refine LW.skip rfl rfl rfl rfl ?_
              refine LW.ex rfl rfl rfl rfl (by first | exact Ex.pick_yes rfl rfl | exact Ex.pick_no rfl rfl) hS.rd ?_
              refine LW.ex rfl rfl rfl rfl (by first | exact Ex.pick_yes rfl rfl | exact Ex.pick_no rfl rfl) hS.rd ?_
              refine LW.nil fun aa ha => hK47 _ _ _ ?_ aa ha
              refine CW.yes rfl ?_
              refine CW.seq fun K54 hK54 => ?_
              refine CW.region [0] rfl ?_
              refine LW.ex rfl rfl rfl rfl (Ex.assign rfl) hS.rd ?_
              refine LW.nil fun aa ha => hK54 _ _ _ ?_ aa ha
              refine CW.ret fun aa ha => ?_
              refine ret_one ha Try.results90 rfl ?_
              have e : allC 3 s = false := all_not _ (i := i) (by omega) (by simp only [Bool.and_eq_false_iff, Bool.not_eq_false', decide_eq_true_eq, decide_eq_false_iff_not]; left; unfold classN; rw [if_neg (by omega), if_neg (by omega), if_neg (by omega)])
              rw [e]; exact hS.retS
            · have h5_16 := of_decide_eq_false h5_16
              refine LW.ex rfl rfl rfl rfl (Ex.move rfl) hS.rd ?_
              refine LW.ex rfl rfl rfl rfl (Ex.move rfl) hS.rd ?_
              refine LW.ex rfl rfl rfl rfl (Ex.gtr rfl rfl rfl) hS.rd ?_
              refine LW.splitB (fun h5_19 => ?_) (fun h5_19 => ?_)
              · have h5_19 := of_decide_eq_true h5_19
                refine LW.ex rfl rfl rfl rfl (by first | exact Ex.pick_yes rfl rfl | exact Ex.pick_no rfl rfl) hS.rd ?_
                refine LW.ex rfl rfl rfl rfl (by first | exact Ex.pick_yes rfl rfl | exact Ex.pick_no rfl rfl) hS.rd ?_
                refine LW.nil fun aa ha => hK47 _ _ _ ?_ aa ha
                refine CW.yes rfl ?_
                refine CW.seq fun K55 hK55 => ?_
                refine CW.region [0] rfl ?_
                refine LW.ex rfl rfl rfl rfl (Ex.assign rfl) hS.rd ?_
                refine LW.nil fun aa ha => hK55 _ _ _ ?_ aa ha
                refine CW.ret fun aa ha => ?_
                refine ret_one ha Try.results90 rfl ?_
                have e : allC 3 s = false := all_not _ (i := i) (by omega) (by simp only [Bool.and_eq_false_iff, Bool.not_eq_false', decide_eq_true_eq, decide_eq_false_iff_not]; left; unfold classN; rw [if_neg (by omega), if_neg (by omega), if_neg (by omega)])
                rw [e]; exact hS.retS
              · have h5_19 := of_decide_eq_false h5_19
                refine LW.ex rfl rfl rfl rfl (by first | exact Ex.pick_yes rfl rfl | exact Ex.pick_no rfl rfl) hS.rd ?_
                refine LW.ex rfl rfl rfl rfl (by first | exact Ex.pick_yes rfl rfl | exact Ex.pick_no rfl rfl) hS.rd ?_
                refine LW.nil fun aa ha => hK47 _ _ _ ?_ aa ha
                refine CW.no rfl ?_
                refine CW.skip fun aa ha => hK45 _ _ _ ?_ aa ha
                refine CW.region [0, 1, 2] rfl ?_
                refine LW.ex rfl rfl rfl rfl (Ex.move rfl) hS.rd ?_
                refine LW.ex rfl rfl rfl rfl (Ex.add rfl rfl (by first | exact inc64 (by omega) | exact addN (by omega) | exact w64 (by omega) (by omega))) hS.rd ?_
                refine LW.ex rfl rfl rfl rfl (Ex.assign rfl) hS.rd ?_
                refine LW.nil fun aa ha => ?_
                refine ⟨_, _, ?m2, ⟨i + 1, (by first | omega | (simp; done) | (simp; omega)), rfl, rfl, hS, ?_⟩, ha.sub ⟨rfl, rfl, trivial⟩⟩
                case m2 => omega
                intro j hj
                by_cases hji : j = i
                · subst hji; simp only [Bool.and_eq_true, Bool.not_eq_true', decide_eq_false_iff_not, decide_eq_true_eq]; unfold classN; (repeat (first | rw [if_pos (by omega)] | rw [if_neg (by omega)])); decide
                · exact he j (by omega)
          · have h5_11 := of_decide_eq_false h5_11
            refine LW.ex rfl rfl rfl rfl (by first | exact Ex.pick_yes rfl rfl | exact Ex.pick_no rfl rfl) hS.rd ?_
            refine LW.ex rfl rfl rfl rfl (by first | exact Ex.pick_yes rfl rfl | exact Ex.pick_no rfl rfl) hS.rd ?_
            refine LW.ex rfl rfl rfl rfl (Ex.move rfl) hS.rd ?_
            refine LW.skip rfl rfl rfl rfl ?_
            refine LW.skip rfl rfl rfl rfl ?_
            refine LW.skip rfl rfl rfl rfl ?_
            refine LW.skip rfl rfl rfl rfl ?_
            refine LW.skip rfl rfl rfl rfl ?_
            refine LW.skip rfl rfl rfl rfl ?_
            refine LW.ex rfl rfl rfl rfl (by first | exact Ex.pick_yes rfl rfl | exact Ex.pick_no rfl rfl) hS.rd ?_
            refine LW.nil fun aa ha => hK47 _ _ _ ?_ aa ha
            refine CW.no rfl ?_
            refine CW.skip fun aa ha => hK45 _ _ _ ?_ aa ha
            refine CW.region [0, 1, 2] rfl ?_
            refine LW.ex rfl rfl rfl rfl (Ex.move rfl) hS.rd ?_
            refine LW.ex rfl rfl rfl rfl (Ex.add rfl rfl (by first | exact inc64 (by omega) | exact addN (by omega) | exact w64 (by omega) (by omega))) hS.rd ?_
            refine LW.ex rfl rfl rfl rfl (Ex.assign rfl) hS.rd ?_
            refine LW.nil fun aa ha => ?_
            refine ⟨_, _, ?m2, ⟨i + 1, (by first | omega | (simp; done) | (simp; omega)), rfl, rfl, hS, ?_⟩, ha.sub ⟨rfl, rfl, trivial⟩⟩
            case m2 => omega
            intro j hj
            by_cases hji : j = i
            · subst hji; simp only [Bool.and_eq_true, Bool.not_eq_true', decide_eq_false_iff_not, decide_eq_true_eq]; unfold classN; (repeat (first | rw [if_pos (by omega)] | rw [if_neg (by omega)])); decide
            · exact he j (by omega)
      · have h5_4 := of_decide_eq_false h5_4
        refine LW.ex rfl rfl rfl rfl (by first | exact Ex.pick_yes rfl rfl | exact Ex.pick_no rfl rfl) hS.rd ?_
        refine LW.ex rfl rfl rfl rfl (Ex.move rfl) hS.rd ?_
        refine LW.skip rfl rfl rfl rfl ?_
        refine LW.skip rfl rfl rfl rfl ?_
        refine LW.skip rfl rfl rfl rfl ?_
        refine LW.skip rfl rfl rfl rfl ?_
        refine LW.skip rfl rfl rfl rfl ?_
        refine LW.skip rfl rfl rfl rfl ?_
        refine LW.ex rfl rfl rfl rfl (by first | exact Ex.pick_yes rfl rfl | exact Ex.pick_no rfl rfl) hS.rd ?_
        refine LW.ex rfl rfl rfl rfl (Ex.move rfl) hS.rd ?_
        refine LW.skip rfl rfl rfl rfl ?_
        refine LW.skip rfl rfl rfl rfl ?_
        refine LW.skip rfl rfl rfl rfl ?_
        refine LW.skip rfl rfl rfl rfl ?_
        refine LW.skip rfl rfl rfl rfl ?_
        refine LW.skip rfl rfl rfl rfl ?_
        refine LW.ex rfl rfl rfl rfl (by first | exact Ex.pick_yes rfl rfl | exact Ex.pick_no rfl rfl) hS.rd ?_
        refine LW.nil fun aa ha => hK47 _ _ _ ?_ aa ha
        refine CW.no rfl ?_
        refine CW.skip fun aa ha => hK45 _ _ _ ?_ aa ha
        refine CW.region [0, 1, 2] rfl ?_
        refine LW.ex rfl rfl rfl rfl (Ex.move rfl) hS.rd ?_
        refine LW.ex rfl rfl rfl rfl (Ex.add rfl rfl (by first | exact inc64 (by omega) | exact addN (by omega) | exact w64 (by omega) (by omega))) hS.rd ?_
        refine LW.ex rfl rfl rfl rfl (Ex.assign rfl) hS.rd ?_
        refine LW.nil fun aa ha => ?_
        refine ⟨_, _, ?m2, ⟨i + 1, (by first | omega | (simp; done) | (simp; omega)), rfl, rfl, hS, ?_⟩, ha.sub ⟨rfl, rfl, trivial⟩⟩
        case m2 => omega
        intro j hj
        by_cases hji : j = i
        · subst hji; simp only [Bool.and_eq_true, Bool.not_eq_true', decide_eq_false_iff_not, decide_eq_true_eq]; unfold classN; (repeat (first | rw [if_pos (by omega)] | rw [if_neg (by omega)])); decide
        · exact he j (by omega)
  · have h2_3 := of_decide_eq_false h2_3
    refine LW.nil fun aa ha => hK44 _ _ _ ?_ aa ha
    refine CW.no rfl ?_
    refine CW.exit fun aa ha => hK41 _ _ _ ?_ aa ha
    refine CW.seq fun K56 hK56 => ?_
    refine CW.region [0] rfl ?_
    refine LW.ex rfl rfl rfl rfl (Ex.assign rfl) hS.rd ?_
    refine LW.nil fun aa ha => hK56 _ _ _ ?_ aa ha
    refine CW.ret fun aa ha => ?_
    refine ret_one ha Try.results90 rfl ?_
    have e : allC 3 s = true := all_yes _ fun j hj => he j (by omega)
    rw [e]; exact hS.retS
theorem refword_c (s : ByteArray) (w : World) (hs : s.size ≤ 9223372036854775807) : Calls Try.prog 79 #[.string s] w (RetS w (.bool (wordOk s))) := by
  have hS := St.start w (fun _ => none) (fun _ _ h => by cases h)
  refine calls_start 10 [.string s] Try.func79 rfl Try.ntmps79 rfl rfl ?_
  refine CW.seq fun K57 hK57 => ?_
  refine CW.region [0] rfl ?_
  refine LW.ex rfl rfl rfl rfl (Ex.assign rfl) hS.rd ?_
  refine LW.nil fun aa ha => hK57 _ _ _ ?_ aa ha
  refine CW.seq fun K58 hK58 => ?_
  refine CW.region [0, 1, 2, 3, 4, 5, 6, 7] rfl ?_
  refine LW.ex rfl rfl rfl rfl (Ex.move rfl) hS.rd ?_
  refine LW.ex rfl rfl rfl rfl (Ex.lenS rfl Try.underlying9 rfl) hS.rd ?_
  refine LW.hv rfl rfl rfl rfl (Hv.callS hS rfl rfl rfl cb36 (in_c _ _ _ _)) fun v w5 ⟨hv, hS⟩ => ?_
  subst hv
  refine LW.splitB (fun h1_2 => ?_) (fun h1_2 => ?_)
  · skip
    refine LW.ex rfl rfl rfl rfl (Ex.move rfl) hS.rd ?_
    refine LW.ex rfl rfl rfl rfl (Ex.move rfl) hS.rd ?_
    refine LW.hv rfl rfl rfl rfl (Hv.callS hS rfl rfl rfl cb90 (plain_c s _ hs)) fun v w8 ⟨hv, hS⟩ => ?_
    subst hv
    refine LW.ex rfl rfl rfl rfl (by first | exact Ex.pick_yes rfl rfl | exact Ex.pick_no rfl rfl) hS.rd ?_
    refine LW.ex rfl rfl rfl rfl (Ex.assign rfl) hS.rd ?_
    refine LW.nil fun aa ha => hK58 _ _ _ ?_ aa ha
    refine CW.ret fun aa ha => ?_
    refine ret_one ha Try.results79 rfl ?_
    refine hS.retB ?_
    unfold wordOk
    unfold inR at h1_2
    simp_all; try omega
  · skip
    refine LW.ex rfl rfl rfl rfl (Ex.move rfl) hS.rd ?_
    refine LW.skip rfl rfl rfl rfl ?_
    refine LW.skip rfl rfl rfl rfl ?_
    refine LW.ex rfl rfl rfl rfl (by first | exact Ex.pick_yes rfl rfl | exact Ex.pick_no rfl rfl) hS.rd ?_
    refine LW.ex rfl rfl rfl rfl (Ex.assign rfl) hS.rd ?_
    refine LW.nil fun aa ha => hK58 _ _ _ ?_ aa ha
    refine CW.ret fun aa ha => ?_
    refine ret_one ha Try.results79 rfl ?_
    refine hS.retB ?_
    unfold wordOk
    unfold inR at h1_2
    simp_all; try omega

/-! ### Models -/
def sumN (l : List Pr) (a : Int) : Int := ((afterL l a).map (·.N)).sum
structure MdlOk (m : Mdl) : Prop where
  n1 : 1 ≤ m.Words.length
  n2 : m.Words.length ≤ 200
  nc : m.Counts.length = m.Words.length
  words : rises wordOk sLt none m.Words = true
  c0 : ∀ x ∈ m.Counts, 0 ≤ x
  cs : m.Counts.sum ≤ 1073741824
  pl : m.Pairs.length ≤ 1000
  ps : PrSort m.Pairs
  pp : ∀ p ∈ m.Pairs, 0 ≤ p.A ∧ p.A < m.Words.length ∧ 0 ≤ p.B ∧ p.B < m.Words.length ∧ 1 ≤ p.N
  sum : ∀ a, sumN m.Pairs a ≤ 1073741824
  b0 : 0 ≤ m.Back
  b1 : m.Back ≤ 1000
theorem le_sum {l : List Int} (h : ∀ x ∈ l, 0 ≤ x) {x : Int} (hx : x ∈ l) : x ≤ l.sum ∧ 0 ≤ l.sum := by
  induction l with
  | nil => cases hx
  | cons y r ih =>
    have hr : 0 ≤ r.sum := by
      clear ih hx
      have hr := fun z hz => h z (List.mem_cons_of_mem _ hz)
      clear h
      induction r with
      | nil => simp
      | cons z s ihs => have := hr z (List.mem_cons_self ..); have := ihs fun u hu => hr u (List.mem_cons_of_mem _ hu); simp only [List.sum_cons]; omega
    have hy := h y (List.mem_cons_self ..)
    simp only [List.sum_cons]
    rcases List.mem_cons.1 hx with rfl | hx
    · omega
    · have := (ih (fun z hz => h z (List.mem_cons_of_mem _ hz)) hx).1; omega
theorem sum_nonneg {l : List Int} (h : ∀ x ∈ l, 0 ≤ x) : 0 ≤ l.sum := by
  cases l with
  | nil => simp
  | cons y r => exact (le_sum h (List.mem_cons_self ..)).2
theorem total_ok {b : Int} (hb : 0 ≤ b) : ∀ {l : List Int} {acc : Int}, 0 ≤ acc → (∀ x ∈ l, b ≤ x) → acc + l.sum ≤ 1073741824 → totalGo b acc l = (acc + l.sum, true)
  | [], acc, _, _, h => by simp only [totalGo, List.sum_nil, Int.add_zero] at *; rw [decide_eq_true h]
  | x :: r, acc, h0, hx, h => by
    have h1 := hx x (List.mem_cons_self ..)
    have h2 := sum_nonneg fun y hy => Int.le_trans hb (hx y (List.mem_cons_of_mem _ hy))
    simp only [List.sum_cons] at h ⊢
    rw [totalGo, if_neg (by omega), total_ok hb (by omega) (fun y hy => hx y (List.mem_cons_of_mem _ hy)) (by omega)]
    rw [show acc + x + r.sum = acc + (x + r.sum) by omega]
theorem total_iff {b : Int} (hb : 0 ≤ b) : ∀ {l : List Int} {acc : Int}, 0 ≤ acc → ((totalGo b acc l).2 = true ↔ (∀ x ∈ l, b ≤ x) ∧ acc + l.sum ≤ 1073741824)
  | [], acc, _ => by simp [totalGo]
  | x :: r, acc, h0 => by
    rw [totalGo]
    split
    · rename_i h
      simp only [Bool.false_eq_true, false_iff, not_and]
      intro hx
      have h1 := hx x (List.mem_cons_self ..)
      have h2 := sum_nonneg fun y hy => Int.le_trans hb (hx y (List.mem_cons_of_mem _ hy))
      simp only [List.sum_cons]; omega
    · rw [total_iff hb (by omega)]
      simp only [List.mem_cons, forall_eq_or_imp, List.sum_cons]
      constructor
      · rintro ⟨h1, h2⟩; exact ⟨⟨by omega, h1⟩, by omega⟩
      · rintro ⟨⟨h1, h2⟩, h3⟩; exact ⟨h2, by omega⟩
def wordC (m : Mdl) (w : Int) : Int := logZ (m.Counts.sum + m.Words.length) - logZ (m.Counts[w.toNat]?.getD 0 + 1)
def pairC (m : Mdl) (prev w : Int) : Int := if prev < 0 then wordC m w else match m.Pairs.find? (fun p => decide (p.A = prev ∧ p.B = w)) with
  | none => m.Back + wordC m w
  | some p => logZ (sumN m.Pairs prev) - logZ p.N
theorem logZ_nat (n : Nat) : logZ n = if n < 1 then 0 else (logN n : Int) := by
  unfold logZ; split <;> rename_i h
  · rw [if_pos (by omega)]
  · rw [if_neg (by omega), Int.toNat_natCast]
theorem logN_bound {n : Nat} (h1 : 1 ≤ n) (h2 : n < 2 ^ 62) : logN n < 504 := by
  have := logN_lt h1
  have := log2_62 h1 h2
  omega
theorem logZ_bound {n : Int} (h : n < 4611686018427387904) : 0 ≤ logZ n ∧ logZ n < 504 := by
  by_cases h1 : n < 1
  · unfold logZ; rw [if_pos h1]; omega
  · obtain ⟨N, rfl⟩ : ∃ N : Nat, n = N := ⟨n.toNat, by omega⟩
    rw [logZ_nat, if_neg (by omega)]
    have := logN_bound (n := N) (by omega) (by omega)
    omega
theorem logZ_mono {a b : Int} (h : a ≤ b) : logZ a ≤ logZ b := by
  unfold logZ; split
  · split <;> omega
  · rw [if_neg (by omega)]
    have := logN_mono (m := a.toNat) (n := b.toNat) (by omega) (by omega)
    omega
theorem MdlOk.count {m : Mdl} (h : MdlOk m) {w : Int} : 0 ≤ m.Counts[w.toNat]?.getD 0 ∧ m.Counts[w.toNat]?.getD 0 ≤ m.Counts.sum ∧ 0 ≤ m.Counts.sum := by
  have h0 := sum_nonneg h.c0
  cases hx : m.Counts[w.toNat]? with
  | none => simp; exact h0
  | some x =>
    have hm := List.mem_of_getElem? hx
    have := h.c0 x hm
    have := le_sum h.c0 hm
    simp; omega
theorem MdlOk.wordC0 {m : Mdl} (h : MdlOk m) (w : Int) : 0 ≤ wordC m w ∧ wordC m w < 504 := by
  obtain ⟨h1, h2, h3⟩ := h.count (w := w)
  have hn := h.n1
  have hn2 := h.n2
  have hcs := h.cs
  unfold wordC
  have := logZ_mono (a := m.Counts[w.toNat]?.getD 0 + 1) (b := m.Counts.sum + m.Words.length) (by omega)
  have := logZ_bound (n := m.Counts.sum + m.Words.length) (by omega)
  have := logZ_bound (n := m.Counts[w.toNat]?.getD 0 + 1) (by omega)
  omega
end Go.Proofs.Ytgnpjhellmfhoaa

