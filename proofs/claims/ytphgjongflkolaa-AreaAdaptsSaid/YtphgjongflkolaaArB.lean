/-
  Areas: distances, middles; the walks of the reference's Shift and Cost.
-/
import Derived.Test.YtphgjongflkolaaArA
namespace Go.Proofs.Ytphgjongflkolaa
open Go.RowKit Sy

def away (n lo hi : Int) : Int := max (max (lo - n) (n - hi)) 0
theorem away_c (n lo hi : Int) (w : World) (h1 : -1000000 ≤ n ∧ n ≤ 1000000) (h2 : -1000000 ≤ lo ∧ lo ≤ 1000000) (h3 : -1000000 ≤ hi ∧ hi ≤ 1000000) : Calls Try.prog 62 #[.int .i64 n, .int .i64 lo, .int .i64 hi] w (RetS w (.int .i64 (away n lo hi))) := by
  have hS := St.start w (fun _ => none) (fun _ _ h => by cases h)
  refine calls_start 14 [.int .i64 n, .int .i64 lo, .int .i64 hi] Try.func62 rfl Try.ntmps62 rfl rfl ?_
  refine CW.seq fun K0 hK0 => ?_
  refine CW.region [0] rfl ?_
  refine LW.ex rfl rfl rfl rfl (Ex.assign rfl) hS.rd ?_
  refine LW.nil fun aa ha => hK0 _ _ _ ?_ aa ha
  refine CW.seq fun K1 hK1 => ?_
  refine CW.region [0, 1, 2, 3, 4, 5, 6, 7] rfl ?_
  refine LW.ex rfl rfl rfl rfl (Ex.move rfl) hS.rd ?_
  refine LW.ex rfl rfl rfl rfl (Ex.move rfl) hS.rd ?_
  refine LW.ex rfl rfl rfl rfl (Ex.sub rfl rfl (by first | exact dec64 (by omega) (by omega) | exact subN (by omega) (by omega) | exact w64 (by omega) (by omega))) hS.rd ?_
  refine LW.ex rfl rfl rfl rfl (Ex.move rfl) hS.rd ?_
  refine LW.ex rfl rfl rfl rfl (Ex.move rfl) hS.rd ?_
  refine LW.ex rfl rfl rfl rfl (Ex.sub rfl rfl (by first | exact dec64 (by omega) (by omega) | exact subN (by omega) (by omega) | exact w64 (by omega) (by omega))) hS.rd ?_
  refine LW.ex rfl rfl rfl rfl (Ex.max3 rfl rfl rfl rfl) hS.rd ?_
  refine LW.ex rfl rfl rfl rfl (Ex.assign rfl) hS.rd ?_
  refine LW.nil fun aa ha => hK1 _ _ _ ?_ aa ha
  refine CW.ret fun aa ha => ?_
  exact ret_one ha Try.results62 rfl hS.retS
theorem refaway_c (n lo hi : Int) (w : World) (h1 : -1000000 ≤ n ∧ n ≤ 1000000) (h2 : -1000000 ≤ lo ∧ lo ≤ 1000000) (h3 : -1000000 ≤ hi ∧ hi ≤ 1000000) : Calls Try.prog 60 #[.int .i64 n, .int .i64 lo, .int .i64 hi] w (RetS w (.int .i64 (away n lo hi))) := by
  have hS := St.start w (fun _ => none) (fun _ _ h => by cases h)
  refine calls_start 14 [.int .i64 n, .int .i64 lo, .int .i64 hi] Try.func60 rfl Try.ntmps60 rfl rfl ?_
  refine CW.seq fun K0 hK0 => ?_
  refine CW.region [0] rfl ?_
  refine LW.ex rfl rfl rfl rfl (Ex.assign rfl) hS.rd ?_
  refine LW.nil fun aa ha => hK0 _ _ _ ?_ aa ha
  refine CW.seq fun K1 hK1 => ?_
  refine CW.region [0, 1, 2, 3, 4, 5, 6, 7] rfl ?_
  refine LW.ex rfl rfl rfl rfl (Ex.move rfl) hS.rd ?_
  refine LW.ex rfl rfl rfl rfl (Ex.move rfl) hS.rd ?_
  refine LW.ex rfl rfl rfl rfl (Ex.sub rfl rfl (by first | exact dec64 (by omega) (by omega) | exact subN (by omega) (by omega) | exact w64 (by omega) (by omega))) hS.rd ?_
  refine LW.ex rfl rfl rfl rfl (Ex.move rfl) hS.rd ?_
  refine LW.ex rfl rfl rfl rfl (Ex.move rfl) hS.rd ?_
  refine LW.ex rfl rfl rfl rfl (Ex.sub rfl rfl (by first | exact dec64 (by omega) (by omega) | exact subN (by omega) (by omega) | exact w64 (by omega) (by omega))) hS.rd ?_
  refine LW.ex rfl rfl rfl rfl (Ex.max3 rfl rfl rfl rfl) hS.rd ?_
  refine LW.ex rfl rfl rfl rfl (Ex.assign rfl) hS.rd ?_
  refine LW.nil fun aa ha => hK1 _ _ _ ?_ aa ha
  refine CW.ret fun aa ha => ?_
  exact ret_one ha Try.results60 rfl hS.retS

theorem refinside_c (p : Pt) (w : World) : Calls Try.prog 39 #[ptV p] w (RetS w (.bool (inP p))) := by
  have hS := St.start w (fun _ => none) (fun _ _ h => by cases h)
  refine calls_start 21 [ptV p] Try.func39 rfl Try.ntmps39 rfl rfl ?_
  refine CW.seq fun K0 hK0 => ?_
  refine CW.region [0, 1] rfl ?_
  refine LW.hv rfl rfl rfl rfl (Hv.box hS rfl) fun v w1 ⟨b1, hv, hb1, hS⟩ => ?_
  subst hv
  refine LW.ex rfl rfl rfl rfl (Ex.assign rfl) hS.rd ?_
  refine LW.nil fun aa ha => hK0 _ _ _ ?_ aa ha
  by_cases c1 : 0 ≤ p.X
  · by_cases c2 : p.X ≤ 1000
    · by_cases c3 : 0 ≤ p.Y
      · by_cases c4 : p.Y ≤ 1000
        · skip
          refine CW.seq fun K1 hK1 => ?_
          refine CW.region [0, 1, 2, 3, 4, 5, 6, 7, 8, 9, 10, 11, 12, 13, 14, 15, 16, 17, 18] rfl ?_
          refine LW.ex rfl rfl rfl rfl (Ex.fieldA Try.underlying36 rfl ti3 rfl) hS.rd ?_
          refine LW.ex rfl rfl rfl rfl (Ex.load1 ti3 rfl rfl (by first | exact Rd.obj (k := 0) rfl rfl | exact Rd.obj (k := 1) rfl rfl | exact Rd.obj (k := 2) rfl rfl | exact Rd.obj (k := 3) rfl rfl | exact Rd.obj (k := 4) rfl rfl | exact Rd.imm (by assumption) | exact Rd.sl (k := 0) rfl (by assumption) | exact Rd.sl (k := 1) rfl (by assumption) | exact Rd.sl (k := 2) rfl (by assumption) | exact Rd.sl (k := 3) rfl (by assumption))) hS.rd ?_
          refine LW.ex rfl rfl rfl rfl (Ex.geq rfl rfl (by first | exact decide_eq_true (by omega) | exact decide_eq_false (by omega) | rfl)) hS.rd ?_
          refine LW.ex rfl rfl rfl rfl (Ex.move rfl) hS.rd ?_
          refine LW.ex rfl rfl rfl rfl (Ex.fieldA Try.underlying36 rfl ti3 rfl) hS.rd ?_
          refine LW.ex rfl rfl rfl rfl (Ex.load1 ti3 rfl rfl (by first | exact Rd.obj (k := 0) rfl rfl | exact Rd.obj (k := 1) rfl rfl | exact Rd.obj (k := 2) rfl rfl | exact Rd.obj (k := 3) rfl rfl | exact Rd.obj (k := 4) rfl rfl | exact Rd.imm (by assumption) | exact Rd.sl (k := 0) rfl (by assumption) | exact Rd.sl (k := 1) rfl (by assumption) | exact Rd.sl (k := 2) rfl (by assumption) | exact Rd.sl (k := 3) rfl (by assumption))) hS.rd ?_
          refine LW.ex rfl rfl rfl rfl (Ex.leq rfl rfl (by first | exact decide_eq_true (by omega) | exact decide_eq_false (by omega) | rfl)) hS.rd ?_
          refine LW.ex rfl rfl rfl rfl (by first | exact Ex.pick_yes rfl rfl | exact Ex.pick_no rfl rfl) hS.rd ?_
          refine LW.ex rfl rfl rfl rfl (Ex.move rfl) hS.rd ?_
          refine LW.ex rfl rfl rfl rfl (Ex.fieldA Try.underlying36 rfl ti3 rfl) hS.rd ?_
          refine LW.ex rfl rfl rfl rfl (Ex.load1 ti3 rfl rfl (by first | exact Rd.obj (k := 0) rfl rfl | exact Rd.obj (k := 1) rfl rfl | exact Rd.obj (k := 2) rfl rfl | exact Rd.obj (k := 3) rfl rfl | exact Rd.obj (k := 4) rfl rfl | exact Rd.imm (by assumption) | exact Rd.sl (k := 0) rfl (by assumption) | exact Rd.sl (k := 1) rfl (by assumption) | exact Rd.sl (k := 2) rfl (by assumption) | exact Rd.sl (k := 3) rfl (by assumption))) hS.rd ?_
          refine LW.ex rfl rfl rfl rfl (Ex.geq rfl rfl (by first | exact decide_eq_true (by omega) | exact decide_eq_false (by omega) | rfl)) hS.rd ?_
          refine LW.ex rfl rfl rfl rfl (by first | exact Ex.pick_yes rfl rfl | exact Ex.pick_no rfl rfl) hS.rd ?_
          refine LW.ex rfl rfl rfl rfl (Ex.move rfl) hS.rd ?_
          refine LW.ex rfl rfl rfl rfl (Ex.fieldA Try.underlying36 rfl ti3 rfl) hS.rd ?_
          refine LW.ex rfl rfl rfl rfl (Ex.load1 ti3 rfl rfl (by first | exact Rd.obj (k := 0) rfl rfl | exact Rd.obj (k := 1) rfl rfl | exact Rd.obj (k := 2) rfl rfl | exact Rd.obj (k := 3) rfl rfl | exact Rd.obj (k := 4) rfl rfl | exact Rd.imm (by assumption) | exact Rd.sl (k := 0) rfl (by assumption) | exact Rd.sl (k := 1) rfl (by assumption) | exact Rd.sl (k := 2) rfl (by assumption) | exact Rd.sl (k := 3) rfl (by assumption))) hS.rd ?_
          refine LW.ex rfl rfl rfl rfl (Ex.leq rfl rfl (by first | exact decide_eq_true (by omega) | exact decide_eq_false (by omega) | rfl)) hS.rd ?_
          refine LW.ex rfl rfl rfl rfl (by first | exact Ex.pick_yes rfl rfl | exact Ex.pick_no rfl rfl) hS.rd ?_
          refine LW.ex rfl rfl rfl rfl (Ex.assign rfl) hS.rd ?_
          refine LW.nil fun aa ha => hK1 _ _ _ ?_ aa ha
          refine CW.ret fun aa ha => ?_
          refine ret_one ha Try.results39 rfl ?_
          have hb : inP p = true := by simp only [inP]; rw [decide_eq_true (by omega), decide_eq_true (by omega)]; rfl
          rw [hb]; exact hS.retS
        · skip
          refine CW.seq fun K1 hK1 => ?_
          refine CW.region [0, 1, 2, 3, 4, 5, 6, 7, 8, 9, 10, 11, 12, 13, 14, 15, 16, 17, 18] rfl ?_
          refine LW.ex rfl rfl rfl rfl (Ex.fieldA Try.underlying36 rfl ti3 rfl) hS.rd ?_
          refine LW.ex rfl rfl rfl rfl (Ex.load1 ti3 rfl rfl (by first | exact Rd.obj (k := 0) rfl rfl | exact Rd.obj (k := 1) rfl rfl | exact Rd.obj (k := 2) rfl rfl | exact Rd.obj (k := 3) rfl rfl | exact Rd.obj (k := 4) rfl rfl | exact Rd.imm (by assumption) | exact Rd.sl (k := 0) rfl (by assumption) | exact Rd.sl (k := 1) rfl (by assumption) | exact Rd.sl (k := 2) rfl (by assumption) | exact Rd.sl (k := 3) rfl (by assumption))) hS.rd ?_
          refine LW.ex rfl rfl rfl rfl (Ex.geq rfl rfl (by first | exact decide_eq_true (by omega) | exact decide_eq_false (by omega) | rfl)) hS.rd ?_
          refine LW.ex rfl rfl rfl rfl (Ex.move rfl) hS.rd ?_
          refine LW.ex rfl rfl rfl rfl (Ex.fieldA Try.underlying36 rfl ti3 rfl) hS.rd ?_
          refine LW.ex rfl rfl rfl rfl (Ex.load1 ti3 rfl rfl (by first | exact Rd.obj (k := 0) rfl rfl | exact Rd.obj (k := 1) rfl rfl | exact Rd.obj (k := 2) rfl rfl | exact Rd.obj (k := 3) rfl rfl | exact Rd.obj (k := 4) rfl rfl | exact Rd.imm (by assumption) | exact Rd.sl (k := 0) rfl (by assumption) | exact Rd.sl (k := 1) rfl (by assumption) | exact Rd.sl (k := 2) rfl (by assumption) | exact Rd.sl (k := 3) rfl (by assumption))) hS.rd ?_
          refine LW.ex rfl rfl rfl rfl (Ex.leq rfl rfl (by first | exact decide_eq_true (by omega) | exact decide_eq_false (by omega) | rfl)) hS.rd ?_
          refine LW.ex rfl rfl rfl rfl (by first | exact Ex.pick_yes rfl rfl | exact Ex.pick_no rfl rfl) hS.rd ?_
          refine LW.ex rfl rfl rfl rfl (Ex.move rfl) hS.rd ?_
          refine LW.ex rfl rfl rfl rfl (Ex.fieldA Try.underlying36 rfl ti3 rfl) hS.rd ?_
          refine LW.ex rfl rfl rfl rfl (Ex.load1 ti3 rfl rfl (by first | exact Rd.obj (k := 0) rfl rfl | exact Rd.obj (k := 1) rfl rfl | exact Rd.obj (k := 2) rfl rfl | exact Rd.obj (k := 3) rfl rfl | exact Rd.obj (k := 4) rfl rfl | exact Rd.imm (by assumption) | exact Rd.sl (k := 0) rfl (by assumption) | exact Rd.sl (k := 1) rfl (by assumption) | exact Rd.sl (k := 2) rfl (by assumption) | exact Rd.sl (k := 3) rfl (by assumption))) hS.rd ?_
          refine LW.ex rfl rfl rfl rfl (Ex.geq rfl rfl (by first | exact decide_eq_true (by omega) | exact decide_eq_false (by omega) | rfl)) hS.rd ?_
          refine LW.ex rfl rfl rfl rfl (by first | exact Ex.pick_yes rfl rfl | exact Ex.pick_no rfl rfl) hS.rd ?_
          refine LW.ex rfl rfl rfl rfl (Ex.move rfl) hS.rd ?_
          refine LW.ex rfl rfl rfl rfl (Ex.fieldA Try.underlying36 rfl ti3 rfl) hS.rd ?_
          refine LW.ex rfl rfl rfl rfl (Ex.load1 ti3 rfl rfl (by first | exact Rd.obj (k := 0) rfl rfl | exact Rd.obj (k := 1) rfl rfl | exact Rd.obj (k := 2) rfl rfl | exact Rd.obj (k := 3) rfl rfl | exact Rd.obj (k := 4) rfl rfl | exact Rd.imm (by assumption) | exact Rd.sl (k := 0) rfl (by assumption) | exact Rd.sl (k := 1) rfl (by assumption) | exact Rd.sl (k := 2) rfl (by assumption) | exact Rd.sl (k := 3) rfl (by assumption))) hS.rd ?_
          refine LW.ex rfl rfl rfl rfl (Ex.leq rfl rfl (by first | exact decide_eq_true (by omega) | exact decide_eq_false (by omega) | rfl)) hS.rd ?_
          refine LW.ex rfl rfl rfl rfl (by first | exact Ex.pick_yes rfl rfl | exact Ex.pick_no rfl rfl) hS.rd ?_
          refine LW.ex rfl rfl rfl rfl (Ex.assign rfl) hS.rd ?_
          refine LW.nil fun aa ha => hK1 _ _ _ ?_ aa ha
          refine CW.ret fun aa ha => ?_
          refine ret_one ha Try.results39 rfl ?_
          have hb : inP p = false := by simp only [inP]; rw [Bool.and_eq_false_iff, decide_eq_false_iff_not, decide_eq_false_iff_not]; omega
          rw [hb]; exact hS.retS
      · skip
        refine CW.seq fun K1 hK1 => ?_
        refine CW.region [0, 1, 2, 3, 4, 5, 6, 7, 8, 9, 10, 11, 12, 13, 14, 15, 16, 17, 18] rfl ?_
        refine LW.ex rfl rfl rfl rfl (Ex.fieldA Try.underlying36 rfl ti3 rfl) hS.rd ?_
        refine LW.ex rfl rfl rfl rfl (Ex.load1 ti3 rfl rfl (by first | exact Rd.obj (k := 0) rfl rfl | exact Rd.obj (k := 1) rfl rfl | exact Rd.obj (k := 2) rfl rfl | exact Rd.obj (k := 3) rfl rfl | exact Rd.obj (k := 4) rfl rfl | exact Rd.imm (by assumption) | exact Rd.sl (k := 0) rfl (by assumption) | exact Rd.sl (k := 1) rfl (by assumption) | exact Rd.sl (k := 2) rfl (by assumption) | exact Rd.sl (k := 3) rfl (by assumption))) hS.rd ?_
        refine LW.ex rfl rfl rfl rfl (Ex.geq rfl rfl (by first | exact decide_eq_true (by omega) | exact decide_eq_false (by omega) | rfl)) hS.rd ?_
        refine LW.ex rfl rfl rfl rfl (Ex.move rfl) hS.rd ?_
        refine LW.ex rfl rfl rfl rfl (Ex.fieldA Try.underlying36 rfl ti3 rfl) hS.rd ?_
        refine LW.ex rfl rfl rfl rfl (Ex.load1 ti3 rfl rfl (by first | exact Rd.obj (k := 0) rfl rfl | exact Rd.obj (k := 1) rfl rfl | exact Rd.obj (k := 2) rfl rfl | exact Rd.obj (k := 3) rfl rfl | exact Rd.obj (k := 4) rfl rfl | exact Rd.imm (by assumption) | exact Rd.sl (k := 0) rfl (by assumption) | exact Rd.sl (k := 1) rfl (by assumption) | exact Rd.sl (k := 2) rfl (by assumption) | exact Rd.sl (k := 3) rfl (by assumption))) hS.rd ?_
        refine LW.ex rfl rfl rfl rfl (Ex.leq rfl rfl (by first | exact decide_eq_true (by omega) | exact decide_eq_false (by omega) | rfl)) hS.rd ?_
        refine LW.ex rfl rfl rfl rfl (by first | exact Ex.pick_yes rfl rfl | exact Ex.pick_no rfl rfl) hS.rd ?_
        refine LW.ex rfl rfl rfl rfl (Ex.move rfl) hS.rd ?_
        refine LW.ex rfl rfl rfl rfl (Ex.fieldA Try.underlying36 rfl ti3 rfl) hS.rd ?_
        refine LW.ex rfl rfl rfl rfl (Ex.load1 ti3 rfl rfl (by first | exact Rd.obj (k := 0) rfl rfl | exact Rd.obj (k := 1) rfl rfl | exact Rd.obj (k := 2) rfl rfl | exact Rd.obj (k := 3) rfl rfl | exact Rd.obj (k := 4) rfl rfl | exact Rd.imm (by assumption) | exact Rd.sl (k := 0) rfl (by assumption) | exact Rd.sl (k := 1) rfl (by assumption) | exact Rd.sl (k := 2) rfl (by assumption) | exact Rd.sl (k := 3) rfl (by assumption))) hS.rd ?_
        refine LW.ex rfl rfl rfl rfl (Ex.geq rfl rfl (by first | exact decide_eq_true (by omega) | exact decide_eq_false (by omega) | rfl)) hS.rd ?_
        refine LW.ex rfl rfl rfl rfl (by first | exact Ex.pick_yes rfl rfl | exact Ex.pick_no rfl rfl) hS.rd ?_
        refine LW.ex rfl rfl rfl rfl (Ex.move rfl) hS.rd ?_
        refine LW.skip rfl rfl rfl rfl ?_
        refine LW.skip rfl rfl rfl rfl ?_
        refine LW.skip rfl rfl rfl rfl ?_
        refine LW.ex rfl rfl rfl rfl (by first | exact Ex.pick_yes rfl rfl | exact Ex.pick_no rfl rfl) hS.rd ?_
        refine LW.ex rfl rfl rfl rfl (Ex.assign rfl) hS.rd ?_
        refine LW.nil fun aa ha => hK1 _ _ _ ?_ aa ha
        refine CW.ret fun aa ha => ?_
        refine ret_one ha Try.results39 rfl ?_
        have hb : inP p = false := by simp only [inP]; rw [Bool.and_eq_false_iff, decide_eq_false_iff_not, decide_eq_false_iff_not]; omega
        rw [hb]; exact hS.retS
    · skip
      refine CW.seq fun K1 hK1 => ?_
      refine CW.region [0, 1, 2, 3, 4, 5, 6, 7, 8, 9, 10, 11, 12, 13, 14, 15, 16, 17, 18] rfl ?_
      refine LW.ex rfl rfl rfl rfl (Ex.fieldA Try.underlying36 rfl ti3 rfl) hS.rd ?_
      refine LW.ex rfl rfl rfl rfl (Ex.load1 ti3 rfl rfl (by first | exact Rd.obj (k := 0) rfl rfl | exact Rd.obj (k := 1) rfl rfl | exact Rd.obj (k := 2) rfl rfl | exact Rd.obj (k := 3) rfl rfl | exact Rd.obj (k := 4) rfl rfl | exact Rd.imm (by assumption) | exact Rd.sl (k := 0) rfl (by assumption) | exact Rd.sl (k := 1) rfl (by assumption) | exact Rd.sl (k := 2) rfl (by assumption) | exact Rd.sl (k := 3) rfl (by assumption))) hS.rd ?_
      refine LW.ex rfl rfl rfl rfl (Ex.geq rfl rfl (by first | exact decide_eq_true (by omega) | exact decide_eq_false (by omega) | rfl)) hS.rd ?_
      refine LW.ex rfl rfl rfl rfl (Ex.move rfl) hS.rd ?_
      refine LW.ex rfl rfl rfl rfl (Ex.fieldA Try.underlying36 rfl ti3 rfl) hS.rd ?_
      refine LW.ex rfl rfl rfl rfl (Ex.load1 ti3 rfl rfl (by first | exact Rd.obj (k := 0) rfl rfl | exact Rd.obj (k := 1) rfl rfl | exact Rd.obj (k := 2) rfl rfl | exact Rd.obj (k := 3) rfl rfl | exact Rd.obj (k := 4) rfl rfl | exact Rd.imm (by assumption) | exact Rd.sl (k := 0) rfl (by assumption) | exact Rd.sl (k := 1) rfl (by assumption) | exact Rd.sl (k := 2) rfl (by assumption) | exact Rd.sl (k := 3) rfl (by assumption))) hS.rd ?_
      refine LW.ex rfl rfl rfl rfl (Ex.leq rfl rfl (by first | exact decide_eq_true (by omega) | exact decide_eq_false (by omega) | rfl)) hS.rd ?_
      refine LW.ex rfl rfl rfl rfl (by first | exact Ex.pick_yes rfl rfl | exact Ex.pick_no rfl rfl) hS.rd ?_
      refine LW.ex rfl rfl rfl rfl (Ex.move rfl) hS.rd ?_
      refine LW.skip rfl rfl rfl rfl ?_
      refine LW.skip rfl rfl rfl rfl ?_
      refine LW.skip rfl rfl rfl rfl ?_
      refine LW.ex rfl rfl rfl rfl (by first | exact Ex.pick_yes rfl rfl | exact Ex.pick_no rfl rfl) hS.rd ?_
      refine LW.ex rfl rfl rfl rfl (Ex.move rfl) hS.rd ?_
      refine LW.skip rfl rfl rfl rfl ?_
      refine LW.skip rfl rfl rfl rfl ?_
      refine LW.skip rfl rfl rfl rfl ?_
      refine LW.ex rfl rfl rfl rfl (by first | exact Ex.pick_yes rfl rfl | exact Ex.pick_no rfl rfl) hS.rd ?_
      refine LW.ex rfl rfl rfl rfl (Ex.assign rfl) hS.rd ?_
      refine LW.nil fun aa ha => hK1 _ _ _ ?_ aa ha
      refine CW.ret fun aa ha => ?_
      refine ret_one ha Try.results39 rfl ?_
      have hb : inP p = false := by simp only [inP]; rw [Bool.and_eq_false_iff, decide_eq_false_iff_not, decide_eq_false_iff_not]; omega
      rw [hb]; exact hS.retS
  · skip
    refine CW.seq fun K1 hK1 => ?_
    refine CW.region [0, 1, 2, 3, 4, 5, 6, 7, 8, 9, 10, 11, 12, 13, 14, 15, 16, 17, 18] rfl ?_
    refine LW.ex rfl rfl rfl rfl (Ex.fieldA Try.underlying36 rfl ti3 rfl) hS.rd ?_
    refine LW.ex rfl rfl rfl rfl (Ex.load1 ti3 rfl rfl (by first | exact Rd.obj (k := 0) rfl rfl | exact Rd.obj (k := 1) rfl rfl | exact Rd.obj (k := 2) rfl rfl | exact Rd.obj (k := 3) rfl rfl | exact Rd.obj (k := 4) rfl rfl | exact Rd.imm (by assumption) | exact Rd.sl (k := 0) rfl (by assumption) | exact Rd.sl (k := 1) rfl (by assumption) | exact Rd.sl (k := 2) rfl (by assumption) | exact Rd.sl (k := 3) rfl (by assumption))) hS.rd ?_
    refine LW.ex rfl rfl rfl rfl (Ex.geq rfl rfl (by first | exact decide_eq_true (by omega) | exact decide_eq_false (by omega) | rfl)) hS.rd ?_
    refine LW.ex rfl rfl rfl rfl (Ex.move rfl) hS.rd ?_
    refine LW.skip rfl rfl rfl rfl ?_
    refine LW.skip rfl rfl rfl rfl ?_
    refine LW.skip rfl rfl rfl rfl ?_
    refine LW.ex rfl rfl rfl rfl (by first | exact Ex.pick_yes rfl rfl | exact Ex.pick_no rfl rfl) hS.rd ?_
    refine LW.ex rfl rfl rfl rfl (Ex.move rfl) hS.rd ?_
    refine LW.skip rfl rfl rfl rfl ?_
    refine LW.skip rfl rfl rfl rfl ?_
    refine LW.skip rfl rfl rfl rfl ?_
    refine LW.ex rfl rfl rfl rfl (by first | exact Ex.pick_yes rfl rfl | exact Ex.pick_no rfl rfl) hS.rd ?_
    refine LW.ex rfl rfl rfl rfl (Ex.move rfl) hS.rd ?_
    refine LW.skip rfl rfl rfl rfl ?_
    refine LW.skip rfl rfl rfl rfl ?_
    refine LW.skip rfl rfl rfl rfl ?_
    refine LW.ex rfl rfl rfl rfl (by first | exact Ex.pick_yes rfl rfl | exact Ex.pick_no rfl rfl) hS.rd ?_
    refine LW.ex rfl rfl rfl rfl (Ex.assign rfl) hS.rd ?_
    refine LW.nil fun aa ha => hK1 _ _ _ ?_ aa ha
    refine CW.ret fun aa ha => ?_
    refine ret_one ha Try.results39 rfl ?_
    have hb : inP p = false := by simp only [inP]; rw [Bool.and_eq_false_iff, decide_eq_false_iff_not, decide_eq_false_iff_not]; omega
    rw [hb]; exact hS.retS

structure ArB (a : Area) : Prop where
  x0 : -10000 ≤ a.X0 ∧ a.X0 ≤ 10000
  y0 : -10000 ≤ a.Y0 ∧ a.Y0 ≤ 10000
  x1 : -10000 ≤ a.X1 ∧ a.X1 ≤ 10000
  y1 : -10000 ≤ a.Y1 ∧ a.Y1 ≤ 10000
def middle (a : Area) : Pt := ⟨(a.X0 + a.X1).tdiv 2, (a.Y0 + a.Y1).tdiv 2⟩
theorem quo_in {a b : Int} (h : -4000000000000000000 ≤ a ∧ a ≤ 4000000000000000000) : IntKind.i64.wrap (a.tdiv b) = a.tdiv b := by
  have h1 : (a.tdiv b).natAbs ≤ a.natAbs := by rw [Int.natAbs_tdiv]; exact Nat.div_le_self _ _
  exact w64 (by omega) (by omega)
theorem middle_c (a : Area) (w : World) (ha : ArB a) : Calls Try.prog 28 #[areaV a] w (RetS w (ptV (middle a))) := by
  obtain ⟨⟨h1, h2⟩, ⟨h3, h4⟩, ⟨h5, h6⟩, ⟨h7, h8⟩⟩ := ha
  have hS := St.start w (fun _ => none) (fun _ _ h => by cases h)
  refine calls_start 16 [areaV a] Try.func28 rfl Try.ntmps28 rfl rfl ?_
  refine CW.seq fun K0 hK0 => ?_
  refine CW.region [0, 1] rfl ?_
  refine LW.hv rfl rfl rfl rfl (Hv.box hS rfl) fun v w1 ⟨b1, hv, hb1, hS⟩ => ?_
  subst hv
  refine LW.hv rfl rfl rfl rfl (Hv.alloc ti36 hS) fun v w2 ⟨b2, hv, hb2, hS⟩ => ?_
  subst hv
  refine LW.nil fun aa ha => hK0 _ _ _ ?_ aa ha
  refine CW.seq fun K1 hK1 => ?_
  refine CW.region [0, 1, 2, 3, 4, 5, 6, 7, 8, 9, 10, 11, 12, 13] rfl ?_
  refine LW.ex rfl rfl rfl rfl (Ex.fieldA Try.underlying57 rfl ti3 rfl) hS.rd ?_
  refine LW.ex rfl rfl rfl rfl (Ex.load1 ti3 rfl rfl (by first | exact Rd.obj (k := 0) rfl rfl | exact Rd.obj (k := 1) rfl rfl | exact Rd.obj (k := 2) rfl rfl | exact Rd.obj (k := 3) rfl rfl | exact Rd.obj (k := 4) rfl rfl | exact Rd.imm (by assumption) | exact Rd.sl (k := 0) rfl (by assumption) | exact Rd.sl (k := 1) rfl (by assumption) | exact Rd.sl (k := 2) rfl (by assumption) | exact Rd.sl (k := 3) rfl (by assumption))) hS.rd ?_
  refine LW.ex rfl rfl rfl rfl (Ex.fieldA Try.underlying57 rfl ti3 rfl) hS.rd ?_
  refine LW.ex rfl rfl rfl rfl (Ex.load1 ti3 rfl rfl (by first | exact Rd.obj (k := 0) rfl rfl | exact Rd.obj (k := 1) rfl rfl | exact Rd.obj (k := 2) rfl rfl | exact Rd.obj (k := 3) rfl rfl | exact Rd.obj (k := 4) rfl rfl | exact Rd.imm (by assumption) | exact Rd.sl (k := 0) rfl (by assumption) | exact Rd.sl (k := 1) rfl (by assumption) | exact Rd.sl (k := 2) rfl (by assumption) | exact Rd.sl (k := 3) rfl (by assumption))) hS.rd ?_
  refine LW.ex rfl rfl rfl rfl (Ex.add rfl rfl (by first | exact inc64 (by omega) | exact addN (by omega) | exact w64 (by omega) (by omega))) hS.rd ?_
  refine LW.ex rfl rfl rfl rfl (Ex.quo rfl rfl (by omega) (quo_in ⟨by omega, by omega⟩)) hS.rd ?_
  refine LW.ex rfl rfl rfl rfl (Ex.fieldA Try.underlying57 rfl ti3 rfl) hS.rd ?_
  refine LW.ex rfl rfl rfl rfl (Ex.load1 ti3 rfl rfl (by first | exact Rd.obj (k := 0) rfl rfl | exact Rd.obj (k := 1) rfl rfl | exact Rd.obj (k := 2) rfl rfl | exact Rd.obj (k := 3) rfl rfl | exact Rd.obj (k := 4) rfl rfl | exact Rd.imm (by assumption) | exact Rd.sl (k := 0) rfl (by assumption) | exact Rd.sl (k := 1) rfl (by assumption) | exact Rd.sl (k := 2) rfl (by assumption) | exact Rd.sl (k := 3) rfl (by assumption))) hS.rd ?_
  refine LW.ex rfl rfl rfl rfl (Ex.fieldA Try.underlying57 rfl ti3 rfl) hS.rd ?_
  refine LW.ex rfl rfl rfl rfl (Ex.load1 ti3 rfl rfl (by first | exact Rd.obj (k := 0) rfl rfl | exact Rd.obj (k := 1) rfl rfl | exact Rd.obj (k := 2) rfl rfl | exact Rd.obj (k := 3) rfl rfl | exact Rd.obj (k := 4) rfl rfl | exact Rd.imm (by assumption) | exact Rd.sl (k := 0) rfl (by assumption) | exact Rd.sl (k := 1) rfl (by assumption) | exact Rd.sl (k := 2) rfl (by assumption) | exact Rd.sl (k := 3) rfl (by assumption))) hS.rd ?_
  refine LW.ex rfl rfl rfl rfl (Ex.add rfl rfl (by first | exact inc64 (by omega) | exact addN (by omega) | exact w64 (by omega) (by omega))) hS.rd ?_
  refine LW.ex rfl rfl rfl rfl (Ex.quo rfl rfl (by omega) (quo_in ⟨by omega, by omega⟩)) hS.rd ?_
  refine LW.ex rfl rfl rfl rfl (Ex.buildS st36 rfl rfl rfl) hS.rd ?_
  refine LW.hu rfl rfl rfl (Hv.storeN (k := 0) ti36 hS rfl rfl rfl rfl (by simp [Value.oneCell'])) fun _ w_13 hS => ?_
  dsimp only [List.set] at hS
  refine LW.nil fun aa ha => hK1 _ _ _ ?_ aa ha
  refine CW.ret fun aa ha => ?_
  exact ret_cell ha Try.results28 rfl ti36 rfl (fun j v hv => Rd.objAll (k := 0) rfl hS.rd j v hv) hS.retS
end Go.Proofs.Ytphgjongflkolaa
