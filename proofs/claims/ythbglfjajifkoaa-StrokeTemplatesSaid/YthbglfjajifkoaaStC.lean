/-
  Strokes: the walk of stroke.Distance.
-/
import Derived.Test.YthbglfjajifkoaaStB
namespace Go.Proofs.Ythbglfjajifkoaa
open Go.RowKit Sy

def huge : Int := 1099511627776
/-- The rows of the table: R g i k: the row before point i of the first stroke. -/
def R (g : Nat → Nat → Int) : Nat → Nat → Int
  | 0, 0 => 0
  | 0, _ + 1 => huge
  | _ + 1, 0 => huge
  | i + 1, k + 1 => min (min (R g i k) (R g i (k + 1))) (R g (i + 1) k) + g i k
theorem R_bound (g : Nat → Nat → Int) (hg : ∀ i k, 0 ≤ g i k ∧ g i k ≤ 1000000) : ∀ i k, 0 ≤ R g i k ∧ R g i k ≤ huge + i * 1000000
  | 0, 0 => by simp [R, huge]
  | 0, _ + 1 => by simp [R, huge]
  | i + 1, 0 => by simp [R, huge]; omega
  | i + 1, k + 1 => by
    have h1 := R_bound g hg i k
    have h2 := R_bound g hg i (k + 1)
    have h3 := R_bound g hg (i + 1) k
    have h4 := hg i k
    simp only [R]
    omega
def gapsOf (a b : List Pt) (i k : Nat) : Int := if h : i < a.length ∧ k < b.length then gap a[i] b[k] else 0
theorem gap_bound {p q : Pt} (hp : Bd 100000 p) (hq : Bd 100000 q) : 0 ≤ gap p q ∧ gap p q ≤ 1000000 := by
  obtain ⟨h1, h2, h3, h4⟩ := hp
  obtain ⟨g1, g2, g3, g4⟩ := hq
  unfold gap; omega
theorem gapsOf_bound {a b : List Pt} (ha : ∀ p ∈ a, Bd 100000 p) (hb : ∀ p ∈ b, Bd 100000 p) (i k : Nat) : 0 ≤ gapsOf a b i k ∧ gapsOf a b i k ≤ 1000000 := by
  unfold gapsOf; split
  · rename_i h; exact gap_bound (ha _ (List.getElem_mem _)) (hb _ (List.getElem_mem _))
  · omega

set_option maxRecDepth 100000 in
theorem distance_c (a b : List Pt) (ada adb : Option Addr) (ca cb : Nat) (μ : Mem) (w : World) (hμ : Imm μ w) (hla : Sl μ ada ca a) (hlb : Sl μ adb cb b) (ha0 : ∀ p ∈ a, Bd 100000 p) (hb0 : ∀ p ∈ b, Bd 100000 p) (hal : a.length ≤ 1000) (hbl : b.length ≤ 1000) :
    Calls Try.prog 15 #[.slice ada a.length ca, .slice adb b.length cb] w (RetS w (.int .i64 (R (gapsOf a b) a.length b.length))) := by
  have hS := St.start w μ hμ
  refine calls_start 88 [.slice ada a.length ca, .slice adb b.length cb] Try.func15 rfl Try.ntmps15 rfl rfl ?_
  refine CW.seq fun K0 hK0 => ?_
  refine CW.region [0] rfl ?_
  refine LW.ex rfl rfl rfl rfl (Ex.assign rfl) hS.rd ?_
  refine LW.nil fun aa ha => hK0 _ _ _ ?_ aa ha
  refine CW.seq fun K1 hK1 => ?_
  have hkey : ∀ (bL bN : Nat) (usL usN : List Value) (w1 : World), St w w1 μ [Own.sl (some ⟨bL, 0, none⟩) (b.length + 1) (b.length + 1) 3 1 usL, Own.sl (some ⟨bN, 0, none⟩) (b.length + 1) (b.length + 1) 3 1 usN] →
      KW K1 88 [(0, .slice ada a.length ca), (1, .slice adb b.length cb), (5, .slice (some ⟨bL, 0, none⟩) (b.length + 1) (b.length + 1)), (6, .slice (some ⟨bN, 0, none⟩) (b.length + 1) (b.length + 1))] w1 := by
    clear hS
    intro bL bN usL usN w1 hS
    refine hK1 _ _ _ ?_
    refine CW.seq fun K2o hK2o => ?_
    refine CW.seq fun K2 hK2 => ?_
    refine CW.region [0, 1, 2] rfl ?_
    refine LW.ex rfl rfl rfl rfl (Ex.move rfl) hS.rd ?_
    refine LW.ex rfl rfl rfl rfl (Ex.lenSl rfl Try.underlying71 rfl) hS.rd ?_
    refine LW.ex rfl rfl rfl rfl (Ex.move rfl) hS.rd ?_
    refine LW.nil fun aa ha => hK2 _ _ _ ?_ aa ha
    refine CW.block ?_
    refine CW.loop (fun q m w1 => ∃ (i : Nat) (usL : List Value), i ≤ b.length + 1 ∧ q = b.length + 1 - i ∧ m = [(0, .slice ada a.length ca), (1, .slice adb b.length cb), (5, .slice (some ⟨bL, 0, none⟩) (b.length + 1) (b.length + 1)), (6, .slice (some ⟨bN, 0, none⟩) (b.length + 1) (b.length + 1)), (21, .int .i64 ↑(b.length + 1)), (22, .int .i64 i)] ∧
        St w w1 μ [Own.sl (some ⟨bL, 0, none⟩) (b.length + 1) (b.length + 1) 3 1 usL, Own.sl (some ⟨bN, 0, none⟩) (b.length + 1) (b.length + 1) 3 1 usN] ∧ ∀ j, j < i → usL[j]? = some (.int .i64 huge)) (b.length + 1)
      ⟨0, usL, by omega, by omega, rfl, hS, fun j hj => by omega⟩ ⟨rfl, rfl, rfl, rfl, rfl, rfl, trivial⟩ ?_
    clear hS
    rintro q m w1 ⟨i, usL, hi, hq, rfl, hS, hL⟩
    have lenL := hS.sl_len 0 rfl
    by_cases h1 : i < b.length + 1
    · skip
      refine CW.seq fun K3 hK3 => ?_
      refine CW.region [0] rfl ?_
      refine LW.ex rfl rfl rfl rfl (Ex.lss rfl rfl (by first | exact decide_eq_true (by omega) | exact decide_eq_false (by omega) | rfl)) hS.rd ?_
      refine LW.nil fun aa ha => hK3 _ _ _ ?_ aa ha
      refine CW.seq fun Kc hKc => ?_
      refine CW.yes rfl ?_
      refine CW.skip fun aa ha => hKc _ _ _ ?_ aa ha
      refine CW.seq fun Kb hKb => ?_
      refine CW.block ?_
      refine CW.seq fun K4 hK4 => ?_
      refine CW.region [0, 1] rfl ?_
      refine LW.ex rfl rfl rfl rfl (Ex.move rfl) hS.rd ?_
      refine LW.ex rfl rfl rfl rfl (Ex.assign rfl) hS.rd ?_
      refine LW.nil fun aa ha => hK4 _ _ _ ?_ aa ha
      refine CW.region [0, 1, 2, 3] rfl ?_
      refine LW.ex rfl rfl rfl rfl (Ex.move rfl) hS.rd ?_
      refine LW.ex rfl rfl rfl rfl (Ex.move rfl) hS.rd ?_
      refine LW.ex rfl rfl rfl rfl (Ex.indexSl Try.underlying71 ti3 rfl rfl rfl (by omega)) hS.rd ?_
      refine LW.hu rfl rfl rfl (Hv.storeSl (k := 0) ti3 hS rfl rfl rfl rfl (by first | (simp; done) | omega)) fun _ w_3 hS => ?_
      dsimp only [List.set] at hS
      refine LW.nil fun aa ha => hKb _ _ _ ?_ aa ha
      refine CW.region [0, 1] rfl ?_
      refine LW.ex rfl rfl rfl rfl (Ex.add rfl rfl (by first | exact inc64 (by omega) | exact addN (by omega) | exact w64 (by omega) (by omega))) hS.rd ?_
      refine LW.ex rfl rfl rfl rfl (Ex.move rfl) hS.rd ?_
      refine LW.nil fun aa ha => ?_
      refine ⟨b.length + 1 - (i + 1), _, by omega, ⟨i + 1, _, by omega, rfl, rfl, hS, fun j hj => ?_⟩, ha.sub ⟨rfl, rfl, rfl, rfl, rfl, rfl, trivial⟩⟩
      rw [show 0 + i * 1 = i by omega]
      by_cases hji : j = i
      · subst hji; rw [List.getElem?_set_self (by omega)]; rfl
      · rw [List.getElem?_set_ne (Ne.symm hji)]; exact hL j (by omega)
    · skip
      refine CW.seq fun K3 hK3 => ?_
      refine CW.region [0] rfl ?_
      refine LW.ex rfl rfl rfl rfl (Ex.lss rfl rfl (by first | exact decide_eq_true (by omega) | exact decide_eq_false (by omega) | rfl)) hS.rd ?_
      refine LW.nil fun aa ha => hK3 _ _ _ ?_ aa ha
      refine CW.seq fun Kc hKc => ?_
      refine CW.no rfl ?_
      refine CW.exit fun aa ha => hK2o _ _ _ ?_ aa ha
      have hbl0 : 0 < b.length + 1 := by omega
      refine CW.seq fun K7 hK7 => ?_
      refine CW.region [0, 1, 2] rfl ?_
      refine LW.ex rfl rfl rfl rfl (Ex.move rfl) hS.rd ?_
      refine LW.ex rfl rfl rfl rfl (Ex.indexSl (j := 0) Try.underlying71 ti3 rfl rfl rfl (by omega)) hS.rd ?_
      refine LW.hu rfl rfl rfl (Hv.storeSl (k := 0) ti3 hS rfl rfl rfl rfl (by first | (simp; done) | omega)) fun _ w_2 hS => ?_
      dsimp only [List.set] at hS
      refine LW.nil fun aa ha => hK7 _ _ _ ?_ aa ha
      have hR : ∀ j, j ≤ b.length → (usL.set (0 + 0 * 1) (.int .i64 0))[j]? = some (.int .i64 (R (gapsOf a b) 0 j)) := fun j hj => by
        match j with
        | 0 => rw [List.getElem?_set_self (by omega)]; simp [R]
        | j + 1 => rw [List.getElem?_set_ne (by omega), hL (j + 1) (by omega)]; simp [R]
      refine CW.seq fun K8o hK8o => ?_
      refine CW.seq fun K8 hK8 => ?_
      refine CW.region [0, 1, 2] rfl ?_
      refine LW.ex rfl rfl rfl rfl (Ex.move rfl) hS.rd ?_
      refine LW.ex rfl rfl rfl rfl (Ex.lenSl rfl Try.underlying26 rfl) hS.rd ?_
      refine LW.ex rfl rfl rfl rfl (Ex.move rfl) hS.rd ?_
      refine LW.nil fun aa ha => hK8 _ _ _ ?_ aa ha
      have hg := gapsOf_bound ha0 hb0
      refine CW.block ?_
      refine CW.loop (fun q m w1 => ∃ (i : Nat) (bL bN : Nat) (usL usN : List Value), i ≤ a.length ∧ q = a.length - i ∧
          m = [(1, .slice adb b.length cb), (5, .slice (some ⟨bL, 0, none⟩) (b.length + 1) (b.length + 1)), (6, .slice (some ⟨bN, 0, none⟩) (b.length + 1) (b.length + 1)), (31, .slice ada a.length ca), (32, .int .i64 a.length), (33, .int .i64 i)] ∧
          St w w1 μ [Own.sl (some ⟨bL, 0, none⟩) (b.length + 1) (b.length + 1) 3 1 usL, Own.sl (some ⟨bN, 0, none⟩) (b.length + 1) (b.length + 1) 3 1 usN] ∧ ∀ j, j ≤ b.length → usL[j]? = some (.int .i64 (R (gapsOf a b) i j))) a.length
        ⟨0, bL, bN, _, usN, by omega, by omega, rfl, hS, hR⟩ ⟨rfl, rfl, rfl, rfl, rfl, rfl, trivial⟩ ?_
      clear hS hR hL h1 hi hq
      rintro q m w1 ⟨i, bL, bN, usL, usN, hi, hq, rfl, hS, hL⟩
      have lenL := hS.sl_len 0 rfl
      have lenN := hS.sl_len 1 rfl
      by_cases h1 : i < a.length
      · skip
        refine CW.seq fun K9 hK9 => ?_
        refine CW.region [0] rfl ?_
        refine LW.ex rfl rfl rfl rfl (Ex.lss rfl rfl (by first | exact decide_eq_true (by omega) | exact decide_eq_false (by omega) | rfl)) hS.rd ?_
        refine LW.nil fun aa ha => hK9 _ _ _ ?_ aa ha
        refine CW.seq fun Kc hKc => ?_
        refine CW.yes rfl ?_
        refine CW.skip fun aa ha => hKc _ _ _ ?_ aa ha
        refine CW.seq fun Kb hKb => ?_
        refine CW.block ?_
        obtain ⟨ba, oa, rfl, hax, hay⟩ := hla.at h1
        refine CW.seq fun K10 hK10 => ?_
        refine CW.region [0, 1, 2, 3] rfl ?_
        refine LW.ex rfl rfl rfl rfl (Ex.indexSl Try.underlying26 ti46 rfl rfl rfl (by omega)) hS.rd ?_
        refine LW.ex rfl rfl rfl rfl (Ex.load2c ti46 rfl rfl (by first | exact Rd.obj (k := 0) rfl rfl | exact Rd.obj (k := 1) rfl rfl | exact Rd.obj (k := 2) rfl rfl | exact Rd.obj (k := 3) rfl rfl | exact Rd.obj (k := 4) rfl rfl | exact Rd.imm (by assumption) | exact Rd.sl (k := 0) rfl (by assumption) | exact Rd.sl (k := 1) rfl (by assumption) | exact Rd.sl (k := 2) rfl (by assumption) | exact Rd.sl (k := 3) rfl (by assumption)) (by first | exact Rd.obj (k := 0) rfl rfl | exact Rd.obj (k := 1) rfl rfl | exact Rd.obj (k := 2) rfl rfl | exact Rd.obj (k := 3) rfl rfl | exact Rd.obj (k := 4) rfl rfl | exact Rd.imm (by assumption) | exact Rd.sl (k := 0) rfl (by assumption) | exact Rd.sl (k := 1) rfl (by assumption) | exact Rd.sl (k := 2) rfl (by assumption) | exact Rd.sl (k := 3) rfl (by assumption))) hS.rd ?_
        refine LW.hv rfl rfl rfl rfl (Hv.alloc ti46 hS) fun v w9 ⟨b9, hv, hb9, hS⟩ => ?_
        subst hv
        refine LW.hu rfl rfl rfl (Hv.storeN (k := 0) ti46 hS rfl rfl rfl rfl (by simp [Value.oneCell'])) fun _ w_3 hS => ?_
        dsimp only [List.set] at hS
        refine LW.nil fun aa ha => hK10 _ _ _ ?_ aa ha
        refine CW.seq fun K11 hK11 => ?_
        refine CW.region [0, 1, 2] rfl ?_
        refine LW.ex rfl rfl rfl rfl (Ex.move rfl) hS.rd ?_
        refine LW.ex rfl rfl rfl rfl (Ex.indexSl (j := 0) Try.underlying71 ti3 rfl rfl rfl (by omega)) hS.rd ?_
        refine LW.hu rfl rfl rfl (Hv.storeSl (k := 2) ti3 hS rfl rfl rfl rfl (by first | (simp; done) | omega)) fun _ w_2 hS => ?_
        dsimp only [List.set] at hS
        refine LW.nil fun aa ha => hK11 _ _ _ ?_ aa ha
        refine CW.seq fun K12o hK12o => ?_
        refine CW.seq fun K12 hK12 => ?_
        refine CW.region [0, 1, 2] rfl ?_
        refine LW.ex rfl rfl rfl rfl (Ex.move rfl) hS.rd ?_
        refine LW.ex rfl rfl rfl rfl (Ex.lenSl rfl Try.underlying26 rfl) hS.rd ?_
        refine LW.ex rfl rfl rfl rfl (Ex.move rfl) hS.rd ?_
        refine LW.nil fun aa ha => hK12 _ _ _ ?_ aa ha
        refine CW.block ?_
        obtain ⟨pa1, pa2, pa3, pa4⟩ := ha0 _ (List.getElem_mem h1)
        refine CW.loop (fun q m w1 => ∃ (k : Nat) (usN : List Value), k ≤ b.length ∧ q = b.length - k ∧
            m = [(1, .slice adb b.length cb), (5, .slice (some ⟨bL, 0, none⟩) (b.length + 1) (b.length + 1)), (6, .slice (some ⟨bN, 0, none⟩) (b.length + 1) (b.length + 1)), (9, .pointer (some ⟨b9, 0, none⟩)),
              (31, .slice (some ⟨ba, oa, none⟩) a.length ca), (32, .int .i64 a.length), (33, .int .i64 i), (39, .slice adb b.length cb), (40, .int .i64 b.length), (41, .int .i64 k)] ∧
            St w w1 μ [Own.obj b9 [.int .i64 a[i].X, .int .i64 a[i].Y] 46, Own.sl (some ⟨bL, 0, none⟩) (b.length + 1) (b.length + 1) 3 1 usL, Own.sl (some ⟨bN, 0, none⟩) (b.length + 1) (b.length + 1) 3 1 usN] ∧
            ∀ j, j ≤ k → usN[j]? = some (.int .i64 (R (gapsOf a b) (i + 1) j))) b.length
          ⟨0, _, by omega, by omega, rfl, hS, fun j hj => ?_⟩ ⟨rfl, rfl, rfl, rfl, rfl, rfl, rfl, rfl, rfl, rfl, trivial⟩ ?_
        · obtain rfl : j = 0 := by omega
          rw [List.getElem?_set_self (by omega)]; simp [R, huge]
        clear hS
        rintro q m w1 ⟨k, usN, hk, hq, rfl, hS, hN⟩
        have lenN := hS.sl_len 2 rfl
        by_cases h2 : k < b.length
        · skip
          refine CW.seq fun K13 hK13 => ?_
          refine CW.region [0] rfl ?_
          refine LW.ex rfl rfl rfl rfl (Ex.lss rfl rfl (by first | exact decide_eq_true (by omega) | exact decide_eq_false (by omega) | rfl)) hS.rd ?_
          refine LW.nil fun aa ha => hK13 _ _ _ ?_ aa ha
          refine CW.seq fun Kc hKc => ?_
          refine CW.yes rfl ?_
          refine CW.skip fun aa ha => hKc _ _ _ ?_ aa ha
          refine CW.seq fun Kb2 hKb2 => ?_
          refine CW.block ?_
          obtain ⟨bb, ob, rfl, hbx, hby⟩ := hlb.at h2
          obtain ⟨pb1, pb2, pb3, pb4⟩ := hb0 _ (List.getElem_mem h2)
          refine CW.seq fun K14 hK14 => ?_
          refine CW.region [0, 1, 2, 3, 4, 5] rfl ?_
          refine LW.ex rfl rfl rfl rfl (Ex.move rfl) hS.rd ?_
          refine LW.ex rfl rfl rfl rfl (Ex.indexSl Try.underlying26 ti46 rfl rfl rfl (by omega)) hS.rd ?_
          refine LW.ex rfl rfl rfl rfl (Ex.load2c ti46 rfl rfl (by first | exact Rd.obj (k := 0) rfl rfl | exact Rd.obj (k := 1) rfl rfl | exact Rd.obj (k := 2) rfl rfl | exact Rd.obj (k := 3) rfl rfl | exact Rd.obj (k := 4) rfl rfl | exact Rd.imm (by assumption) | exact Rd.sl (k := 0) rfl (by assumption) | exact Rd.sl (k := 1) rfl (by assumption) | exact Rd.sl (k := 2) rfl (by assumption) | exact Rd.sl (k := 3) rfl (by assumption)) (by first | exact Rd.obj (k := 0) rfl rfl | exact Rd.obj (k := 1) rfl rfl | exact Rd.obj (k := 2) rfl rfl | exact Rd.obj (k := 3) rfl rfl | exact Rd.obj (k := 4) rfl rfl | exact Rd.imm (by assumption) | exact Rd.sl (k := 0) rfl (by assumption) | exact Rd.sl (k := 1) rfl (by assumption) | exact Rd.sl (k := 2) rfl (by assumption) | exact Rd.sl (k := 3) rfl (by assumption))) hS.rd ?_
          refine LW.hv rfl rfl rfl rfl (Hv.alloc ti46 hS) fun v w11 ⟨b11, hv, hb11, hS⟩ => ?_
          subst hv
          refine LW.ex rfl rfl rfl rfl (Ex.assign rfl) hS.rd ?_
          refine LW.hu rfl rfl rfl (Hv.storeN (k := 0) ti46 hS rfl rfl rfl rfl (by simp [Value.oneCell'])) fun _ w_5 hS => ?_
          dsimp only [List.set] at hS
          refine LW.nil fun aa ha => hK14 _ _ _ ?_ aa ha
          have hk0 : usL[0 + k * 1]? = some (.int .i64 (R (gapsOf a b) i k)) := by rw [show 0 + k * 1 = k by omega]; exact hL _ (by omega)
          have hk1 : usL[0 + (k + 1) * 1]? = some (.int .i64 (R (gapsOf a b) i (k + 1))) := by rw [show 0 + (k + 1) * 1 = k + 1 by omega]; exact hL _ (by omega)
          have hk2 : usN[0 + k * 1]? = some (.int .i64 (R (gapsOf a b) (i + 1) k)) := by rw [show 0 + k * 1 = k by omega]; exact hN _ (by omega)
          have hbd : 0 ≤ leastL (R (gapsOf a b) i k) [R (gapsOf a b) i (k + 1), R (gapsOf a b) (i + 1) k] ∧ leastL (R (gapsOf a b) i k) [R (gapsOf a b) i (k + 1), R (gapsOf a b) (i + 1) k] ≤ 10000000000000 := by
            have g1 := R_bound _ hg i k
            have g2 := R_bound _ hg i (k + 1)
            have g3 := R_bound _ hg (i + 1) k
            simp only [leastL, List.foldl, huge] at g1 g2 g3 ⊢
            omega
          have hS := hS.drew
          refine CW.draw 33 (.ex 0 <| .ex 1 <| .ex 2 <| .ex 3 <| .ex 4 <| .ex 5 <| .ex 6 <| .ex 7 <| .ex 8 <| .ex 9 <| .ex 10 <| .ex 11 <| .ex 12 <| .ex 13 <| .ex 14 <| .ex 15 <| .ex 18 <| .ex 19 <| .ex 20 <| .ex 21 <| .ex 22 <| .ex 25 <| .ex 26 <| .ex 27 <| .ex 28 <| .ex 29 <| .one 16 <| .one 17 <| .one 23 <| .ex 24 <| .one 30 <| .ex 31 <| .ex 32 <| .done) [33] (Rd _ _) mixed (by kernel_rfl) rfl rfl hS.rd ?_
          refine PW.ex rfl rfl rfl rfl (Ex.move rfl) ?_
          refine PW.ex rfl rfl rfl rfl (Ex.move rfl) ?_
          refine PW.ex rfl rfl rfl rfl (Ex.add rfl rfl (by first | exact inc64 (by omega) | exact addN (by omega) | exact w64 (by omega) (by omega))) ?_
          refine PW.ex rfl rfl rfl rfl (Ex.move rfl) ?_
          refine PW.ex rfl rfl rfl rfl (Ex.move rfl) ?_
          refine PW.ex rfl rfl rfl rfl (Ex.indexSl Try.underlying71 ti3 rfl rfl rfl (by omega)) ?_
          refine PW.ex rfl rfl rfl rfl (Ex.load1 ti3 rfl rfl (by first | exact Rd.obj (k := 0) rfl rfl | exact Rd.obj (k := 1) rfl rfl | exact Rd.obj (k := 2) rfl rfl | exact Rd.obj (k := 3) rfl rfl | exact Rd.obj (k := 4) rfl rfl | exact Rd.imm (by assumption) | exact Rd.sl (k := 0) rfl (by assumption) | exact Rd.sl (k := 1) rfl (by assumption) | exact Rd.sl (k := 2) rfl (by assumption) | exact Rd.sl (k := 3) rfl (by assumption))) ?_
          refine PW.ex rfl rfl rfl rfl (Ex.move rfl) ?_
          refine PW.ex rfl rfl rfl rfl (Ex.move rfl) ?_
          refine PW.ex rfl rfl rfl rfl (Ex.add rfl rfl (by first | exact inc64 (by omega) | exact addN (by omega) | exact w64 (by omega) (by omega))) ?_
          refine PW.ex rfl rfl rfl rfl (Ex.indexSl Try.underlying71 ti3 rfl rfl rfl (by omega)) ?_
          refine PW.ex rfl rfl rfl rfl (Ex.load1 ti3 rfl rfl (by first | exact Rd.obj (k := 0) rfl rfl | exact Rd.obj (k := 1) rfl rfl | exact Rd.obj (k := 2) rfl rfl | exact Rd.obj (k := 3) rfl rfl | exact Rd.obj (k := 4) rfl rfl | exact Rd.imm (by assumption) | exact Rd.sl (k := 0) rfl (by assumption) | exact Rd.sl (k := 1) rfl (by assumption) | exact Rd.sl (k := 2) rfl (by assumption) | exact Rd.sl (k := 3) rfl (by assumption))) ?_
          refine PW.ex rfl rfl rfl rfl (Ex.move rfl) ?_
          refine PW.ex rfl rfl rfl rfl (Ex.move rfl) ?_
          refine PW.ex rfl rfl rfl rfl (Ex.indexSl Try.underlying71 ti3 rfl rfl rfl (by omega)) ?_
          refine PW.ex rfl rfl rfl rfl (Ex.load1 ti3 rfl rfl (by first | exact Rd.obj (k := 0) rfl rfl | exact Rd.obj (k := 1) rfl rfl | exact Rd.obj (k := 2) rfl rfl | exact Rd.obj (k := 3) rfl rfl | exact Rd.obj (k := 4) rfl rfl | exact Rd.imm (by assumption) | exact Rd.sl (k := 0) rfl (by assumption) | exact Rd.sl (k := 1) rfl (by assumption) | exact Rd.sl (k := 2) rfl (by assumption) | exact Rd.sl (k := 3) rfl (by assumption))) ?_
          refine PW.ex rfl rfl rfl rfl (Ex.fieldA Try.underlying46 rfl ti3 rfl) ?_
          refine PW.ex rfl rfl rfl rfl (Ex.load1 ti3 rfl rfl (by first | exact Rd.obj (k := 0) rfl rfl | exact Rd.obj (k := 1) rfl rfl | exact Rd.obj (k := 2) rfl rfl | exact Rd.obj (k := 3) rfl rfl | exact Rd.obj (k := 4) rfl rfl | exact Rd.imm (by assumption) | exact Rd.sl (k := 0) rfl (by assumption) | exact Rd.sl (k := 1) rfl (by assumption) | exact Rd.sl (k := 2) rfl (by assumption) | exact Rd.sl (k := 3) rfl (by assumption))) ?_
          refine PW.ex rfl rfl rfl rfl (Ex.fieldA Try.underlying46 rfl ti3 rfl) ?_
          refine PW.ex rfl rfl rfl rfl (Ex.load1 ti3 rfl rfl (by first | exact Rd.obj (k := 0) rfl rfl | exact Rd.obj (k := 1) rfl rfl | exact Rd.obj (k := 2) rfl rfl | exact Rd.obj (k := 3) rfl rfl | exact Rd.obj (k := 4) rfl rfl | exact Rd.imm (by assumption) | exact Rd.sl (k := 0) rfl (by assumption) | exact Rd.sl (k := 1) rfl (by assumption) | exact Rd.sl (k := 2) rfl (by assumption) | exact Rd.sl (k := 3) rfl (by assumption))) ?_
          refine PW.ex rfl rfl rfl rfl (Ex.sub rfl rfl (by first | exact dec64 (by omega) (by omega) | exact subN (by omega) (by omega) | exact w64 (by omega) (by omega))) ?_
          refine PW.ex rfl rfl rfl rfl (Ex.fieldA Try.underlying46 rfl ti3 rfl) ?_
          refine PW.ex rfl rfl rfl rfl (Ex.load1 ti3 rfl rfl (by first | exact Rd.obj (k := 0) rfl rfl | exact Rd.obj (k := 1) rfl rfl | exact Rd.obj (k := 2) rfl rfl | exact Rd.obj (k := 3) rfl rfl | exact Rd.obj (k := 4) rfl rfl | exact Rd.imm (by assumption) | exact Rd.sl (k := 0) rfl (by assumption) | exact Rd.sl (k := 1) rfl (by assumption) | exact Rd.sl (k := 2) rfl (by assumption) | exact Rd.sl (k := 3) rfl (by assumption))) ?_
          refine PW.ex rfl rfl rfl rfl (Ex.fieldA Try.underlying46 rfl ti3 rfl) ?_
          refine PW.ex rfl rfl rfl rfl (Ex.load1 ti3 rfl rfl (by first | exact Rd.obj (k := 0) rfl rfl | exact Rd.obj (k := 1) rfl rfl | exact Rd.obj (k := 2) rfl rfl | exact Rd.obj (k := 3) rfl rfl | exact Rd.obj (k := 4) rfl rfl | exact Rd.imm (by assumption) | exact Rd.sl (k := 0) rfl (by assumption) | exact Rd.sl (k := 1) rfl (by assumption) | exact Rd.sl (k := 2) rfl (by assumption) | exact Rd.sl (k := 3) rfl (by assumption))) ?_
          refine PW.ex rfl rfl rfl rfl (Ex.sub rfl rfl (by first | exact dec64 (by omega) (by omega) | exact subN (by omega) (by omega) | exact w64 (by omega) (by omega))) ?_
          refine PW.hv rfl rfl rfl rfl (Hv.buildSl hS Try.underlying71 ti3 rfl rfl rfl rfl rfl rfl) (fun _ _ ⟨_, _, _, h⟩ => h.rd.tail) fun v w62 ⟨b62, hv, hb62, hS⟩ => ?_
          subst hv
          refine PW.hv rfl rfl rfl rfl (Hv.callS hS rfl rfl rfl cb23 (least_c _ [R (gapsOf a b) i (k + 1), R (gapsOf a b) (i + 1) k] _ _ _ _ (imm_memOf _) (hS.lend_obj (k := 0) rfl (RepL.ints2 _ _ _) (by simp [maxLen])))) (fun _ _ h => h.2.rd.tail) fun v w63 ⟨hv, hS⟩ => ?_
          subst hv
          refine PW.hv rfl rfl rfl rfl (Hv.callS hS rfl rfl rfl cb31 (amount_c _ _ (by omega) (by omega))) (fun _ _ h => h.2.rd.tail) fun v w69 ⟨hv, hS⟩ => ?_
          subst hv
          refine PW.ex rfl rfl rfl rfl (Ex.add rfl rfl (by first | exact inc64 (by omega) | exact addN (by omega) | exact w64 (by omega) (by omega))) ?_
          refine PW.hv rfl rfl rfl rfl (Hv.callS hS rfl rfl rfl cb31 (amount_c _ _ (by omega) (by omega))) (fun _ _ h => h.2.rd.tail) fun v w76 ⟨hv, hS⟩ => ?_
          subst hv
          refine PW.ex rfl rfl rfl rfl (Ex.add rfl rfl (by first | exact inc64 (by omega) | exact addN (by omega) | exact w64 (by omega) (by omega))) ?_
          refine PW.ex rfl rfl rfl rfl (Ex.indexSl Try.underlying71 ti3 rfl rfl rfl (by omega)) ?_
          refine PW.nil ?_
          refine LW.hu rfl rfl rfl (Hv.storeSl (k := 4) ti3 hS rfl rfl rfl rfl (by first | (simp; done) | omega)) fun _ w_33 hS => ?_
          dsimp only [List.set] at hS
          refine LW.nil fun aa ha => hKb2 _ _ _ ?_ aa ha
          have hS := (hS.drop 0 rfl).drop 0 rfl
          dsimp only [List.eraseIdx] at hS
          refine CW.region [0, 1] rfl ?_
          refine LW.ex rfl rfl rfl rfl (Ex.add rfl rfl (by first | exact inc64 (by omega) | exact addN (by omega) | exact w64 (by omega) (by omega))) hS.rd ?_
          refine LW.ex rfl rfl rfl rfl (Ex.move rfl) hS.rd ?_
          refine LW.nil fun aa ha => ?_
          refine ⟨b.length - (k + 1), _, by omega, ⟨k + 1, _, by omega, rfl, rfl, hS, fun j hj => ?_⟩, ha.sub ⟨rfl, rfl, rfl, rfl, rfl, rfl, rfl, rfl, rfl, rfl, trivial⟩⟩
          rw [show 0 + (k + 1) * 1 = k + 1 by omega]
          by_cases hjk : j = k + 1
          · subst hjk
            rw [List.getElem?_set_self (by omega)]
            have hgd : gapsOf a b i k = gap a[i] b[k] := by unfold gapsOf; rw [dif_pos ⟨h1, h2⟩]
            simp only [R, hgd, gap, leastL, List.foldl]
            congr 2
            omega
          · rw [List.getElem?_set_ne (Ne.symm hjk)]; exact hN j (by omega)
        · skip
          refine CW.seq fun K13 hK13 => ?_
          refine CW.region [0] rfl ?_
          refine LW.ex rfl rfl rfl rfl (Ex.lss rfl rfl (by first | exact decide_eq_true (by omega) | exact decide_eq_false (by omega) | rfl)) hS.rd ?_
          refine LW.nil fun aa ha => hK13 _ _ _ ?_ aa ha
          refine CW.seq fun Kc hKc => ?_
          refine CW.no rfl ?_
          refine CW.exit fun aa ha => hK12o _ _ _ ?_ aa ha
          obtain rfl : k = b.length := by omega
          have hS := hS.drop 0 rfl
          dsimp only [List.eraseIdx] at hS
          refine CW.region [0, 1, 2, 3] rfl ?_
          refine LW.ex rfl rfl rfl rfl (Ex.move rfl) hS.rd ?_
          refine LW.ex rfl rfl rfl rfl (Ex.move rfl) hS.rd ?_
          refine LW.ex rfl rfl rfl rfl (Ex.assign rfl) hS.rd ?_
          refine LW.ex rfl rfl rfl rfl (Ex.assign rfl) hS.rd ?_
          refine LW.nil fun aa ha => hKb _ _ _ ?_ aa ha
          refine CW.region [0, 1] rfl ?_
          refine LW.ex rfl rfl rfl rfl (Ex.add rfl rfl (by first | exact inc64 (by omega) | exact addN (by omega) | exact w64 (by omega) (by omega))) hS.rd ?_
          refine LW.ex rfl rfl rfl rfl (Ex.move rfl) hS.rd ?_
          refine LW.nil fun aa ha => ?_
          exact ⟨a.length - (i + 1), _, by omega, ⟨i + 1, _, _, _, _, by omega, rfl, rfl, hS.swap, hN⟩, ha.sub ⟨rfl, rfl, rfl, rfl, rfl, rfl, trivial⟩⟩
      · skip
        refine CW.seq fun K9 hK9 => ?_
        refine CW.region [0] rfl ?_
        refine LW.ex rfl rfl rfl rfl (Ex.lss rfl rfl (by first | exact decide_eq_true (by omega) | exact decide_eq_false (by omega) | rfl)) hS.rd ?_
        refine LW.nil fun aa ha => hK9 _ _ _ ?_ aa ha
        refine CW.seq fun Kc hKc => ?_
        refine CW.no rfl ?_
        refine CW.exit fun aa ha => hK8o _ _ _ ?_ aa ha
        obtain rfl : i = a.length := by omega
        have hlast : usL[0 + b.length * 1]? = some (.int .i64 (R (gapsOf a b) a.length b.length)) := by rw [show 0 + b.length * 1 = b.length by omega]; exact hL _ (Nat.le_refl _)
        refine CW.seq fun K19 hK19 => ?_
        refine CW.region [0, 1, 2, 3, 4, 5] rfl ?_
        refine LW.ex rfl rfl rfl rfl (Ex.move rfl) hS.rd ?_
        refine LW.ex rfl rfl rfl rfl (Ex.move rfl) hS.rd ?_
        refine LW.ex rfl rfl rfl rfl (Ex.lenSl rfl Try.underlying26 rfl) hS.rd ?_
        refine LW.ex rfl rfl rfl rfl (Ex.indexSl Try.underlying71 ti3 rfl rfl rfl (by omega)) hS.rd ?_
        refine LW.ex rfl rfl rfl rfl (Ex.load1 ti3 rfl rfl (by first | exact Rd.obj (k := 0) rfl rfl | exact Rd.obj (k := 1) rfl rfl | exact Rd.obj (k := 2) rfl rfl | exact Rd.obj (k := 3) rfl rfl | exact Rd.obj (k := 4) rfl rfl | exact Rd.imm (by assumption) | exact Rd.sl (k := 0) rfl (by assumption) | exact Rd.sl (k := 1) rfl (by assumption) | exact Rd.sl (k := 2) rfl (by assumption) | exact Rd.sl (k := 3) rfl (by assumption))) hS.rd ?_
        refine LW.ex rfl rfl rfl rfl (Ex.assign rfl) hS.rd ?_
        refine LW.nil fun aa ha => hK19 _ _ _ ?_ aa ha
        refine CW.ret fun aa ha => ?_
        exact ret_one ha Try.results15 rfl hS.retS
  have hS := hS.drew
  refine CW.draw 10 (.ex 0 <| .ex 1 <| .ex 2 <| .ex 4 <| .ex 5 <| .ex 6 <| .two 3 (.ex 8 <| .one 7 <| .ex 9 <| .done) 7 (.one 3 <| .ex 8 <| .ex 9 <| .done)) [] (Rd _ _) mixed (by kernel_rfl) rfl rfl hS.rd ?_
  refine PW.ex rfl rfl rfl rfl (Ex.move rfl) ?_
  refine PW.ex rfl rfl rfl rfl (Ex.lenSl rfl Try.underlying26 rfl) ?_
  refine PW.ex rfl rfl rfl rfl (Ex.add rfl rfl (by first | exact inc64 (by omega) | exact addN (by omega) | exact w64 (by omega) (by omega))) ?_
  refine PW.ex rfl rfl rfl rfl (Ex.move rfl) ?_
  refine PW.ex rfl rfl rfl rfl (Ex.lenSl rfl Try.underlying26 rfl) ?_
  refine PW.ex rfl rfl rfl rfl (Ex.add rfl rfl (by first | exact inc64 (by omega) | exact addN (by omega) | exact w64 (by omega) (by omega))) ?_
  refine PW.two rfl rfl rfl rfl rfl rfl rfl rfl (Hv.makeSlice Try.underlying71 ti3 hS rfl rfl rfl rfl (by omega) (by unfold maxLen; omega)) (fun _ _ ⟨_, _, _, h⟩ => h.rd.tail) (Hv.makeSlice Try.underlying71 ti3 hS rfl rfl rfl rfl (by omega) (by unfold maxLen; omega)) (fun _ _ ⟨_, _, _, h⟩ => h.rd.tail) (fun v w15 ⟨b15, hv, hb15, hS⟩ => ?_) (fun v w19 ⟨b19, hv, hb19, hS⟩ => ?_)
  · skip
    subst hv
    refine PW.ex rfl rfl rfl rfl (Ex.assign rfl) ?_
    refine PW.hv rfl rfl rfl rfl (Hv.makeSlice Try.underlying71 ti3 hS rfl rfl rfl rfl (by omega) (by unfold maxLen; omega)) (fun _ _ ⟨_, _, _, h⟩ => h.rd.tail.tail) fun v w19 ⟨b19, hv, hb19, hS⟩ => ?_
    subst hv
    refine PW.ex rfl rfl rfl rfl (Ex.assign rfl) ?_
    refine PW.nil ?_
    refine LW.nil fun aa ha => hkey _ _ _ _ _ (by first | exact hS | exact hS.swap) aa (ha.sub ⟨rfl, rfl, rfl, rfl, trivial⟩)
  · skip
    subst hv
    refine PW.hv rfl rfl rfl rfl (Hv.makeSlice Try.underlying71 ti3 hS rfl rfl rfl rfl (by omega) (by unfold maxLen; omega)) (fun _ _ ⟨_, _, _, h⟩ => h.rd.tail.tail) fun v w15 ⟨b15, hv, hb15, hS⟩ => ?_
    subst hv
    refine PW.ex rfl rfl rfl rfl (Ex.assign rfl) ?_
    refine PW.ex rfl rfl rfl rfl (Ex.assign rfl) ?_
    refine PW.nil ?_
    refine LW.nil fun aa ha => hkey _ _ _ _ _ (by first | exact hS | exact hS.swap) aa (ha.sub ⟨rfl, rfl, rfl, rfl, trivial⟩)
end Go.Proofs.Ythbglfjajifkoaa
