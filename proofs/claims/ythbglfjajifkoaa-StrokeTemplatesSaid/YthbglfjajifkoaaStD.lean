/-
  Strokes: the walk of syllabaryref22.Distance.
-/
import Derived.Test.YthbglfjajifkoaaStC
namespace Go.Proofs.Ythbglfjajifkoaa
open Go.RowKit Sy

theorem sealed_cell {g l c : Nat} {E : TypeId} {sz : Nat} {us : List Value} {bs : List Nat} {μ : Mem} (h : (Own.sl (some ⟨g, 0, none⟩) l c E sz us).φ bs μ) {j : Nat} {v : Value} (hv : us[j]? = some v) : μ.cell g j = some v := by
  obtain ⟨hlen, hφ⟩ := h
  rcases hφ with ⟨h1, _⟩ | ⟨g', cur, h1, rfl, hh, _, _, _, h4⟩
  · cases h1
  · cases h1
    simp only [Mem.cell, hh]
    rw [← h4, List.getElem?_take] at hv
    split at hv
    · simpa using hv
    · cases hv

/-- The table of the reference. -/
def T (g : Nat → Nat → Int) : Nat → Nat → Int
  | 0, 0 => g 0 0
  | 0, k + 1 => min 1000000 (T g 0 k) + g 0 (k + 1)
  | i + 1, 0 => min 1000000 (T g i 0) + g (i + 1) 0
  | i + 1, k + 1 => min (min (min 1000000 (T g i (k + 1))) (T g (i + 1) k)) (T g i k) + g (i + 1) (k + 1)
theorem T_bound (g : Nat → Nat → Int) (hg : ∀ i k, 0 ≤ g i k ∧ g i k ≤ 1000000) : ∀ i k, 0 ≤ T g i k ∧ T g i k ≤ 2000000
  | 0, 0 => by have := hg 0 0; simp only [T]; omega
  | 0, k + 1 => by have := hg 0 (k + 1); have := T_bound g hg 0 k; simp only [T]; omega
  | i + 1, 0 => by have := hg (i + 1) 0; have := T_bound g hg i 0; simp only [T]; omega
  | i + 1, k + 1 => by
    have h1 := T_bound g hg i k
    have h2 := T_bound g hg i (k + 1)
    have h3 := T_bound g hg (i + 1) k
    have h4 := hg (i + 1) (k + 1)
    simp only [T]
    omega

set_option maxRecDepth 100000 in
theorem refdist_c (a b : List Pt) (ada adb : Option Addr) (ca cb : Nat) (μ : Mem) (w : World) (hμ : Imm μ w) (hla : Sl μ ada ca a) (hlb : Sl μ adb cb b) (ha0 : ∀ p ∈ a, Bd 100000 p) (hb0 : ∀ p ∈ b, Bd 100000 p) (hal : a.length ≤ 1000) (hbl : b.length ≤ 1000)
    (hae : 0 < a.length) (hbe : 0 < b.length) :
    Calls Try.prog 16 #[.slice ada a.length ca, .slice adb b.length cb] w (RetS w (.int .i64 (T (gapsOf a b) (a.length - 1) (b.length - 1)))) := by
  have hS := St.start w μ hμ
  have hg := gapsOf_bound ha0 hb0
  refine calls_start 105 [.slice ada a.length ca, .slice adb b.length cb] Try.func16 rfl Try.ntmps16 rfl rfl ?_
  refine CW.seq fun K0 hK0 => ?_
  refine CW.region [0] rfl ?_
  refine LW.ex rfl rfl rfl rfl (Ex.assign rfl) hS.rd ?_
  refine LW.nil fun aa ha => hK0 _ _ _ ?_ aa ha
  refine CW.seq fun K1 hK1 => ?_
  refine CW.region [0, 1, 2, 3] rfl ?_
  refine LW.ex rfl rfl rfl rfl (Ex.move rfl) hS.rd ?_
  refine LW.ex rfl rfl rfl rfl (Ex.lenSl rfl Try.underlying26 rfl) hS.rd ?_
  refine LW.hv rfl rfl rfl rfl (Hv.makeSlice Try.underlying74 ti71 hS rfl rfl rfl rfl (by omega) (by unfold maxLen; omega)) fun v w11 ⟨b11, hv, hb11, hS⟩ => ?_
  subst hv
  refine LW.ex rfl rfl rfl rfl (Ex.assign rfl) hS.rd ?_
  refine LW.nil fun aa ha => hK1 _ _ _ ?_ aa ha
  refine CW.seq fun K2o hK2o => ?_
  refine CW.seq fun K2 hK2 => ?_
  refine CW.region [0] rfl ?_
  refine LW.ex rfl rfl rfl rfl (Ex.assign rfl) hS.rd ?_
  refine LW.nil fun aa ha => hK2 _ _ _ ?_ aa ha
  refine CW.block ?_
  refine CW.loop (fun q m w1 => ∃ (i : Nat) (usD : List Value) (μ1 : Mem), i ≤ a.length ∧ q = a.length - i ∧ m = [(0, .slice ada a.length ca), (1, .slice adb b.length cb), (5, .slice (some ⟨b11, 0, none⟩) a.length a.length), (6, .int .i64 i)] ∧
      St w w1 μ1 [Own.sl (some ⟨b11, 0, none⟩) a.length a.length 71 1 usD] ∧ Mem.ext w.heap.size μ μ1 ∧
      ∀ j, i = j + 1 → ∃ gp, usD[j]? = some (.slice (some ⟨gp, 0, none⟩) b.length b.length) ∧ ∀ k, k < b.length → μ1.cell gp k = some (.int .i64 (T (gapsOf a b) j k))) a.length
    ⟨0, _, μ, by omega, by omega, rfl, hS, Mem.ext.refl _ _, fun j hj => by omega⟩ ⟨rfl, rfl, rfl, rfl, trivial⟩ ?_
  clear hS
  rintro q m w1 ⟨i, usD, μ1, hi, hq, rfl, hS, hm1, hprev⟩
  have lenD := hS.sl_len 0 rfl
  by_cases h1 : i < a.length
  · skip
    refine CW.seq fun K3o hK3o => ?_
    refine CW.seq fun K3 hK3 => ?_
    refine CW.region [0, 1, 2, 3] rfl ?_
    refine LW.ex rfl rfl rfl rfl (Ex.move rfl) hS.rd ?_
    refine LW.ex rfl rfl rfl rfl (Ex.move rfl) hS.rd ?_
    refine LW.ex rfl rfl rfl rfl (Ex.lenSl rfl Try.underlying26 rfl) hS.rd ?_
    refine LW.ex rfl rfl rfl rfl (Ex.lss rfl rfl (by first | exact decide_eq_true (by omega) | exact decide_eq_false (by omega) | rfl)) hS.rd ?_
    refine LW.nil fun aa ha => hK3 _ _ _ ?_ aa ha
    refine CW.yes rfl ?_
    refine CW.skip fun aa ha => hK3o _ _ _ ?_ aa ha
    refine CW.seq fun Kb hKb => ?_
    refine CW.block ?_
    refine CW.seq fun K5 hK5 => ?_
    refine CW.region [0, 1, 2, 3, 4, 5, 6] rfl ?_
    refine LW.ex rfl rfl rfl rfl (Ex.move rfl) hS.rd ?_
    refine LW.ex rfl rfl rfl rfl (Ex.move rfl) hS.rd ?_
    refine LW.ex rfl rfl rfl rfl (Ex.move rfl) hS.rd ?_
    refine LW.ex rfl rfl rfl rfl (Ex.lenSl rfl Try.underlying26 rfl) hS.rd ?_
    refine LW.hv rfl rfl rfl rfl (Hv.makeSlice Try.underlying71 ti3 hS rfl rfl rfl rfl (by omega) (by unfold maxLen; omega)) fun v w22 ⟨b22, hv, hb22, hS⟩ => ?_
    subst hv
    refine LW.ex rfl rfl rfl rfl (Ex.indexSl Try.underlying74 ti71 rfl rfl rfl (by omega)) hS.rd ?_
    refine LW.hu rfl rfl rfl (Hv.storeSl (k := 1) ti71 hS rfl rfl rfl rfl (by first | (simp; done) | omega)) fun _ w_6 hS => ?_
    dsimp only [List.set] at hS
    refine LW.nil fun aa ha => hK5 _ _ _ ?_ aa ha
    refine CW.seq fun K6 hK6 => ?_
    refine CW.region [0] rfl ?_
    refine LW.ex rfl rfl rfl rfl (Ex.assign rfl) hS.rd ?_
    refine LW.nil fun aa ha => hK6 _ _ _ ?_ aa ha
    refine CW.block ?_
    have hla := hla.mono hm1
    have hlb := hlb.mono hm1
    obtain ⟨ba, oa, rfl, hax, hay⟩ := hla.at h1
    have pa := ha0 _ (List.getElem_mem h1)
    have hrow : (usD.set (0 + i * 1) (.slice (some ⟨b22, 0, none⟩) b.length b.length))[0 + i * 1]? = some (.slice (some ⟨b22, 0, none⟩) b.length b.length) := List.getElem?_set_self (by omega)
    refine CW.loop (fun q m w1 => ∃ (k : Nat) (usR : List Value), k ≤ b.length ∧ q = b.length - k ∧ m = [(0, .slice (some ⟨ba, oa, none⟩) a.length ca), (1, .slice adb b.length cb), (5, .slice (some ⟨b11, 0, none⟩) a.length a.length), (6, .int .i64 i), (7, .int .i64 k)] ∧
        St w w1 μ1 [Own.sl (some ⟨b22, 0, none⟩) b.length b.length 3 1 usR, Own.sl (some ⟨b11, 0, none⟩) a.length a.length 71 1 (usD.set (0 + i * 1) (.slice (some ⟨b22, 0, none⟩) b.length b.length))] ∧
        ∀ j, j < k → usR[j]? = some (.int .i64 (T (gapsOf a b) i j))) b.length
      ⟨0, _, by omega, by omega, rfl, hS, fun j hj => by omega⟩ ⟨rfl, rfl, rfl, rfl, rfl, trivial⟩ ?_
    clear hS
    rintro q m w1 ⟨k, usR, hk, hq, rfl, hS, hR⟩
    have lenR := hS.sl_len 0 rfl
    by_cases h2 : k < b.length
    · skip
      refine CW.seq fun K7o hK7o => ?_
      refine CW.seq fun K7 hK7 => ?_
      refine CW.region [0, 1, 2, 3] rfl ?_
      refine LW.ex rfl rfl rfl rfl (Ex.move rfl) hS.rd ?_
      refine LW.ex rfl rfl rfl rfl (Ex.move rfl) hS.rd ?_
      refine LW.ex rfl rfl rfl rfl (Ex.lenSl rfl Try.underlying26 rfl) hS.rd ?_
      refine LW.ex rfl rfl rfl rfl (Ex.lss rfl rfl (by first | exact decide_eq_true (by omega) | exact decide_eq_false (by omega) | rfl)) hS.rd ?_
      refine LW.nil fun aa ha => hK7 _ _ _ ?_ aa ha
      refine CW.yes rfl ?_
      refine CW.skip fun aa ha => hK7o _ _ _ ?_ aa ha
      refine CW.seq fun Kb2 hKb2 => ?_
      refine CW.block ?_
      obtain ⟨bb, ob, rfl, hbx, hby⟩ := hlb.at h2
      have pb := hb0 _ (List.getElem_mem h2)
      have hgb := gap_bound pa pb
      have hgd : gapsOf a b i k = gap a[i] b[k] := by unfold gapsOf; rw [dif_pos ⟨h1, h2⟩]
      have hT := T_bound _ hg
      by_cases hi0 : i = 0
      · subst hi0
        by_cases hk0 : k = 0
        · subst hk0
          refine CW.seq fun K9 hK9 => ?_
          refine CW.region [0] rfl ?_
          refine LW.ex rfl rfl rfl rfl (Ex.assign rfl) hS.rd ?_
          refine LW.nil fun aa ha => hK9 _ _ _ ?_ aa ha
          refine CW.seq fun K10o hK10o => ?_
          refine CW.seq fun K10 hK10 => ?_
          refine CW.region [0, 1, 2, 3, 4, 5] rfl ?_
          refine LW.ex rfl rfl rfl rfl (Ex.move rfl) hS.rd ?_
          refine LW.ex rfl rfl rfl rfl (Ex.eql rfl rfl (by first | exact decide_eq_true (by omega) | exact decide_eq_false (by omega) | rfl)) hS.rd ?_
          refine LW.ex rfl rfl rfl rfl (Ex.move rfl) hS.rd ?_
          refine LW.ex rfl rfl rfl rfl (Ex.move rfl) hS.rd ?_
          refine LW.ex rfl rfl rfl rfl (Ex.eql rfl rfl (by first | exact decide_eq_true (by omega) | exact decide_eq_false (by omega) | rfl)) hS.rd ?_
          refine LW.ex rfl rfl rfl rfl (by first | exact Ex.pick_yes rfl rfl | exact Ex.pick_no rfl rfl) hS.rd ?_
          refine LW.nil fun aa ha => hK10 _ _ _ ?_ aa ha
          refine CW.yes rfl ?_
          refine CW.region [0] rfl ?_
          refine LW.ex rfl rfl rfl rfl (Ex.assign rfl) hS.rd ?_
          refine LW.nil fun aa ha => hK10o _ _ _ ?_ aa ha
          refine CW.seq fun K12o hK12o => ?_
          refine CW.seq fun K12 hK12 => ?_
          refine CW.region [0, 1] rfl ?_
          refine LW.ex rfl rfl rfl rfl (Ex.move rfl) hS.rd ?_
          refine LW.ex rfl rfl rfl rfl (Ex.gtr rfl rfl (by first | exact decide_eq_true (by omega) | exact decide_eq_false (by omega) | rfl)) hS.rd ?_
          refine LW.nil fun aa ha => hK12 _ _ _ ?_ aa ha
          refine CW.no rfl (CW.skip fun aa ha => hK12o _ _ _ ?_ aa ha)
          refine CW.seq fun K14o hK14o => ?_
          refine CW.seq fun K14 hK14 => ?_
          refine CW.region [0, 1] rfl ?_
          refine LW.ex rfl rfl rfl rfl (Ex.move rfl) hS.rd ?_
          refine LW.ex rfl rfl rfl rfl (Ex.gtr rfl rfl (by first | exact decide_eq_true (by omega) | exact decide_eq_false (by omega) | rfl)) hS.rd ?_
          refine LW.nil fun aa ha => hK14 _ _ _ ?_ aa ha
          refine CW.no rfl (CW.skip fun aa ha => hK14o _ _ _ ?_ aa ha)
          refine CW.seq fun K16o hK16o => ?_
          refine CW.seq fun K16 hK16 => ?_
          refine CW.region [0, 1, 2, 3, 4, 5] rfl ?_
          refine LW.ex rfl rfl rfl rfl (Ex.move rfl) hS.rd ?_
          refine LW.ex rfl rfl rfl rfl (Ex.gtr rfl rfl (by first | exact decide_eq_true (by omega) | exact decide_eq_false (by omega) | rfl)) hS.rd ?_
          refine LW.ex rfl rfl rfl rfl (Ex.move rfl) hS.rd ?_
          refine LW.skip rfl rfl rfl rfl ?_
          refine LW.skip rfl rfl rfl rfl ?_
          refine LW.ex rfl rfl rfl rfl (by first | exact Ex.pick_yes rfl rfl | exact Ex.pick_no rfl rfl) hS.rd ?_
          refine LW.nil fun aa ha => hK16 _ _ _ ?_ aa ha
          refine CW.no rfl (CW.skip fun aa ha => hK16o _ _ _ ?_ aa ha)
          have hS := hS.drew
          refine CW.draw 17 (.ex 0 <| .ex 1 <| .ex 2 <| .ex 3 <| .ex 4 <| .ex 5 <| .ex 6 <| .ex 7 <| .ex 8 <| .ex 9 <| .ex 10 <| .ex 11 <| .ex 12 <| .ex 13 <| .one 14 <| .ex 15 <| .ex 16 <| .done) [17] (Rd _ _) mixed (by kernel_rfl) rfl rfl hS.rd ?_
          refine PW.ex rfl rfl rfl rfl (Ex.move rfl) ?_
          refine PW.ex rfl rfl rfl rfl (Ex.move rfl) ?_
          refine PW.ex rfl rfl rfl rfl (Ex.indexSl Try.underlying74 ti71 rfl rfl rfl (by omega)) ?_
          refine PW.ex rfl rfl rfl rfl (Ex.load1 ti71 rfl rfl (by first | exact Rd.obj (k := 0) rfl rfl | exact Rd.obj (k := 1) rfl rfl | exact Rd.obj (k := 2) rfl rfl | exact Rd.obj (k := 3) rfl rfl | exact Rd.obj (k := 4) rfl rfl | exact Rd.imm (by assumption) | exact Rd.sl (k := 0) rfl (by assumption) | exact Rd.sl (k := 1) rfl (by assumption) | exact Rd.sl (k := 2) rfl (by assumption) | exact Rd.sl (k := 3) rfl (by assumption))) ?_
          refine PW.ex rfl rfl rfl rfl (Ex.move rfl) ?_
          refine PW.ex rfl rfl rfl rfl (Ex.move rfl) ?_
          refine PW.ex rfl rfl rfl rfl (Ex.move rfl) ?_
          refine PW.ex rfl rfl rfl rfl (Ex.move rfl) ?_
          refine PW.ex rfl rfl rfl rfl (Ex.indexSl Try.underlying26 ti46 rfl rfl rfl (by omega)) ?_
          refine PW.ex rfl rfl rfl rfl (Ex.load2c ti46 rfl rfl (by first | exact Rd.obj (k := 0) rfl rfl | exact Rd.obj (k := 1) rfl rfl | exact Rd.obj (k := 2) rfl rfl | exact Rd.obj (k := 3) rfl rfl | exact Rd.obj (k := 4) rfl rfl | exact Rd.imm (by assumption) | exact Rd.sl (k := 0) rfl (by assumption) | exact Rd.sl (k := 1) rfl (by assumption) | exact Rd.sl (k := 2) rfl (by assumption) | exact Rd.sl (k := 3) rfl (by assumption)) (by first | exact Rd.obj (k := 0) rfl rfl | exact Rd.obj (k := 1) rfl rfl | exact Rd.obj (k := 2) rfl rfl | exact Rd.obj (k := 3) rfl rfl | exact Rd.obj (k := 4) rfl rfl | exact Rd.imm (by assumption) | exact Rd.sl (k := 0) rfl (by assumption) | exact Rd.sl (k := 1) rfl (by assumption) | exact Rd.sl (k := 2) rfl (by assumption) | exact Rd.sl (k := 3) rfl (by assumption))) ?_
          refine PW.ex rfl rfl rfl rfl (Ex.move rfl) ?_
          refine PW.ex rfl rfl rfl rfl (Ex.move rfl) ?_
          refine PW.ex rfl rfl rfl rfl (Ex.indexSl Try.underlying26 ti46 rfl rfl rfl (by omega)) ?_
          refine PW.ex rfl rfl rfl rfl (Ex.load2c ti46 rfl rfl (by first | exact Rd.obj (k := 0) rfl rfl | exact Rd.obj (k := 1) rfl rfl | exact Rd.obj (k := 2) rfl rfl | exact Rd.obj (k := 3) rfl rfl | exact Rd.obj (k := 4) rfl rfl | exact Rd.imm (by assumption) | exact Rd.sl (k := 0) rfl (by assumption) | exact Rd.sl (k := 1) rfl (by assumption) | exact Rd.sl (k := 2) rfl (by assumption) | exact Rd.sl (k := 3) rfl (by assumption)) (by first | exact Rd.obj (k := 0) rfl rfl | exact Rd.obj (k := 1) rfl rfl | exact Rd.obj (k := 2) rfl rfl | exact Rd.obj (k := 3) rfl rfl | exact Rd.obj (k := 4) rfl rfl | exact Rd.imm (by assumption) | exact Rd.sl (k := 0) rfl (by assumption) | exact Rd.sl (k := 1) rfl (by assumption) | exact Rd.sl (k := 2) rfl (by assumption) | exact Rd.sl (k := 3) rfl (by assumption))) ?_
          refine PW.hv rfl rfl rfl rfl (Hv.callS hS rfl rfl rfl cb20 (gap_c _ _ _ pa pb)) (fun _ _ h => h.2.rd) fun v w91 ⟨hv, hS⟩ => ?_
          subst hv
          refine PW.ex rfl rfl rfl rfl (Ex.add rfl rfl (by first | exact inc64 (by omega) | exact addN (by omega) | exact w64 (by omega) (by omega))) ?_
          refine PW.ex rfl rfl rfl rfl (Ex.indexSl Try.underlying71 ti3 rfl rfl rfl (by omega)) ?_
          refine PW.nil ?_
          refine LW.hu rfl rfl rfl (Hv.storeSl (k := 0) ti3 hS rfl rfl rfl rfl (by first | (simp; done) | omega)) fun _ w_17 hS => ?_
          dsimp only [List.set] at hS
          refine LW.nil fun aa ha => hKb2 _ _ _ ?_ aa ha
          refine CW.region [0, 1, 2] rfl ?_
          refine LW.ex rfl rfl rfl rfl (Ex.move rfl) hS.rd ?_
          refine LW.ex rfl rfl rfl rfl (Ex.add rfl rfl (by first | exact inc64 (by omega) | exact addN (by omega) | exact w64 (by omega) (by omega))) hS.rd ?_
          refine LW.ex rfl rfl rfl rfl (Ex.assign rfl) hS.rd ?_
          refine LW.nil fun aa ha => ?_
          refine ⟨b.length - (0 + 1), _, by omega, ⟨0 + 1, _, by omega, rfl, rfl, hS, fun j hj => ?_⟩, ha.sub ⟨rfl, rfl, rfl, rfl, rfl, trivial⟩⟩
          rw [show 0 + 0 * 1 = 0 by omega]
          by_cases hjk : j = 0
          · subst hjk
            rw [List.getElem?_set_self (by omega)]
            simp only [T, hgd] <;> first | done | simp
          · rw [List.getElem?_set_ne (Ne.symm hjk)]; exact hR j (by omega)
        · obtain ⟨k, rfl⟩ : ∃ k', k = k' + 1 := ⟨k - 1, by omega⟩
          have hr1 : usR[0 + (k + 1 - 1) * 1]? = some (.int .i64 (T (gapsOf a b) 0 k)) := by rw [show 0 + (k + 1 - 1) * 1 = k by omega]; exact hR _ (by omega)
          refine CW.seq fun K9 hK9 => ?_
          refine CW.region [0] rfl ?_
          refine LW.ex rfl rfl rfl rfl (Ex.assign rfl) hS.rd ?_
          refine LW.nil fun aa ha => hK9 _ _ _ ?_ aa ha
          refine CW.seq fun K10o hK10o => ?_
          refine CW.seq fun K10 hK10 => ?_
          refine CW.region [0, 1, 2, 3, 4, 5] rfl ?_
          refine LW.ex rfl rfl rfl rfl (Ex.move rfl) hS.rd ?_
          refine LW.ex rfl rfl rfl rfl (Ex.eql rfl rfl (by first | exact decide_eq_true (by omega) | exact decide_eq_false (by omega) | rfl)) hS.rd ?_
          refine LW.ex rfl rfl rfl rfl (Ex.move rfl) hS.rd ?_
          refine LW.ex rfl rfl rfl rfl (Ex.move rfl) hS.rd ?_
          refine LW.ex rfl rfl rfl rfl (Ex.eql rfl rfl (by first | exact decide_eq_true (by omega) | exact decide_eq_false (by omega) | rfl)) hS.rd ?_
          refine LW.ex rfl rfl rfl rfl (by first | exact Ex.pick_yes rfl rfl | exact Ex.pick_no rfl rfl) hS.rd ?_
          refine LW.nil fun aa ha => hK10 _ _ _ ?_ aa ha
          refine CW.no rfl (CW.skip fun aa ha => hK10o _ _ _ ?_ aa ha)
          refine CW.seq fun K12o hK12o => ?_
          refine CW.seq fun K12 hK12 => ?_
          refine CW.region [0, 1] rfl ?_
          refine LW.ex rfl rfl rfl rfl (Ex.move rfl) hS.rd ?_
          refine LW.ex rfl rfl rfl rfl (Ex.gtr rfl rfl (by first | exact decide_eq_true (by omega) | exact decide_eq_false (by omega) | rfl)) hS.rd ?_
          refine LW.nil fun aa ha => hK12 _ _ _ ?_ aa ha
          refine CW.no rfl (CW.skip fun aa ha => hK12o _ _ _ ?_ aa ha)
          refine CW.seq fun K14o hK14o => ?_
          refine CW.seq fun K14 hK14 => ?_
          refine CW.region [0, 1] rfl ?_
          refine LW.ex rfl rfl rfl rfl (Ex.move rfl) hS.rd ?_
          refine LW.ex rfl rfl rfl rfl (Ex.gtr rfl rfl (by first | exact decide_eq_true (by omega) | exact decide_eq_false (by omega) | rfl)) hS.rd ?_
          refine LW.nil fun aa ha => hK14 _ _ _ ?_ aa ha
          refine CW.yes rfl ?_
          refine CW.region [0, 1, 2, 3, 4, 5, 6, 7, 8, 9, 10] rfl ?_
          refine LW.ex rfl rfl rfl rfl (Ex.move rfl) hS.rd ?_
          refine LW.ex rfl rfl rfl rfl (Ex.move rfl) hS.rd ?_
          refine LW.ex rfl rfl rfl rfl (Ex.move rfl) hS.rd ?_
          refine LW.ex rfl rfl rfl rfl (Ex.indexSl Try.underlying74 ti71 rfl rfl rfl (by omega)) hS.rd ?_
          refine LW.ex rfl rfl rfl rfl (Ex.load1 ti71 rfl rfl (by first | exact Rd.obj (k := 0) rfl rfl | exact Rd.obj (k := 1) rfl rfl | exact Rd.obj (k := 2) rfl rfl | exact Rd.obj (k := 3) rfl rfl | exact Rd.obj (k := 4) rfl rfl | exact Rd.imm (by assumption) | exact Rd.sl (k := 0) rfl (by assumption) | exact Rd.sl (k := 1) rfl (by assumption) | exact Rd.sl (k := 2) rfl (by assumption) | exact Rd.sl (k := 3) rfl (by assumption))) hS.rd ?_
          refine LW.ex rfl rfl rfl rfl (Ex.move rfl) hS.rd ?_
          refine LW.ex rfl rfl rfl rfl (Ex.sub rfl rfl (by first | exact dec64 (by omega) (by omega) | exact subN (by omega) (by omega) | exact w64 (by omega) (by omega))) hS.rd ?_
          refine LW.ex rfl rfl rfl rfl (Ex.indexSl Try.underlying71 ti3 rfl rfl rfl (by omega)) hS.rd ?_
          refine LW.ex rfl rfl rfl rfl (Ex.load1 ti3 rfl rfl (by first | exact Rd.obj (k := 0) rfl rfl | exact Rd.obj (k := 1) rfl rfl | exact Rd.obj (k := 2) rfl rfl | exact Rd.obj (k := 3) rfl rfl | exact Rd.obj (k := 4) rfl rfl | exact Rd.imm (by assumption) | exact Rd.sl (k := 0) rfl (by assumption) | exact Rd.sl (k := 1) rfl (by assumption) | exact Rd.sl (k := 2) rfl (by assumption) | exact Rd.sl (k := 3) rfl (by assumption))) hS.rd ?_
          refine LW.ex rfl rfl rfl rfl (Ex.min2 rfl rfl rfl) hS.rd ?_
          refine LW.ex rfl rfl rfl rfl (Ex.assign rfl) hS.rd ?_
          refine LW.nil fun aa ha => hK14o _ _ _ ?_ aa ha
          refine CW.seq fun K16o hK16o => ?_
          refine CW.seq fun K16 hK16 => ?_
          refine CW.region [0, 1, 2, 3, 4, 5] rfl ?_
          refine LW.ex rfl rfl rfl rfl (Ex.move rfl) hS.rd ?_
          refine LW.ex rfl rfl rfl rfl (Ex.gtr rfl rfl (by first | exact decide_eq_true (by omega) | exact decide_eq_false (by omega) | rfl)) hS.rd ?_
          refine LW.ex rfl rfl rfl rfl (Ex.move rfl) hS.rd ?_
          refine LW.skip rfl rfl rfl rfl ?_
          refine LW.skip rfl rfl rfl rfl ?_
          refine LW.ex rfl rfl rfl rfl (by first | exact Ex.pick_yes rfl rfl | exact Ex.pick_no rfl rfl) hS.rd ?_
          refine LW.nil fun aa ha => hK16 _ _ _ ?_ aa ha
          refine CW.no rfl (CW.skip fun aa ha => hK16o _ _ _ ?_ aa ha)
          have := hT 0 k
          have hS := hS.drew
          refine CW.draw 17 (.ex 0 <| .ex 1 <| .ex 2 <| .ex 3 <| .ex 4 <| .ex 5 <| .ex 6 <| .ex 7 <| .ex 8 <| .ex 9 <| .ex 10 <| .ex 11 <| .ex 12 <| .ex 13 <| .one 14 <| .ex 15 <| .ex 16 <| .done) [17] (Rd _ _) mixed (by kernel_rfl) rfl rfl hS.rd ?_
          refine PW.ex rfl rfl rfl rfl (Ex.move rfl) ?_
          refine PW.ex rfl rfl rfl rfl (Ex.move rfl) ?_
          refine PW.ex rfl rfl rfl rfl (Ex.indexSl Try.underlying74 ti71 rfl rfl rfl (by omega)) ?_
          refine PW.ex rfl rfl rfl rfl (Ex.load1 ti71 rfl rfl (by first | exact Rd.obj (k := 0) rfl rfl | exact Rd.obj (k := 1) rfl rfl | exact Rd.obj (k := 2) rfl rfl | exact Rd.obj (k := 3) rfl rfl | exact Rd.obj (k := 4) rfl rfl | exact Rd.imm (by assumption) | exact Rd.sl (k := 0) rfl (by assumption) | exact Rd.sl (k := 1) rfl (by assumption) | exact Rd.sl (k := 2) rfl (by assumption) | exact Rd.sl (k := 3) rfl (by assumption))) ?_
          refine PW.ex rfl rfl rfl rfl (Ex.move rfl) ?_
          refine PW.ex rfl rfl rfl rfl (Ex.move rfl) ?_
          refine PW.ex rfl rfl rfl rfl (Ex.move rfl) ?_
          refine PW.ex rfl rfl rfl rfl (Ex.move rfl) ?_
          refine PW.ex rfl rfl rfl rfl (Ex.indexSl Try.underlying26 ti46 rfl rfl rfl (by omega)) ?_
          refine PW.ex rfl rfl rfl rfl (Ex.load2c ti46 rfl rfl (by first | exact Rd.obj (k := 0) rfl rfl | exact Rd.obj (k := 1) rfl rfl | exact Rd.obj (k := 2) rfl rfl | exact Rd.obj (k := 3) rfl rfl | exact Rd.obj (k := 4) rfl rfl | exact Rd.imm (by assumption) | exact Rd.sl (k := 0) rfl (by assumption) | exact Rd.sl (k := 1) rfl (by assumption) | exact Rd.sl (k := 2) rfl (by assumption) | exact Rd.sl (k := 3) rfl (by assumption)) (by first | exact Rd.obj (k := 0) rfl rfl | exact Rd.obj (k := 1) rfl rfl | exact Rd.obj (k := 2) rfl rfl | exact Rd.obj (k := 3) rfl rfl | exact Rd.obj (k := 4) rfl rfl | exact Rd.imm (by assumption) | exact Rd.sl (k := 0) rfl (by assumption) | exact Rd.sl (k := 1) rfl (by assumption) | exact Rd.sl (k := 2) rfl (by assumption) | exact Rd.sl (k := 3) rfl (by assumption))) ?_
          refine PW.ex rfl rfl rfl rfl (Ex.move rfl) ?_
          refine PW.ex rfl rfl rfl rfl (Ex.move rfl) ?_
          refine PW.ex rfl rfl rfl rfl (Ex.indexSl Try.underlying26 ti46 rfl rfl rfl (by omega)) ?_
          refine PW.ex rfl rfl rfl rfl (Ex.load2c ti46 rfl rfl (by first | exact Rd.obj (k := 0) rfl rfl | exact Rd.obj (k := 1) rfl rfl | exact Rd.obj (k := 2) rfl rfl | exact Rd.obj (k := 3) rfl rfl | exact Rd.obj (k := 4) rfl rfl | exact Rd.imm (by assumption) | exact Rd.sl (k := 0) rfl (by assumption) | exact Rd.sl (k := 1) rfl (by assumption) | exact Rd.sl (k := 2) rfl (by assumption) | exact Rd.sl (k := 3) rfl (by assumption)) (by first | exact Rd.obj (k := 0) rfl rfl | exact Rd.obj (k := 1) rfl rfl | exact Rd.obj (k := 2) rfl rfl | exact Rd.obj (k := 3) rfl rfl | exact Rd.obj (k := 4) rfl rfl | exact Rd.imm (by assumption) | exact Rd.sl (k := 0) rfl (by assumption) | exact Rd.sl (k := 1) rfl (by assumption) | exact Rd.sl (k := 2) rfl (by assumption) | exact Rd.sl (k := 3) rfl (by assumption))) ?_
          refine PW.hv rfl rfl rfl rfl (Hv.callS hS rfl rfl rfl cb20 (gap_c _ _ _ pa pb)) (fun _ _ h => h.2.rd) fun v w91 ⟨hv, hS⟩ => ?_
          subst hv
          refine PW.ex rfl rfl rfl rfl (Ex.add rfl rfl (by first | exact inc64 (by omega) | exact addN (by omega) | exact w64 (by omega) (by omega))) ?_
          refine PW.ex rfl rfl rfl rfl (Ex.indexSl Try.underlying71 ti3 rfl rfl rfl (by omega)) ?_
          refine PW.nil ?_
          refine LW.hu rfl rfl rfl (Hv.storeSl (k := 0) ti3 hS rfl rfl rfl rfl (by first | (simp; done) | omega)) fun _ w_17 hS => ?_
          dsimp only [List.set] at hS
          refine LW.nil fun aa ha => hKb2 _ _ _ ?_ aa ha
          refine CW.region [0, 1, 2] rfl ?_
          refine LW.ex rfl rfl rfl rfl (Ex.move rfl) hS.rd ?_
          refine LW.ex rfl rfl rfl rfl (Ex.add rfl rfl (by first | exact inc64 (by omega) | exact addN (by omega) | exact w64 (by omega) (by omega))) hS.rd ?_
          refine LW.ex rfl rfl rfl rfl (Ex.assign rfl) hS.rd ?_
          refine LW.nil fun aa ha => ?_
          refine ⟨b.length - ((k + 1) + 1), _, by omega, ⟨(k + 1) + 1, _, by omega, rfl, rfl, hS, fun j hj => ?_⟩, ha.sub ⟨rfl, rfl, rfl, rfl, rfl, trivial⟩⟩
          rw [show 0 + (k + 1) * 1 = (k + 1) by omega]
          by_cases hjk : j = (k + 1)
          · subst hjk
            rw [List.getElem?_set_self (by omega)]
            simp only [T, hgd] <;> first | done | simp
          · rw [List.getElem?_set_ne (Ne.symm hjk)]; exact hR j (by omega)
      · obtain ⟨i, rfl⟩ : ∃ i', i = i' + 1 := ⟨i - 1, by omega⟩
        obtain ⟨gp, hgp, hcell⟩ := hprev i rfl
        have hgp' : (usD.set (0 + (i + 1) * 1) (.slice (some ⟨b22, 0, none⟩) b.length b.length))[0 + (i + 1 - 1) * 1]? = some (.slice (some ⟨gp, 0, none⟩) b.length b.length) := by
          rw [List.getElem?_set_ne (by omega), show 0 + (i + 1 - 1) * 1 = i by omega]; exact hgp
        have hc1 : μ1.cell gp (0 + k * 1) = some (.int .i64 (T (gapsOf a b) i k)) := by rw [show 0 + k * 1 = k by omega]; exact hcell _ h2
        by_cases hk0 : k = 0
        · subst hk0
          refine CW.seq fun K9 hK9 => ?_
          refine CW.region [0] rfl ?_
          refine LW.ex rfl rfl rfl rfl (Ex.assign rfl) hS.rd ?_
          refine LW.nil fun aa ha => hK9 _ _ _ ?_ aa ha
          refine CW.seq fun K10o hK10o => ?_
          refine CW.seq fun K10 hK10 => ?_
          refine CW.region [0, 1, 2, 3, 4, 5] rfl ?_
          refine LW.ex rfl rfl rfl rfl (Ex.move rfl) hS.rd ?_
          refine LW.ex rfl rfl rfl rfl (Ex.eql rfl rfl (by first | exact decide_eq_true (by omega) | exact decide_eq_false (by omega) | rfl)) hS.rd ?_
          refine LW.ex rfl rfl rfl rfl (Ex.move rfl) hS.rd ?_
          refine LW.skip rfl rfl rfl rfl ?_
          refine LW.skip rfl rfl rfl rfl ?_
          refine LW.ex rfl rfl rfl rfl (by first | exact Ex.pick_yes rfl rfl | exact Ex.pick_no rfl rfl) hS.rd ?_
          refine LW.nil fun aa ha => hK10 _ _ _ ?_ aa ha
          refine CW.no rfl (CW.skip fun aa ha => hK10o _ _ _ ?_ aa ha)
          refine CW.seq fun K12o hK12o => ?_
          refine CW.seq fun K12 hK12 => ?_
          refine CW.region [0, 1] rfl ?_
          refine LW.ex rfl rfl rfl rfl (Ex.move rfl) hS.rd ?_
          refine LW.ex rfl rfl rfl rfl (Ex.gtr rfl rfl (by first | exact decide_eq_true (by omega) | exact decide_eq_false (by omega) | rfl)) hS.rd ?_
          refine LW.nil fun aa ha => hK12 _ _ _ ?_ aa ha
          refine CW.yes rfl ?_
          refine CW.region [0, 1, 2, 3, 4, 5, 6, 7, 8, 9, 10] rfl ?_
          refine LW.ex rfl rfl rfl rfl (Ex.move rfl) hS.rd ?_
          refine LW.ex rfl rfl rfl rfl (Ex.move rfl) hS.rd ?_
          refine LW.ex rfl rfl rfl rfl (Ex.move rfl) hS.rd ?_
          refine LW.ex rfl rfl rfl rfl (Ex.sub rfl rfl (by first | exact dec64 (by omega) (by omega) | exact subN (by omega) (by omega) | exact w64 (by omega) (by omega))) hS.rd ?_
          refine LW.ex rfl rfl rfl rfl (Ex.indexSl Try.underlying74 ti71 rfl rfl rfl (by omega)) hS.rd ?_
          refine LW.ex rfl rfl rfl rfl (Ex.load1 ti71 rfl rfl (by first | exact Rd.obj (k := 0) rfl rfl | exact Rd.obj (k := 1) rfl rfl | exact Rd.obj (k := 2) rfl rfl | exact Rd.obj (k := 3) rfl rfl | exact Rd.obj (k := 4) rfl rfl | exact Rd.imm (by assumption) | exact Rd.sl (k := 0) rfl (by assumption) | exact Rd.sl (k := 1) rfl (by assumption) | exact Rd.sl (k := 2) rfl (by assumption) | exact Rd.sl (k := 3) rfl (by assumption))) hS.rd ?_
          refine LW.ex rfl rfl rfl rfl (Ex.move rfl) hS.rd ?_
          refine LW.ex rfl rfl rfl rfl (Ex.indexSl Try.underlying71 ti3 rfl rfl rfl (by omega)) hS.rd ?_
          refine LW.ex rfl rfl rfl rfl (Ex.load1 ti3 rfl rfl (by first | exact Rd.obj (k := 0) rfl rfl | exact Rd.obj (k := 1) rfl rfl | exact Rd.obj (k := 2) rfl rfl | exact Rd.obj (k := 3) rfl rfl | exact Rd.obj (k := 4) rfl rfl | exact Rd.imm (by assumption) | exact Rd.sl (k := 0) rfl (by assumption) | exact Rd.sl (k := 1) rfl (by assumption) | exact Rd.sl (k := 2) rfl (by assumption) | exact Rd.sl (k := 3) rfl (by assumption))) hS.rd ?_
          refine LW.ex rfl rfl rfl rfl (Ex.min2 rfl rfl rfl) hS.rd ?_
          refine LW.ex rfl rfl rfl rfl (Ex.assign rfl) hS.rd ?_
          refine LW.nil fun aa ha => hK12o _ _ _ ?_ aa ha
          refine CW.seq fun K14o hK14o => ?_
          refine CW.seq fun K14 hK14 => ?_
          refine CW.region [0, 1] rfl ?_
          refine LW.ex rfl rfl rfl rfl (Ex.move rfl) hS.rd ?_
          refine LW.ex rfl rfl rfl rfl (Ex.gtr rfl rfl (by first | exact decide_eq_true (by omega) | exact decide_eq_false (by omega) | rfl)) hS.rd ?_
          refine LW.nil fun aa ha => hK14 _ _ _ ?_ aa ha
          refine CW.no rfl (CW.skip fun aa ha => hK14o _ _ _ ?_ aa ha)
          refine CW.seq fun K16o hK16o => ?_
          refine CW.seq fun K16 hK16 => ?_
          refine CW.region [0, 1, 2, 3, 4, 5] rfl ?_
          refine LW.ex rfl rfl rfl rfl (Ex.move rfl) hS.rd ?_
          refine LW.ex rfl rfl rfl rfl (Ex.gtr rfl rfl (by first | exact decide_eq_true (by omega) | exact decide_eq_false (by omega) | rfl)) hS.rd ?_
          refine LW.ex rfl rfl rfl rfl (Ex.move rfl) hS.rd ?_
          refine LW.ex rfl rfl rfl rfl (Ex.move rfl) hS.rd ?_
          refine LW.ex rfl rfl rfl rfl (Ex.gtr rfl rfl (by first | exact decide_eq_true (by omega) | exact decide_eq_false (by omega) | rfl)) hS.rd ?_
          refine LW.ex rfl rfl rfl rfl (by first | exact Ex.pick_yes rfl rfl | exact Ex.pick_no rfl rfl) hS.rd ?_
          refine LW.nil fun aa ha => hK16 _ _ _ ?_ aa ha
          refine CW.no rfl (CW.skip fun aa ha => hK16o _ _ _ ?_ aa ha)
          have := hT i 0
          have hS := hS.drew
          refine CW.draw 17 (.ex 0 <| .ex 1 <| .ex 2 <| .ex 3 <| .ex 4 <| .ex 5 <| .ex 6 <| .ex 7 <| .ex 8 <| .ex 9 <| .ex 10 <| .ex 11 <| .ex 12 <| .ex 13 <| .one 14 <| .ex 15 <| .ex 16 <| .done) [17] (Rd _ _) mixed (by kernel_rfl) rfl rfl hS.rd ?_
          refine PW.ex rfl rfl rfl rfl (Ex.move rfl) ?_
          refine PW.ex rfl rfl rfl rfl (Ex.move rfl) ?_
          refine PW.ex rfl rfl rfl rfl (Ex.indexSl Try.underlying74 ti71 rfl rfl rfl (by omega)) ?_
          refine PW.ex rfl rfl rfl rfl (Ex.load1 ti71 rfl rfl (by first | exact Rd.obj (k := 0) rfl rfl | exact Rd.obj (k := 1) rfl rfl | exact Rd.obj (k := 2) rfl rfl | exact Rd.obj (k := 3) rfl rfl | exact Rd.obj (k := 4) rfl rfl | exact Rd.imm (by assumption) | exact Rd.sl (k := 0) rfl (by assumption) | exact Rd.sl (k := 1) rfl (by assumption) | exact Rd.sl (k := 2) rfl (by assumption) | exact Rd.sl (k := 3) rfl (by assumption))) ?_
          refine PW.ex rfl rfl rfl rfl (Ex.move rfl) ?_
          refine PW.ex rfl rfl rfl rfl (Ex.move rfl) ?_
          refine PW.ex rfl rfl rfl rfl (Ex.move rfl) ?_
          refine PW.ex rfl rfl rfl rfl (Ex.move rfl) ?_
          refine PW.ex rfl rfl rfl rfl (Ex.indexSl Try.underlying26 ti46 rfl rfl rfl (by omega)) ?_
          refine PW.ex rfl rfl rfl rfl (Ex.load2c ti46 rfl rfl (by first | exact Rd.obj (k := 0) rfl rfl | exact Rd.obj (k := 1) rfl rfl | exact Rd.obj (k := 2) rfl rfl | exact Rd.obj (k := 3) rfl rfl | exact Rd.obj (k := 4) rfl rfl | exact Rd.imm (by assumption) | exact Rd.sl (k := 0) rfl (by assumption) | exact Rd.sl (k := 1) rfl (by assumption) | exact Rd.sl (k := 2) rfl (by assumption) | exact Rd.sl (k := 3) rfl (by assumption)) (by first | exact Rd.obj (k := 0) rfl rfl | exact Rd.obj (k := 1) rfl rfl | exact Rd.obj (k := 2) rfl rfl | exact Rd.obj (k := 3) rfl rfl | exact Rd.obj (k := 4) rfl rfl | exact Rd.imm (by assumption) | exact Rd.sl (k := 0) rfl (by assumption) | exact Rd.sl (k := 1) rfl (by assumption) | exact Rd.sl (k := 2) rfl (by assumption) | exact Rd.sl (k := 3) rfl (by assumption))) ?_
          refine PW.ex rfl rfl rfl rfl (Ex.move rfl) ?_
          refine PW.ex rfl rfl rfl rfl (Ex.move rfl) ?_
          refine PW.ex rfl rfl rfl rfl (Ex.indexSl Try.underlying26 ti46 rfl rfl rfl (by omega)) ?_
          refine PW.ex rfl rfl rfl rfl (Ex.load2c ti46 rfl rfl (by first | exact Rd.obj (k := 0) rfl rfl | exact Rd.obj (k := 1) rfl rfl | exact Rd.obj (k := 2) rfl rfl | exact Rd.obj (k := 3) rfl rfl | exact Rd.obj (k := 4) rfl rfl | exact Rd.imm (by assumption) | exact Rd.sl (k := 0) rfl (by assumption) | exact Rd.sl (k := 1) rfl (by assumption) | exact Rd.sl (k := 2) rfl (by assumption) | exact Rd.sl (k := 3) rfl (by assumption)) (by first | exact Rd.obj (k := 0) rfl rfl | exact Rd.obj (k := 1) rfl rfl | exact Rd.obj (k := 2) rfl rfl | exact Rd.obj (k := 3) rfl rfl | exact Rd.obj (k := 4) rfl rfl | exact Rd.imm (by assumption) | exact Rd.sl (k := 0) rfl (by assumption) | exact Rd.sl (k := 1) rfl (by assumption) | exact Rd.sl (k := 2) rfl (by assumption) | exact Rd.sl (k := 3) rfl (by assumption))) ?_
          refine PW.hv rfl rfl rfl rfl (Hv.callS hS rfl rfl rfl cb20 (gap_c _ _ _ pa pb)) (fun _ _ h => h.2.rd) fun v w91 ⟨hv, hS⟩ => ?_
          subst hv
          refine PW.ex rfl rfl rfl rfl (Ex.add rfl rfl (by first | exact inc64 (by omega) | exact addN (by omega) | exact w64 (by omega) (by omega))) ?_
          refine PW.ex rfl rfl rfl rfl (Ex.indexSl Try.underlying71 ti3 rfl rfl rfl (by omega)) ?_
          refine PW.nil ?_
          refine LW.hu rfl rfl rfl (Hv.storeSl (k := 0) ti3 hS rfl rfl rfl rfl (by first | (simp; done) | omega)) fun _ w_17 hS => ?_
          dsimp only [List.set] at hS
          refine LW.nil fun aa ha => hKb2 _ _ _ ?_ aa ha
          refine CW.region [0, 1, 2] rfl ?_
          refine LW.ex rfl rfl rfl rfl (Ex.move rfl) hS.rd ?_
          refine LW.ex rfl rfl rfl rfl (Ex.add rfl rfl (by first | exact inc64 (by omega) | exact addN (by omega) | exact w64 (by omega) (by omega))) hS.rd ?_
          refine LW.ex rfl rfl rfl rfl (Ex.assign rfl) hS.rd ?_
          refine LW.nil fun aa ha => ?_
          refine ⟨b.length - (0 + 1), _, by omega, ⟨0 + 1, _, by omega, rfl, rfl, hS, fun j hj => ?_⟩, ha.sub ⟨rfl, rfl, rfl, rfl, rfl, trivial⟩⟩
          rw [show 0 + 0 * 1 = 0 by omega]
          by_cases hjk : j = 0
          · subst hjk
            rw [List.getElem?_set_self (by omega)]
            simp only [T, hgd] <;> first | done | simp
          · rw [List.getElem?_set_ne (Ne.symm hjk)]; exact hR j (by omega)
        · obtain ⟨k, rfl⟩ : ∃ k', k = k' + 1 := ⟨k - 1, by omega⟩
          have hr1 : usR[0 + (k + 1 - 1) * 1]? = some (.int .i64 (T (gapsOf a b) (i + 1) k)) := by rw [show 0 + (k + 1 - 1) * 1 = k by omega]; exact hR _ (by omega)
          have hc2 : μ1.cell gp (0 + (k + 1 - 1) * 1) = some (.int .i64 (T (gapsOf a b) i k)) := by rw [show 0 + (k + 1 - 1) * 1 = k by omega]; exact hcell _ (by omega)
          refine CW.seq fun K9 hK9 => ?_
          refine CW.region [0] rfl ?_
          refine LW.ex rfl rfl rfl rfl (Ex.assign rfl) hS.rd ?_
          refine LW.nil fun aa ha => hK9 _ _ _ ?_ aa ha
          refine CW.seq fun K10o hK10o => ?_
          refine CW.seq fun K10 hK10 => ?_
          refine CW.region [0, 1, 2, 3, 4, 5] rfl ?_
          refine LW.ex rfl rfl rfl rfl (Ex.move rfl) hS.rd ?_
          refine LW.ex rfl rfl rfl rfl (Ex.eql rfl rfl (by first | exact decide_eq_true (by omega) | exact decide_eq_false (by omega) | rfl)) hS.rd ?_
          refine LW.ex rfl rfl rfl rfl (Ex.move rfl) hS.rd ?_
          refine LW.skip rfl rfl rfl rfl ?_
          refine LW.skip rfl rfl rfl rfl ?_
          refine LW.ex rfl rfl rfl rfl (by first | exact Ex.pick_yes rfl rfl | exact Ex.pick_no rfl rfl) hS.rd ?_
          refine LW.nil fun aa ha => hK10 _ _ _ ?_ aa ha
          refine CW.no rfl (CW.skip fun aa ha => hK10o _ _ _ ?_ aa ha)
          refine CW.seq fun K12o hK12o => ?_
          refine CW.seq fun K12 hK12 => ?_
          refine CW.region [0, 1] rfl ?_
          refine LW.ex rfl rfl rfl rfl (Ex.move rfl) hS.rd ?_
          refine LW.ex rfl rfl rfl rfl (Ex.gtr rfl rfl (by first | exact decide_eq_true (by omega) | exact decide_eq_false (by omega) | rfl)) hS.rd ?_
          refine LW.nil fun aa ha => hK12 _ _ _ ?_ aa ha
          refine CW.yes rfl ?_
          refine CW.region [0, 1, 2, 3, 4, 5, 6, 7, 8, 9, 10] rfl ?_
          refine LW.ex rfl rfl rfl rfl (Ex.move rfl) hS.rd ?_
          refine LW.ex rfl rfl rfl rfl (Ex.move rfl) hS.rd ?_
          refine LW.ex rfl rfl rfl rfl (Ex.move rfl) hS.rd ?_
          refine LW.ex rfl rfl rfl rfl (Ex.sub rfl rfl (by first | exact dec64 (by omega) (by omega) | exact subN (by omega) (by omega) | exact w64 (by omega) (by omega))) hS.rd ?_
          refine LW.ex rfl rfl rfl rfl (Ex.indexSl Try.underlying74 ti71 rfl rfl rfl (by omega)) hS.rd ?_
          refine LW.ex rfl rfl rfl rfl (Ex.load1 ti71 rfl rfl (by first | exact Rd.obj (k := 0) rfl rfl | exact Rd.obj (k := 1) rfl rfl | exact Rd.obj (k := 2) rfl rfl | exact Rd.obj (k := 3) rfl rfl | exact Rd.obj (k := 4) rfl rfl | exact Rd.imm (by assumption) | exact Rd.sl (k := 0) rfl (by assumption) | exact Rd.sl (k := 1) rfl (by assumption) | exact Rd.sl (k := 2) rfl (by assumption) | exact Rd.sl (k := 3) rfl (by assumption))) hS.rd ?_
          refine LW.ex rfl rfl rfl rfl (Ex.move rfl) hS.rd ?_
          refine LW.ex rfl rfl rfl rfl (Ex.indexSl Try.underlying71 ti3 rfl rfl rfl (by omega)) hS.rd ?_
          refine LW.ex rfl rfl rfl rfl (Ex.load1 ti3 rfl rfl (by first | exact Rd.obj (k := 0) rfl rfl | exact Rd.obj (k := 1) rfl rfl | exact Rd.obj (k := 2) rfl rfl | exact Rd.obj (k := 3) rfl rfl | exact Rd.obj (k := 4) rfl rfl | exact Rd.imm (by assumption) | exact Rd.sl (k := 0) rfl (by assumption) | exact Rd.sl (k := 1) rfl (by assumption) | exact Rd.sl (k := 2) rfl (by assumption) | exact Rd.sl (k := 3) rfl (by assumption))) hS.rd ?_
          refine LW.ex rfl rfl rfl rfl (Ex.min2 rfl rfl rfl) hS.rd ?_
          refine LW.ex rfl rfl rfl rfl (Ex.assign rfl) hS.rd ?_
          refine LW.nil fun aa ha => hK12o _ _ _ ?_ aa ha
          refine CW.seq fun K14o hK14o => ?_
          refine CW.seq fun K14 hK14 => ?_
          refine CW.region [0, 1] rfl ?_
          refine LW.ex rfl rfl rfl rfl (Ex.move rfl) hS.rd ?_
          refine LW.ex rfl rfl rfl rfl (Ex.gtr rfl rfl (by first | exact decide_eq_true (by omega) | exact decide_eq_false (by omega) | rfl)) hS.rd ?_
          refine LW.nil fun aa ha => hK14 _ _ _ ?_ aa ha
          refine CW.yes rfl ?_
          refine CW.region [0, 1, 2, 3, 4, 5, 6, 7, 8, 9, 10] rfl ?_
          refine LW.ex rfl rfl rfl rfl (Ex.move rfl) hS.rd ?_
          refine LW.ex rfl rfl rfl rfl (Ex.move rfl) hS.rd ?_
          refine LW.ex rfl rfl rfl rfl (Ex.move rfl) hS.rd ?_
          refine LW.ex rfl rfl rfl rfl (Ex.indexSl Try.underlying74 ti71 rfl rfl rfl (by omega)) hS.rd ?_
          refine LW.ex rfl rfl rfl rfl (Ex.load1 ti71 rfl rfl (by first | exact Rd.obj (k := 0) rfl rfl | exact Rd.obj (k := 1) rfl rfl | exact Rd.obj (k := 2) rfl rfl | exact Rd.obj (k := 3) rfl rfl | exact Rd.obj (k := 4) rfl rfl | exact Rd.imm (by assumption) | exact Rd.sl (k := 0) rfl (by assumption) | exact Rd.sl (k := 1) rfl (by assumption) | exact Rd.sl (k := 2) rfl (by assumption) | exact Rd.sl (k := 3) rfl (by assumption))) hS.rd ?_
          refine LW.ex rfl rfl rfl rfl (Ex.move rfl) hS.rd ?_
          refine LW.ex rfl rfl rfl rfl (Ex.sub rfl rfl (by first | exact dec64 (by omega) (by omega) | exact subN (by omega) (by omega) | exact w64 (by omega) (by omega))) hS.rd ?_
          refine LW.ex rfl rfl rfl rfl (Ex.indexSl Try.underlying71 ti3 rfl rfl rfl (by omega)) hS.rd ?_
          refine LW.ex rfl rfl rfl rfl (Ex.load1 ti3 rfl rfl (by first | exact Rd.obj (k := 0) rfl rfl | exact Rd.obj (k := 1) rfl rfl | exact Rd.obj (k := 2) rfl rfl | exact Rd.obj (k := 3) rfl rfl | exact Rd.obj (k := 4) rfl rfl | exact Rd.imm (by assumption) | exact Rd.sl (k := 0) rfl (by assumption) | exact Rd.sl (k := 1) rfl (by assumption) | exact Rd.sl (k := 2) rfl (by assumption) | exact Rd.sl (k := 3) rfl (by assumption))) hS.rd ?_
          refine LW.ex rfl rfl rfl rfl (Ex.min2 rfl rfl rfl) hS.rd ?_
          refine LW.ex rfl rfl rfl rfl (Ex.assign rfl) hS.rd ?_
          refine LW.nil fun aa ha => hK14o _ _ _ ?_ aa ha
          refine CW.seq fun K16o hK16o => ?_
          refine CW.seq fun K16 hK16 => ?_
          refine CW.region [0, 1, 2, 3, 4, 5] rfl ?_
          refine LW.ex rfl rfl rfl rfl (Ex.move rfl) hS.rd ?_
          refine LW.ex rfl rfl rfl rfl (Ex.gtr rfl rfl (by first | exact decide_eq_true (by omega) | exact decide_eq_false (by omega) | rfl)) hS.rd ?_
          refine LW.ex rfl rfl rfl rfl (Ex.move rfl) hS.rd ?_
          refine LW.ex rfl rfl rfl rfl (Ex.move rfl) hS.rd ?_
          refine LW.ex rfl rfl rfl rfl (Ex.gtr rfl rfl (by first | exact decide_eq_true (by omega) | exact decide_eq_false (by omega) | rfl)) hS.rd ?_
          refine LW.ex rfl rfl rfl rfl (by first | exact Ex.pick_yes rfl rfl | exact Ex.pick_no rfl rfl) hS.rd ?_
          refine LW.nil fun aa ha => hK16 _ _ _ ?_ aa ha
          refine CW.yes rfl ?_
          refine CW.region [0, 1, 2, 3, 4, 5, 6, 7, 8, 9, 10, 11] rfl ?_
          refine LW.ex rfl rfl rfl rfl (Ex.move rfl) hS.rd ?_
          refine LW.ex rfl rfl rfl rfl (Ex.move rfl) hS.rd ?_
          refine LW.ex rfl rfl rfl rfl (Ex.move rfl) hS.rd ?_
          refine LW.ex rfl rfl rfl rfl (Ex.sub rfl rfl (by first | exact dec64 (by omega) (by omega) | exact subN (by omega) (by omega) | exact w64 (by omega) (by omega))) hS.rd ?_
          refine LW.ex rfl rfl rfl rfl (Ex.indexSl Try.underlying74 ti71 rfl rfl rfl (by omega)) hS.rd ?_
          refine LW.ex rfl rfl rfl rfl (Ex.load1 ti71 rfl rfl (by first | exact Rd.obj (k := 0) rfl rfl | exact Rd.obj (k := 1) rfl rfl | exact Rd.obj (k := 2) rfl rfl | exact Rd.obj (k := 3) rfl rfl | exact Rd.obj (k := 4) rfl rfl | exact Rd.imm (by assumption) | exact Rd.sl (k := 0) rfl (by assumption) | exact Rd.sl (k := 1) rfl (by assumption) | exact Rd.sl (k := 2) rfl (by assumption) | exact Rd.sl (k := 3) rfl (by assumption))) hS.rd ?_
          refine LW.ex rfl rfl rfl rfl (Ex.move rfl) hS.rd ?_
          refine LW.ex rfl rfl rfl rfl (Ex.sub rfl rfl (by first | exact dec64 (by omega) (by omega) | exact subN (by omega) (by omega) | exact w64 (by omega) (by omega))) hS.rd ?_
          refine LW.ex rfl rfl rfl rfl (Ex.indexSl Try.underlying71 ti3 rfl rfl rfl (by omega)) hS.rd ?_
          refine LW.ex rfl rfl rfl rfl (Ex.load1 ti3 rfl rfl (by first | exact Rd.obj (k := 0) rfl rfl | exact Rd.obj (k := 1) rfl rfl | exact Rd.obj (k := 2) rfl rfl | exact Rd.obj (k := 3) rfl rfl | exact Rd.obj (k := 4) rfl rfl | exact Rd.imm (by assumption) | exact Rd.sl (k := 0) rfl (by assumption) | exact Rd.sl (k := 1) rfl (by assumption) | exact Rd.sl (k := 2) rfl (by assumption) | exact Rd.sl (k := 3) rfl (by assumption))) hS.rd ?_
          refine LW.ex rfl rfl rfl rfl (Ex.min2 rfl rfl rfl) hS.rd ?_
          refine LW.ex rfl rfl rfl rfl (Ex.assign rfl) hS.rd ?_
          refine LW.nil fun aa ha => hK16o _ _ _ ?_ aa ha
          have := hT i k
          have := hT (i + 1) k
          have := hT i (k + 1)
          have hS := hS.drew
          refine CW.draw 17 (.ex 0 <| .ex 1 <| .ex 2 <| .ex 3 <| .ex 4 <| .ex 5 <| .ex 6 <| .ex 7 <| .ex 8 <| .ex 9 <| .ex 10 <| .ex 11 <| .ex 12 <| .ex 13 <| .one 14 <| .ex 15 <| .ex 16 <| .done) [17] (Rd _ _) mixed (by kernel_rfl) rfl rfl hS.rd ?_
          refine PW.ex rfl rfl rfl rfl (Ex.move rfl) ?_
          refine PW.ex rfl rfl rfl rfl (Ex.move rfl) ?_
          refine PW.ex rfl rfl rfl rfl (Ex.indexSl Try.underlying74 ti71 rfl rfl rfl (by omega)) ?_
          refine PW.ex rfl rfl rfl rfl (Ex.load1 ti71 rfl rfl (by first | exact Rd.obj (k := 0) rfl rfl | exact Rd.obj (k := 1) rfl rfl | exact Rd.obj (k := 2) rfl rfl | exact Rd.obj (k := 3) rfl rfl | exact Rd.obj (k := 4) rfl rfl | exact Rd.imm (by assumption) | exact Rd.sl (k := 0) rfl (by assumption) | exact Rd.sl (k := 1) rfl (by assumption) | exact Rd.sl (k := 2) rfl (by assumption) | exact Rd.sl (k := 3) rfl (by assumption))) ?_
          refine PW.ex rfl rfl rfl rfl (Ex.move rfl) ?_
          refine PW.ex rfl rfl rfl rfl (Ex.move rfl) ?_
          refine PW.ex rfl rfl rfl rfl (Ex.move rfl) ?_
          refine PW.ex rfl rfl rfl rfl (Ex.move rfl) ?_
          refine PW.ex rfl rfl rfl rfl (Ex.indexSl Try.underlying26 ti46 rfl rfl rfl (by omega)) ?_
          refine PW.ex rfl rfl rfl rfl (Ex.load2c ti46 rfl rfl (by first | exact Rd.obj (k := 0) rfl rfl | exact Rd.obj (k := 1) rfl rfl | exact Rd.obj (k := 2) rfl rfl | exact Rd.obj (k := 3) rfl rfl | exact Rd.obj (k := 4) rfl rfl | exact Rd.imm (by assumption) | exact Rd.sl (k := 0) rfl (by assumption) | exact Rd.sl (k := 1) rfl (by assumption) | exact Rd.sl (k := 2) rfl (by assumption) | exact Rd.sl (k := 3) rfl (by assumption)) (by first | exact Rd.obj (k := 0) rfl rfl | exact Rd.obj (k := 1) rfl rfl | exact Rd.obj (k := 2) rfl rfl | exact Rd.obj (k := 3) rfl rfl | exact Rd.obj (k := 4) rfl rfl | exact Rd.imm (by assumption) | exact Rd.sl (k := 0) rfl (by assumption) | exact Rd.sl (k := 1) rfl (by assumption) | exact Rd.sl (k := 2) rfl (by assumption) | exact Rd.sl (k := 3) rfl (by assumption))) ?_
          refine PW.ex rfl rfl rfl rfl (Ex.move rfl) ?_
          refine PW.ex rfl rfl rfl rfl (Ex.move rfl) ?_
          refine PW.ex rfl rfl rfl rfl (Ex.indexSl Try.underlying26 ti46 rfl rfl rfl (by omega)) ?_
          refine PW.ex rfl rfl rfl rfl (Ex.load2c ti46 rfl rfl (by first | exact Rd.obj (k := 0) rfl rfl | exact Rd.obj (k := 1) rfl rfl | exact Rd.obj (k := 2) rfl rfl | exact Rd.obj (k := 3) rfl rfl | exact Rd.obj (k := 4) rfl rfl | exact Rd.imm (by assumption) | exact Rd.sl (k := 0) rfl (by assumption) | exact Rd.sl (k := 1) rfl (by assumption) | exact Rd.sl (k := 2) rfl (by assumption) | exact Rd.sl (k := 3) rfl (by assumption)) (by first | exact Rd.obj (k := 0) rfl rfl | exact Rd.obj (k := 1) rfl rfl | exact Rd.obj (k := 2) rfl rfl | exact Rd.obj (k := 3) rfl rfl | exact Rd.obj (k := 4) rfl rfl | exact Rd.imm (by assumption) | exact Rd.sl (k := 0) rfl (by assumption) | exact Rd.sl (k := 1) rfl (by assumption) | exact Rd.sl (k := 2) rfl (by assumption) | exact Rd.sl (k := 3) rfl (by assumption))) ?_
          refine PW.hv rfl rfl rfl rfl (Hv.callS hS rfl rfl rfl cb20 (gap_c _ _ _ pa pb)) (fun _ _ h => h.2.rd) fun v w91 ⟨hv, hS⟩ => ?_
          subst hv
          refine PW.ex rfl rfl rfl rfl (Ex.add rfl rfl (by first | exact inc64 (by omega) | exact addN (by omega) | exact w64 (by omega) (by omega))) ?_
          refine PW.ex rfl rfl rfl rfl (Ex.indexSl Try.underlying71 ti3 rfl rfl rfl (by omega)) ?_
          refine PW.nil ?_
          refine LW.hu rfl rfl rfl (Hv.storeSl (k := 0) ti3 hS rfl rfl rfl rfl (by first | (simp; done) | omega)) fun _ w_17 hS => ?_
          dsimp only [List.set] at hS
          refine LW.nil fun aa ha => hKb2 _ _ _ ?_ aa ha
          refine CW.region [0, 1, 2] rfl ?_
          refine LW.ex rfl rfl rfl rfl (Ex.move rfl) hS.rd ?_
          refine LW.ex rfl rfl rfl rfl (Ex.add rfl rfl (by first | exact inc64 (by omega) | exact addN (by omega) | exact w64 (by omega) (by omega))) hS.rd ?_
          refine LW.ex rfl rfl rfl rfl (Ex.assign rfl) hS.rd ?_
          refine LW.nil fun aa ha => ?_
          refine ⟨b.length - ((k + 1) + 1), _, by omega, ⟨(k + 1) + 1, _, by omega, rfl, rfl, hS, fun j hj => ?_⟩, ha.sub ⟨rfl, rfl, rfl, rfl, rfl, trivial⟩⟩
          rw [show 0 + (k + 1) * 1 = (k + 1) by omega]
          by_cases hjk : j = (k + 1)
          · subst hjk
            rw [List.getElem?_set_self (by omega)]
            simp only [T, hgd] <;> first | done | simp
          · rw [List.getElem?_set_ne (Ne.symm hjk)]; exact hR j (by omega)
    · skip
      refine CW.seq fun K7o hK7o => ?_
      refine CW.seq fun K7 hK7 => ?_
      refine CW.region [0, 1, 2, 3] rfl ?_
      refine LW.ex rfl rfl rfl rfl (Ex.move rfl) hS.rd ?_
      refine LW.ex rfl rfl rfl rfl (Ex.move rfl) hS.rd ?_
      refine LW.ex rfl rfl rfl rfl (Ex.lenSl rfl Try.underlying26 rfl) hS.rd ?_
      refine LW.ex rfl rfl rfl rfl (Ex.lss rfl rfl (by first | exact decide_eq_true (by omega) | exact decide_eq_false (by omega) | rfl)) hS.rd ?_
      refine LW.nil fun aa ha => hK7 _ _ _ ?_ aa ha
      refine CW.no rfl ?_
      refine CW.exit fun aa ha => hKb _ _ _ ?_ aa ha
      obtain rfl : k = b.length := by omega
      refine CW.region [0, 1, 2] rfl ?_
      refine LW.ex rfl rfl rfl rfl (Ex.move rfl) hS.rd ?_
      refine LW.ex rfl rfl rfl rfl (Ex.add rfl rfl (by first | exact inc64 (by omega) | exact addN (by omega) | exact w64 (by omega) (by omega))) hS.rd ?_
      refine LW.ex rfl rfl rfl rfl (Ex.assign rfl) hS.rd ?_
      refine LW.nil fun aa ha => ?_
      obtain ⟨bs, μ2, hm2, hS, hφ⟩ := hS.shut 0 rfl
      dsimp only [List.eraseIdx] at hS
      refine ⟨a.length - (i + 1), _, by omega, ⟨i + 1, _, μ2, by omega, rfl, rfl, hS, hm1.trans hm2, fun j hj => ?_⟩, ha.sub ⟨rfl, rfl, rfl, rfl, trivial⟩⟩
      have hji : j = i := by omega
      subst hji
      refine ⟨b22, ?_, fun k hk => sealed_cell hφ (hR k hk)⟩
      have : 0 + j * 1 = j := by omega
      rw [this] at hrow ⊢; exact hrow
  · skip
    refine CW.seq fun K3o hK3o => ?_
    refine CW.seq fun K3 hK3 => ?_
    refine CW.region [0, 1, 2, 3] rfl ?_
    refine LW.ex rfl rfl rfl rfl (Ex.move rfl) hS.rd ?_
    refine LW.ex rfl rfl rfl rfl (Ex.move rfl) hS.rd ?_
    refine LW.ex rfl rfl rfl rfl (Ex.lenSl rfl Try.underlying26 rfl) hS.rd ?_
    refine LW.ex rfl rfl rfl rfl (Ex.lss rfl rfl (by first | exact decide_eq_true (by omega) | exact decide_eq_false (by omega) | rfl)) hS.rd ?_
    refine LW.nil fun aa ha => hK3 _ _ _ ?_ aa ha
    refine CW.no rfl ?_
    refine CW.exit fun aa ha => hK2o _ _ _ ?_ aa ha
    obtain rfl : i = a.length := by omega
    obtain ⟨gp, hgp, hcell⟩ := hprev (a.length - 1) (by omega)
    have hgp' : usD[0 + (a.length - 1) * 1]? = some (.slice (some ⟨gp, 0, none⟩) b.length b.length) := by rw [show 0 + (a.length - 1) * 1 = a.length - 1 by omega]; exact hgp
    have hcell' : μ1.cell gp (0 + (b.length - 1) * 1) = some (.int .i64 (T (gapsOf a b) (a.length - 1) (b.length - 1))) := by rw [show 0 + (b.length - 1) * 1 = b.length - 1 by omega]; exact hcell _ (by omega)
    refine CW.seq fun K19 hK19 => ?_
    refine CW.region [0, 1, 2, 3, 4, 5, 6, 7, 8, 9, 10, 11] rfl ?_
    refine LW.ex rfl rfl rfl rfl (Ex.move rfl) hS.rd ?_
    refine LW.ex rfl rfl rfl rfl (Ex.move rfl) hS.rd ?_
    refine LW.ex rfl rfl rfl rfl (Ex.lenSl rfl Try.underlying26 rfl) hS.rd ?_
    refine LW.ex rfl rfl rfl rfl (Ex.sub rfl rfl (by first | exact dec64 (by omega) (by omega) | exact subN (by omega) (by omega) | exact w64 (by omega) (by omega))) hS.rd ?_
    refine LW.ex rfl rfl rfl rfl (Ex.indexSl Try.underlying74 ti71 rfl rfl rfl (by omega)) hS.rd ?_
    refine LW.ex rfl rfl rfl rfl (Ex.load1 ti71 rfl rfl (by first | exact Rd.obj (k := 0) rfl rfl | exact Rd.obj (k := 1) rfl rfl | exact Rd.obj (k := 2) rfl rfl | exact Rd.obj (k := 3) rfl rfl | exact Rd.obj (k := 4) rfl rfl | exact Rd.imm (by assumption) | exact Rd.sl (k := 0) rfl (by assumption) | exact Rd.sl (k := 1) rfl (by assumption) | exact Rd.sl (k := 2) rfl (by assumption) | exact Rd.sl (k := 3) rfl (by assumption))) hS.rd ?_
    refine LW.ex rfl rfl rfl rfl (Ex.move rfl) hS.rd ?_
    refine LW.ex rfl rfl rfl rfl (Ex.lenSl rfl Try.underlying26 rfl) hS.rd ?_
    refine LW.ex rfl rfl rfl rfl (Ex.sub rfl rfl (by first | exact dec64 (by omega) (by omega) | exact subN (by omega) (by omega) | exact w64 (by omega) (by omega))) hS.rd ?_
    refine LW.ex rfl rfl rfl rfl (Ex.indexSl Try.underlying71 ti3 rfl rfl rfl (by omega)) hS.rd ?_
    refine LW.ex rfl rfl rfl rfl (Ex.load1 ti3 rfl rfl (by first | exact Rd.obj (k := 0) rfl rfl | exact Rd.obj (k := 1) rfl rfl | exact Rd.obj (k := 2) rfl rfl | exact Rd.obj (k := 3) rfl rfl | exact Rd.obj (k := 4) rfl rfl | exact Rd.imm (by assumption) | exact Rd.sl (k := 0) rfl (by assumption) | exact Rd.sl (k := 1) rfl (by assumption) | exact Rd.sl (k := 2) rfl (by assumption) | exact Rd.sl (k := 3) rfl (by assumption))) hS.rd ?_
    refine LW.ex rfl rfl rfl rfl (Ex.assign rfl) hS.rd ?_
    refine LW.nil fun aa ha => hK19 _ _ _ ?_ aa ha
    refine CW.ret fun aa ha => ?_
    exact ret_one ha Try.results16 rfl hS.retS
end Go.Proofs.Ythbglfjajifkoaa
