/-
  Areas: the walk of AreaDistance.
-/
import Derived.Test.YtphgjongflkolaaArV3
namespace Go.Proofs.Ytphgjongflkolaa
open Go.RowKit Sy Go.Sort

def cD (n : Nat) (d : Int) : Int := ((n : Int) * n + d * d).tdiv 16
theorem sq_le {a b : Int} (h0 : 0 ≤ a) (h : a ≤ b) : a * a ≤ b * b := Int.mul_le_mul h h h0 (by omega)
theorem cD_eq (n : Nat) (d : Int) : cD n d = ((n : Int) * n + d * d) / 16 := by
  unfold cD
  have h1 : (0 : Int) ≤ (n : Int) * n := Int.mul_nonneg (by omega) (by omega)
  have h2 : (0 : Int) ≤ d * d := by
    rcases Int.le_total 0 d with h | h
    · exact Int.mul_nonneg h h
    · exact Int.mul_nonneg_of_nonpos_of_nonpos h h
  exact Int.tdiv_eq_ediv_of_nonneg (by omega)
theorem cD_near {n : Nat} {d : Int} (h0 : 0 ≤ d) (h : cD n d ≤ 1000) : n ≤ 126 := by
  rw [cD_eq] at h
  have h2 : (0 : Int) ≤ d * d := Int.mul_nonneg h0 h0
  rcases Nat.lt_or_ge 126 n with h1 | h1
  · have := sq_le (a := 127) (b := n) (by omega) (by omega); omega
  · exact h1
theorem cD_far {n : Nat} {d y : Int} (h0 : 0 ≤ d) (hy : d ≤ y) (h : 1000 < cD n d) : 100 < (n : Int) + y := by
  rw [cD_eq] at h
  rcases Int.lt_or_le 100 ((n : Int) + y) with h1 | h1
  · exact h1
  · have h2 := sq_le (a := (n : Int) + d) (b := 100) (by omega) (by omega)
    have h3 : (0 : Int) ≤ (n : Int) * d := Int.mul_nonneg (by omega) h0
    have h4 : ((n : Int) + d) * ((n : Int) + d) = (n : Int) * n + d * d + 2 * ((n : Int) * d) := by
      rw [Int.add_mul, Int.mul_add, Int.mul_add, Int.mul_comm d (n : Int)]; omega
    omega
theorem cD_mono {n m : Nat} {d : Int} (h : n ≤ m) : cD n d ≤ cD m d := by
  rw [cD_eq, cD_eq]
  have := sq_le (a := (n : Int)) (b := m) (by omega) (by omega)
  exact Int.ediv_le_ediv (by decide) (by omega)
theorem cD_nonneg (n : Nat) (d : Int) : 0 ≤ cD n d := by
  rw [cD_eq]
  have h1 : (0 : Int) ≤ (n : Int) * n := Int.mul_nonneg (by omega) (by omega)
  have h2 : (0 : Int) ≤ d * d := by
    rcases Int.le_total 0 d with h | h
    · exact Int.mul_nonneg h h
    · exact Int.mul_nonneg_of_nonpos_of_nonpos h h
  omega
theorem few_one (c : Ch) : few [c] = [c] := by
  have : lessCh c c = false := by simp [lessCh]
  simp [few, this]
theorem dist_touch (b : B2) (n : Nat) (y : Nat) (hn : n ≤ 900) (hy : y ≤ 255) : touchR (made [b]) [] ⟨(wOf b : Int) + n, y⟩ = if cD n (max ((y : Int) - hOf b) 0) ≤ 1000 then ([⟨97, cD n (max ((y : Int) - hOf b) 0)⟩], 0) else ([], 210) := by
  have hw := wOf_lt b
  have hh := hOf_lt b
  have hm : made [b] = [⟨97, 0, 0, wOf b, hOf b⟩] := by
    have e : madeA [b] 0 = ⟨97, 0, 0, wOf b, hOf b⟩ := by
      simp [madeA, C97, madeX, madeY, bAt]
    show (List.range 1).map (madeA [b]) = _
    rw [show List.range 1 = [0] from rfl, List.map_cons, List.map_nil, e]
  have hc : costOf ⟨97, 0, 0, wOf b, hOf b⟩ [] ⟨(wOf b : Int) + n, y⟩ = cD n (max ((y : Int) - hOf b) 0) := by
    unfold costOf cD
    rw [shiftOf_nil]
    simp only
    have h1 : away ((wOf b : Int) + n - 0) 0 (wOf b) = n := by unfold away; omega
    have h2 : away ((y : Int) - 0) 0 (hOf b) = max ((y : Int) - hOf b) 0 := by unfold away; omega
    rw [h1, h2]
  have hp : inP ⟨(wOf b : Int) + n, y⟩ = true := inP_of (by simp only; omega) (by simp only; omega) (by simp only; omega) (by simp only; omega)
  have hme : meant (made [b]) [] ⟨(wOf b : Int) + n, y⟩ = if cD n (max ((y : Int) - hOf b) 0) ≤ 1000 then [⟨97, cD n (max ((y : Int) - hOf b) 0)⟩] else [] := by
    rw [hm]; unfold meant mayMean; rw [List.filterMap_cons, hc]
    by_cases h : cD n (max ((y : Int) - hOf b) 0) ≤ 1000 <;> simp [h]
  unfold touchR
  rw [if_neg (by rw [hp]; simp), hme]
  by_cases h : cD n (max ((y : Int) - hOf b) 0) ≤ 1000
  · rw [if_pos h, if_pos h, if_neg (by simp), few_one]
  · rw [if_neg h, if_neg h, if_pos rfl]

set_option maxRecDepth 100000 in
set_option maxHeartbeats 2000000 in
theorem law5_c (b : B2) (y st : UInt8) (w : World) : Calls Try.prog 7 #[b2V b, .int .u8 y.toNat, .int .u8 st.toNat] w (RetS w (.bool true)) := by
  have hml := made_len [b]
  have hw := wOf_lt b
  have hh := hOf_lt b
  have hy := y.toNat_lt
  have hst := st.toNat_lt
  have hs20 : st.toNat % 20 < 20 := Nat.mod_lt _ (by decide)
  obtain ⟨s, hs⟩ : ∃ s, s = st.toNat % 20 := ⟨_, rfl⟩
  rw [← hs] at hs20
  obtain ⟨d, hd⟩ : ∃ d : Int, d = max ((y.toNat : Int) - hOf b) 0 := ⟨_, rfl⟩
  have hm1 : (made [b]).length = 1 := by rw [hml]; rfl
  have hS := St.start w (fun _ => none) (fun _ _ h => by cases h)
  refine calls_start 65 [b2V b, .int .u8 y.toNat, .int .u8 st.toNat] Try.func7 rfl Try.ntmps7 rfl rfl ?_
  refine CW.seq fun K1 hK1 => ?_
  refine CW.region [0, 1] rfl ?_
  refine LW.hv rfl rfl rfl rfl (Hv.boxS hS rfl rfl) fun v w3 ⟨b3, hv, hb3, hS⟩ => ?_
  subst hv
  refine LW.ex rfl rfl rfl rfl (Ex.assign rfl) hS.rd ?_
  refine LW.nil fun aa ha => hK1 _ _ _ ?_ aa ha
  refine CW.seq fun K2 hK2 => ?_
  refine CW.region [0, 1] rfl ?_
  refine LW.hv rfl rfl rfl rfl (Hv.callS hS rfl rfl rfl cb11 (sanity_c _)) fun v w14 ⟨hv, hS⟩ => ?_
  subst hv
  refine LW.ex rfl rfl rfl rfl (Ex.assign rfl) hS.rd ?_
  refine LW.nil fun aa ha => hK2 _ _ _ ?_ aa ha
  refine CW.seq fun K3 hK3 => ?_
  refine CW.region [0, 1, 2, 3, 4] rfl ?_
  refine LW.ex rfl rfl rfl rfl (Ex.load2c ti63 rfl rfl (by first | exact Rd.obj (k := 0) rfl rfl | exact Rd.obj (k := 1) rfl rfl | exact Rd.obj (k := 2) rfl rfl | exact Rd.obj (k := 3) rfl rfl | exact Rd.obj (k := 4) rfl rfl | exact Rd.imm (by assumption) | exact Rd.sl (k := 0) rfl (by assumption) | exact Rd.sl (k := 1) rfl (by assumption) | exact Rd.sl (k := 2) rfl (by assumption) | exact Rd.sl (k := 3) rfl (by assumption)) (by first | exact Rd.obj (k := 0) rfl rfl | exact Rd.obj (k := 1) rfl rfl | exact Rd.obj (k := 2) rfl rfl | exact Rd.obj (k := 3) rfl rfl | exact Rd.obj (k := 4) rfl rfl | exact Rd.imm (by assumption) | exact Rd.sl (k := 0) rfl (by assumption) | exact Rd.sl (k := 1) rfl (by assumption) | exact Rd.sl (k := 2) rfl (by assumption) | exact Rd.sl (k := 3) rfl (by assumption))) hS.rd ?_
  refine LW.hv rfl rfl rfl rfl (Hv.buildSl hS Try.underlying22 ti63 rfl rfl rfl rfl rfl rfl) fun v w16 ⟨b16, hv, hb16, hS⟩ => ?_
  subst hv
  obtain ⟨μ1, hmm1, hS, hs16⟩ := hS.shutRow 0 rfl (b2Reps (fun _ => none) [b]) (by simp [maxLen])
  dsimp only [List.eraseIdx] at hS
  refine LW.hv rfl rfl rfl rfl (Hv.callV hS rfl rfl rfl cb12 (made_c [b] _ _ _ _ hS.imm hs16)) fun v w17 ⟨μ17, hv17, hm17, hS⟩ => ?_
  obtain ⟨a0, c0, a1, c1, a2, c2, hv, hd0, hd1, hd2⟩ := hv17
  subst hv
  have hd0 : Sl _ a0 c0 (made [b]) := hd0
  have h1 : 0 < (made [b]).length := by omega
  obtain ⟨bl, ol, rfl, _⟩ := hd0.at h1
  refine LW.hv rfl rfl rfl rfl (Hv.alloc ti31 hS) fun v w8 ⟨b8, hv, hb8, hS⟩ => ?_
  subst hv
  refine LW.hu rfl rfl rfl (Hv.storeN (k := 0) ti31 hS rfl rfl rfl rfl (by simp [Value.oneCell'])) fun _ w_4 hS => ?_
  dsimp only [List.set] at hS
  refine LW.nil fun aa ha => hK3 _ _ _ ?_ aa ha
  refine CW.seq fun K4 hK4 => ?_
  refine CW.region [0] rfl ?_
  refine LW.ex rfl rfl rfl rfl (Ex.assign rfl) hS.rd ?_
  refine LW.nil fun aa ha => hK4 _ _ _ ?_ aa ha
  refine CW.seq fun K5 hK5 => ?_
  refine CW.seq fun K6 hK6 => ?_
  refine CW.region [0] rfl ?_
  refine LW.ex rfl rfl rfl rfl (Ex.assign rfl) hS.rd ?_
  refine LW.nil fun aa ha => hK6 _ _ _ ?_ aa ha
  refine CW.block ?_
  refine CW.loop (fun q m wl5 => ∃ (n : Nat) (last : Int) (μ6 : Mem), n ≤ 146 ∧ q = 500 - n ∧ m = [(1, .int .u8 y.toNat), (2, .int .u8 st.toNat), (7, .bool true), (8, .pointer (some ⟨b8, 0, none⟩)), (9, .int .i64 last), (10, .int .i64 n)] ∧ St w wl5 μ6 [Own.obj b8 [.slice (some ⟨bl, ol, none⟩) (made [b]).length c0, .slice a1 2 c1, .slice a2 2 c2] 31, Own.obj b3 [.int .u8 b.a.toNat, .int .u8 b.b.toNat] 63] ∧ (last ≤ cD n d) ∧ (Sl μ6 (some ⟨bl, ol, none⟩) c0 (made [b]))) _ ⟨0, 0, μ17, (by first | omega | (simp; done) | (simp; omega)), rfl, rfl, hS, cD_nonneg _ _, hd0⟩ ⟨rfl, rfl, rfl, rfl, rfl, rfl, trivial⟩ ?_
  clear hS
  rintro q m wl5 ⟨n, last, μ6, hn, hq, rfl, hS, hl, hd0⟩
  refine CW.seq fun K7 hK7 => ?_
  refine CW.seq fun K8 hK8 => ?_
  refine CW.region [0, 1] rfl ?_
  refine LW.ex rfl rfl rfl rfl (Ex.move rfl) hS.rd ?_
  refine LW.ex rfl rfl rfl rfl (Ex.leq rfl rfl rfl) hS.rd ?_
  refine LW.splitB (fun h5_1 => ?_) (fun h5_1 => ?_)
  · have h5_1 := of_decide_eq_true h5_1
    refine LW.nil fun aa ha => hK8 _ _ _ ?_ aa ha
    refine CW.yes rfl ?_
    refine CW.skip fun aa ha => hK7 _ _ _ ?_ aa ha
    refine CW.seq fun K9 hK9 => ?_
    refine CW.block ?_
    refine CW.seq fun K10 hK10 => ?_
    obtain ⟨bl', ol', e', k0, k1, k2, k3, k4⟩ := hd0.at h1
    cases e'
    have hax : (made [b])[0].X1 = wOf b := by simp [made, madeA, madeX, bAt]
    rw [hax] at k3
    have hT := dist_touch b n y.toNat (by omega) (by omega)
    rw [← hd] at hT
    have hS := hS.drew
    refine CW.draw 17 (.ex 0 <| .ex 1 <| .ex 2 <| .ex 3 <| .ex 4 <| .ex 5 <| .ex 6 <| .ex 7 <| .ex 8 <| .ex 9 <| .one 10 <| .one 11 <| .ex 12 <| .ex 13 <| .ex 14 <| .ex 15 <| .ex 16 <| .done) [] (Rd _ _) mixed (by kernel_rfl) rfl rfl hS.rd ?_
    refine PW.ex rfl rfl rfl rfl (Ex.load3c ti31 rfl rfl (by first | exact Rd.obj (k := 0) rfl rfl | exact Rd.obj (k := 1) rfl rfl | exact Rd.obj (k := 2) rfl rfl | exact Rd.obj (k := 3) rfl rfl | exact Rd.obj (k := 4) rfl rfl | exact Rd.imm (by assumption) | exact Rd.sl (k := 0) rfl (by assumption) | exact Rd.sl (k := 1) rfl (by assumption) | exact Rd.sl (k := 2) rfl (by assumption) | exact Rd.sl (k := 3) rfl (by assumption)) (by first | exact Rd.obj (k := 0) rfl rfl | exact Rd.obj (k := 1) rfl rfl | exact Rd.obj (k := 2) rfl rfl | exact Rd.obj (k := 3) rfl rfl | exact Rd.obj (k := 4) rfl rfl | exact Rd.imm (by assumption) | exact Rd.sl (k := 0) rfl (by assumption) | exact Rd.sl (k := 1) rfl (by assumption) | exact Rd.sl (k := 2) rfl (by assumption) | exact Rd.sl (k := 3) rfl (by assumption)) (by first | exact Rd.obj (k := 0) rfl rfl | exact Rd.obj (k := 1) rfl rfl | exact Rd.obj (k := 2) rfl rfl | exact Rd.obj (k := 3) rfl rfl | exact Rd.obj (k := 4) rfl rfl | exact Rd.imm (by assumption) | exact Rd.sl (k := 0) rfl (by assumption) | exact Rd.sl (k := 1) rfl (by assumption) | exact Rd.sl (k := 2) rfl (by assumption) | exact Rd.sl (k := 3) rfl (by assumption))) ?_
    refine PW.ex rfl rfl rfl rfl (Ex.fieldO 0 Try.underlying31 rfl rfl ti27 rfl) ?_
    refine PW.ex rfl rfl rfl rfl (Ex.load1 ti27 rfl rfl (by first | exact Rd.obj (k := 0) rfl rfl | exact Rd.obj (k := 1) rfl rfl | exact Rd.obj (k := 2) rfl rfl | exact Rd.obj (k := 3) rfl rfl | exact Rd.obj (k := 4) rfl rfl | exact Rd.imm (by assumption) | exact Rd.sl (k := 0) rfl (by assumption) | exact Rd.sl (k := 1) rfl (by assumption) | exact Rd.sl (k := 2) rfl (by assumption) | exact Rd.sl (k := 3) rfl (by assumption))) ?_
    refine PW.ex rfl rfl rfl rfl (Ex.indexSl (j := 0) Try.underlying27 ti57 rfl rfl rfl (by omega)) ?_
    refine PW.ex rfl rfl rfl rfl (Ex.fieldO 3 Try.underlying57 rfl rfl ti3 rfl) ?_
    refine PW.ex rfl rfl rfl rfl (Ex.load1 ti3 rfl rfl (by first | exact Rd.obj (k := 0) rfl rfl | exact Rd.obj (k := 1) rfl rfl | exact Rd.obj (k := 2) rfl rfl | exact Rd.obj (k := 3) rfl rfl | exact Rd.obj (k := 4) rfl rfl | exact Rd.imm (by assumption) | exact Rd.sl (k := 0) rfl (by assumption) | exact Rd.sl (k := 1) rfl (by assumption) | exact Rd.sl (k := 2) rfl (by assumption) | exact Rd.sl (k := 3) rfl (by assumption))) ?_
    refine PW.ex rfl rfl rfl rfl (Ex.move rfl) ?_
    refine PW.ex rfl rfl rfl rfl (Ex.add rfl rfl (w64 (by omega) (by omega))) ?_
    refine PW.ex rfl rfl rfl rfl (Ex.move rfl) ?_
    refine PW.ex rfl rfl rfl rfl (Ex.conv Try.underlying5 Try.underlying3 rfl (by first | exact w64 (by omega) (by omega) | exact wu8 (by omega) (by omega))) ?_
    refine PW.hv rfl rfl rfl rfl (Hv.callS hS rfl rfl rfl cb14 (point_c ((wOf b : Int) + n) y.toNat _)) (fun _ _ h => h.2.rd) fun v w37 ⟨hv, hS⟩ => ?_
    subst hv
    refine PW.hv rfl rfl rfl rfl (Hv.callV hS rfl rfl rfl cb15 (touchF_c (l := made [b]) (taps := []) (p := ⟨(wOf b : Int) + n, y.toNat⟩) hS.imm hd0 (Sl.nil _ _ _ (by simp [maxLen])) made_b (fun t ht => by cases ht) List.Pairwise.nil (made_k [b]) (by omega) (by simp))) (fun _ _ ⟨_, _, hm, h⟩ => Rd.le hm h.rd) fun v w38 ⟨μ38, hv38, hm38, hS⟩ => ?_
    obtain ⟨S, hSe⟩ : ∃ S, S = (touchR (made [b]) [] ⟨(wOf b : Int) + n, y.toNat⟩).1 := ⟨_, rfl⟩
    obtain ⟨e, hee⟩ : ∃ e, e = (touchR (made [b]) [] ⟨(wOf b : Int) + n, y.toNat⟩).2 := ⟨_, rfl⟩
    unfold IsTR at hv38
    rw [← hSe, ← hee] at hv38
    rw [hT] at hSe hee
    obtain ⟨ad38, c38, hv, hs38⟩ := hv38
    subst hv
    have hd0 := hd0.mono hm38
    have hTe : (cD n d ≤ 1000 ∧ S = [⟨97, cD n d⟩] ∧ e = 0) ∨ (1000 < cD n d ∧ S = [] ∧ e = 210) := by
      by_cases hc : cD n d ≤ 1000
      · left; rw [if_pos hc] at hSe hee; exact ⟨hc, hSe, hee⟩
      · right; rw [if_neg hc] at hSe hee; exact ⟨by omega, hSe, hee⟩
    refine PW.ex rfl rfl rfl rfl (Ex.move rfl) ?_
    refine PW.ex rfl rfl rfl rfl (Ex.extract rfl rfl) ?_
    refine PW.ex rfl rfl rfl rfl (Ex.extract rfl rfl) ?_
    refine PW.ex rfl rfl rfl rfl (Ex.assign rfl) ?_
    refine PW.ex rfl rfl rfl rfl (Ex.assign rfl) ?_
    refine PW.nil ?_
    refine LW.nil fun aa ha => hK10 _ _ _ ?_ aa ha
    refine CW.seq fun K11 hK11 => ?_
    refine CW.seq fun K12 hK12 => ?_
    refine CW.region [0, 1] rfl ?_
    refine LW.ex rfl rfl rfl rfl (Ex.move rfl) hS.rd ?_
    refine LW.ex rfl rfl rfl rfl (Ex.eql rfl rfl rfl) hS.rd ?_
    refine LW.splitB (fun h8_1 => ?_) (fun h8_1 => ?_)
    · have h8_1 := of_decide_eq_true h8_1
      refine LW.nil fun aa ha => hK12 _ _ _ ?_ aa ha
      refine CW.yes rfl ?_
      refine CW.seq fun K13 hK13 => ?_
      refine CW.region [0, 1, 2, 3, 4, 5, 6, 7, 8] rfl ?_
      refine LW.ex rfl rfl rfl rfl (Ex.move rfl) hS.rd ?_
      refine LW.ex rfl rfl rfl rfl (Ex.move rfl) hS.rd ?_
      refine LW.ex rfl rfl rfl rfl (Ex.conv Try.underlying5 Try.underlying3 rfl (by first | exact w64 (by omega) (by omega) | exact wu8 (by omega) (by omega))) hS.rd ?_
      refine LW.ex rfl rfl rfl rfl (Ex.add rfl rfl (by first | exact inc64 (by omega) | exact addN (by omega) | exact w64 (by omega) (by omega))) hS.rd ?_
      refine LW.ex rfl rfl rfl rfl (Ex.gtr rfl rfl rfl) hS.rd ?_
      refine LW.splitB (fun h9_4 => ?_) (fun h9_4 => ?_)
      · have h9_4 := of_decide_eq_true h9_4
        refine LW.ex rfl rfl rfl rfl (Ex.move rfl) hS.rd ?_
        refine LW.ex rfl rfl rfl rfl (Ex.move rfl) hS.rd ?_
        refine LW.ex rfl rfl rfl rfl (by first | exact Ex.pick_yes rfl rfl | exact Ex.pick_no rfl rfl) hS.rd ?_
        refine LW.ex rfl rfl rfl rfl (Ex.assign rfl) hS.rd ?_
        refine LW.nil fun aa ha => hK13 _ _ _ ?_ aa ha
        refine CW.ret fun aa ha => ?_
        refine ret_one ha Try.results7 rfl ?_
        exact hS.retS
      · have h9_4 := of_decide_eq_false h9_4
        have hfar := cD_far (n := n) (d := d) (y := y.toNat) (by omega) (by omega) (by rcases hTe with ⟨g1, g2, g3⟩ | ⟨g1, g2, g3⟩ <;> omega)
        omega
    · have h8_1 := of_decide_eq_false h8_1
      refine LW.nil fun aa ha => hK12 _ _ _ ?_ aa ha
      refine CW.no rfl ?_
      refine CW.skip fun aa ha => hK11 _ _ _ ?_ aa ha
      refine CW.seq fun K14 hK14 => ?_
      obtain ⟨g1, g2, g3⟩ : cD n d ≤ 1000 ∧ S = [⟨97, cD n d⟩] ∧ e = 0 := by
        rcases hTe with g | ⟨g1, g2, g3⟩
        · exact g
        · omega
      have hci : costIn S 97 = cD n d := by rw [g2]; rfl
      have hnr := cD_near (n := n) (d := d) (by omega) g1
      refine CW.region [0, 1, 2] rfl ?_
      refine LW.ex rfl rfl rfl rfl (Ex.move rfl) hS.rd ?_
      refine LW.hv rfl rfl rfl rfl (Hv.callS hS rfl rfl rfl cb27 (costIn_c S 97 _ _ _ _ hS.imm hs38)) fun v w52 ⟨hv, hS⟩ => ?_
      subst hv
      rw [hci]
      refine LW.ex rfl rfl rfl rfl (Ex.assign rfl) hS.rd ?_
      refine LW.nil fun aa ha => hK14 _ _ _ ?_ aa ha
      refine CW.seq fun K15 hK15 => ?_
      refine CW.seq fun K16 hK16 => ?_
      refine CW.region [0, 1, 2, 3, 4, 5, 6, 7, 8, 9, 10] rfl ?_
      refine LW.ex rfl rfl rfl rfl (Ex.move rfl) hS.rd ?_
      refine LW.ex rfl rfl rfl rfl (Ex.neq rfl rfl rfl) hS.rd ?_
      refine LW.splitB (fun h11_1 => ?_) (fun h11_1 => ?_)
      · have h11_1 := of_decide_eq_true h11_1
        omega
      · have h11_1 := of_decide_eq_false h11_1
        refine LW.ex rfl rfl rfl rfl (Ex.move rfl) hS.rd ?_
        refine LW.ex rfl rfl rfl rfl (Ex.move rfl) hS.rd ?_
        refine LW.ex rfl rfl rfl rfl (Ex.move rfl) hS.rd ?_
        refine LW.ex rfl rfl rfl rfl (Ex.lss rfl rfl rfl) hS.rd ?_
        refine LW.splitB (fun h11_5 => ?_) (fun h11_5 => ?_)
        · have h11_5 := of_decide_eq_true h11_5
          omega
        · have h11_5 := of_decide_eq_false h11_5
          refine LW.ex rfl rfl rfl rfl (by first | exact Ex.pick_yes rfl rfl | exact Ex.pick_no rfl rfl) hS.rd ?_
          refine LW.ex rfl rfl rfl rfl (Ex.move rfl) hS.rd ?_
          refine LW.ex rfl rfl rfl rfl (Ex.move rfl) hS.rd ?_
          refine LW.ex rfl rfl rfl rfl (Ex.gtr rfl rfl rfl) hS.rd ?_
          refine LW.splitB (fun h11_9 => ?_) (fun h11_9 => ?_)
          · have h11_9 := of_decide_eq_true h11_9
            omega
          · have h11_9 := of_decide_eq_false h11_9
            refine LW.ex rfl rfl rfl rfl (by first | exact Ex.pick_yes rfl rfl | exact Ex.pick_no rfl rfl) hS.rd ?_
            refine LW.nil fun aa ha => hK16 _ _ _ ?_ aa ha
            refine CW.no rfl ?_
            refine CW.skip fun aa ha => hK15 _ _ _ ?_ aa ha
            refine CW.region [0, 1] rfl ?_
            refine LW.ex rfl rfl rfl rfl (Ex.move rfl) hS.rd ?_
            refine LW.ex rfl rfl rfl rfl (Ex.assign rfl) hS.rd ?_
            refine LW.nil fun aa ha => hK9 _ _ _ ?_ aa ha
            refine CW.region [0, 1, 2, 3, 4, 5, 6] rfl ?_
            refine LW.ex rfl rfl rfl rfl (Ex.move rfl) hS.rd ?_
            refine LW.ex rfl rfl rfl rfl (Ex.move rfl) hS.rd ?_
            refine LW.ex rfl rfl rfl rfl (Ex.conv Try.underlying5 Try.underlying3 rfl (by first | exact w64 (by omega) (by omega) | exact wu8 (by omega) (by omega))) hS.rd ?_
            refine LW.ex rfl rfl rfl rfl (Ex.rem rfl rfl (by omega) (show _ = ((s : Nat) : Int) from by rw [hs]; exact tmodN st.toNat 20)) hS.rd ?_
            refine LW.ex rfl rfl rfl rfl (Ex.add rfl rfl (show _ = ((1 + s : Nat) : Int) from by rw [w64 (by omega) (by omega)]; omega)) hS.rd ?_
            refine LW.ex rfl rfl rfl rfl (Ex.add rfl rfl (addN (i := n) (j := 1 + s) (by omega))) hS.rd ?_
            refine LW.ex rfl rfl rfl rfl (Ex.assign rfl) hS.rd ?_
            refine LW.nil fun aa ha => ?_
            refine ⟨_, _, ?m5, ⟨n + (1 + s), cD n d, μ38, (by first | omega | (simp; done) | (simp; omega)), rfl, rfl, hS, cD_mono (by omega), hd0⟩, ha.sub ⟨rfl, rfl, rfl, rfl, rfl, rfl, trivial⟩⟩
            case m5 => omega
  · have h5_1 := of_decide_eq_false h5_1
    omega
end Go.Proofs.Ytphgjongflkolaa

