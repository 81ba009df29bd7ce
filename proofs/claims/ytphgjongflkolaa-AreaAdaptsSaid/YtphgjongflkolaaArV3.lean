/-
  Areas: the walk of AreaSlots.
-/
import Derived.Test.YtphgjongflkolaaArV4
namespace Go.Proofs.Ytphgjongflkolaa
open Go.RowKit Sy Go.Sort

theorem cost_nonneg (a : Area) (taps : List Tap) (p : Pt) : 0 ≤ costOf a taps p := by
  unfold costOf
  refine Int.tdiv_nonneg (Int.add_nonneg ?_ ?_) (by decide)
  · exact Int.mul_nonneg (by unfold away; omega) (by unfold away; omega)
  · exact Int.mul_nonneg (by unfold away; omega) (by unfold away; omega)
theorem touchR_or {l : List Area} {taps : List Tap} {p : Pt} (hp : inP p = true) : ((touchR l taps p).1 = [] ∧ (touchR l taps p).2 = 210 ∧ meant l taps p = []) ∨ ((touchR l taps p).1 = few (meant l taps p) ∧ (touchR l taps p).2 = 0 ∧ meant l taps p ≠ []) := by
  by_cases hm : meant l taps p = []
  · left; unfold touchR; rw [if_neg (by rw [hp]; simp), if_pos hm]; exact ⟨rfl, rfl, hm⟩
  · right; rw [touchR_in hp hm]; exact ⟨rfl, rfl, hm⟩
set_option maxRecDepth 100000 in
set_option maxHeartbeats 2000000 in
theorem law3_c (l : List B2) (t : List I3) (x : B2) (adl adt : Option Addr) (cl ct : Nat) (μ : Mem) (w : World) (hμ : Imm μ w) (sl : Sl μ adl cl l) (st : Sl μ adt ct t) :
    Calls Try.prog 5 #[.slice adl l.length cl, .slice adt t.length ct, b2V x] w (RetS w (.bool true)) := by
  have hfine : Fine3 t := i3_fine st
  have hml := made_len l
  have htl := tapsM_len t
  have hb0 := x.a.toNat_lt
  have hb1 := x.b.toNat_lt
  have hS := St.start w μ hμ
  refine calls_start 178 [.slice adl l.length cl, .slice adt t.length ct, b2V x] Try.func5 rfl Try.ntmps5 rfl rfl ?_
  refine CW.seq fun K1 hK1 => ?_
  refine CW.region [0, 1] rfl ?_
  refine LW.hv rfl rfl rfl rfl (Hv.boxS hS rfl rfl) fun v w5 ⟨b5, hv, hb5, hS⟩ => ?_
  subst hv
  refine LW.ex rfl rfl rfl rfl (Ex.assign rfl) hS.rd ?_
  refine LW.nil fun aa ha => hK1 _ _ _ ?_ aa ha
  refine CW.seq fun K2 hK2 => ?_
  refine CW.region [0, 1] rfl ?_
  refine LW.hv rfl rfl rfl rfl (Hv.callS hS rfl rfl rfl cb11 (sanity_c _)) fun v w21 ⟨hv, hS⟩ => ?_
  subst hv
  refine LW.ex rfl rfl rfl rfl (Ex.assign rfl) hS.rd ?_
  refine LW.nil fun aa ha => hK2 _ _ _ ?_ aa ha
  refine CW.seq fun K3 hK3 => ?_
  refine CW.region [0, 1, 2, 3, 4, 5, 6] rfl ?_
  refine LW.ex rfl rfl rfl rfl (Ex.move rfl) hS.rd ?_
  refine LW.hv rfl rfl rfl rfl (Hv.callV hS rfl rfl rfl cb12 (made_c l _ _ _ _ hS.imm sl)) fun v w23 ⟨μ23, hv23, hm23, hS⟩ => ?_
  obtain ⟨a0, c0, a1, c1, a2, c2, hv, hd0, hd1, hd2⟩ := hv23
  subst hv
  have st := st.mono hm23
  refine LW.ex rfl rfl rfl rfl (Ex.move rfl) hS.rd ?_
  refine LW.hv rfl rfl rfl rfl (Hv.callV hS rfl rfl rfl cb13 (taps_made_c t _ _ _ _ hS.imm st)) fun v w25 ⟨μ25, hv25, hm25, hS⟩ => ?_
  obtain ⟨ad25, c25, hv, hs25⟩ := hv25
  subst hv
  have hd0 : Sl _ a0 c0 (made l) := hd0.mono hm25
  refine LW.hv rfl rfl rfl rfl (Hv.alloc ti31 hS) fun v w8 ⟨b8, hv, hb8, hS⟩ => ?_
  subst hv
  refine LW.hu rfl rfl rfl (Hv.storeN (k := 0) ti31 hS rfl rfl rfl rfl (by simp [Value.oneCell'])) fun _ w_5 hS => ?_
  dsimp only [List.set] at hS
  refine LW.ex rfl rfl rfl rfl (Ex.assign rfl) hS.rd ?_
  refine LW.nil fun aa ha => hK3 _ _ _ ?_ aa ha
  refine CW.seq fun K4 hK4 => ?_
  refine CW.region [0, 1, 2, 3, 4, 5, 6, 7, 8] rfl ?_
  refine LW.ex rfl rfl rfl rfl (Ex.indexArr (j := 0) Try.underlying63 ti5 rfl rfl rfl (by omega)) hS.rd ?_
  refine LW.ex rfl rfl rfl rfl (Ex.load1 ti5 rfl rfl (by first | exact Rd.obj (k := 0) rfl rfl | exact Rd.obj (k := 1) rfl rfl | exact Rd.obj (k := 2) rfl rfl | exact Rd.obj (k := 3) rfl rfl | exact Rd.obj (k := 4) rfl rfl | exact Rd.imm (by assumption) | exact Rd.sl (k := 0) rfl (by assumption) | exact Rd.sl (k := 1) rfl (by assumption) | exact Rd.sl (k := 2) rfl (by assumption) | exact Rd.sl (k := 3) rfl (by assumption))) hS.rd ?_
  refine LW.ex rfl rfl rfl rfl (Ex.conv Try.underlying5 Try.underlying3 rfl (by first | exact w64 (by omega) (by omega) | exact wu8 (by omega) (by omega))) hS.rd ?_
  refine LW.ex rfl rfl rfl rfl (Ex.indexArr (j := 1) Try.underlying63 ti5 rfl rfl rfl (by omega)) hS.rd ?_
  refine LW.ex rfl rfl rfl rfl (Ex.load1 ti5 rfl rfl (by first | exact Rd.obj (k := 0) rfl rfl | exact Rd.obj (k := 1) rfl rfl | exact Rd.obj (k := 2) rfl rfl | exact Rd.obj (k := 3) rfl rfl | exact Rd.obj (k := 4) rfl rfl | exact Rd.imm (by assumption) | exact Rd.sl (k := 0) rfl (by assumption) | exact Rd.sl (k := 1) rfl (by assumption) | exact Rd.sl (k := 2) rfl (by assumption) | exact Rd.sl (k := 3) rfl (by assumption))) hS.rd ?_
  refine LW.ex rfl rfl rfl rfl (Ex.conv Try.underlying5 Try.underlying3 rfl (by first | exact w64 (by omega) (by omega) | exact wu8 (by omega) (by omega))) hS.rd ?_
  refine LW.hv rfl rfl rfl rfl (Hv.callS hS rfl rfl rfl cb14 (point_c x.a.toNat x.b.toNat _)) fun v w32 ⟨hv, hS⟩ => ?_
  subst hv
  refine LW.hv rfl rfl rfl rfl (Hv.alloc ti36 hS) fun v w10 ⟨b10, hv, hb10, hS⟩ => ?_
  subst hv
  refine LW.hu rfl rfl rfl (Hv.storeN (k := 0) ti36 hS rfl rfl rfl rfl (by simp [Value.oneCell'])) fun _ w_8 hS => ?_
  dsimp only [List.set] at hS
  refine LW.nil fun aa ha => hK4 _ _ _ ?_ aa ha
  refine CW.seq fun K5 hK5 => ?_
  refine CW.region [0, 1, 2, 3, 4, 5, 6, 7, 8] rfl ?_
  refine LW.ex rfl rfl rfl rfl (Ex.load3c ti31 rfl rfl (by first | exact Rd.obj (k := 0) rfl rfl | exact Rd.obj (k := 1) rfl rfl | exact Rd.obj (k := 2) rfl rfl | exact Rd.obj (k := 3) rfl rfl | exact Rd.obj (k := 4) rfl rfl | exact Rd.imm (by assumption) | exact Rd.sl (k := 0) rfl (by assumption) | exact Rd.sl (k := 1) rfl (by assumption) | exact Rd.sl (k := 2) rfl (by assumption) | exact Rd.sl (k := 3) rfl (by assumption)) (by first | exact Rd.obj (k := 0) rfl rfl | exact Rd.obj (k := 1) rfl rfl | exact Rd.obj (k := 2) rfl rfl | exact Rd.obj (k := 3) rfl rfl | exact Rd.obj (k := 4) rfl rfl | exact Rd.imm (by assumption) | exact Rd.sl (k := 0) rfl (by assumption) | exact Rd.sl (k := 1) rfl (by assumption) | exact Rd.sl (k := 2) rfl (by assumption) | exact Rd.sl (k := 3) rfl (by assumption)) (by first | exact Rd.obj (k := 0) rfl rfl | exact Rd.obj (k := 1) rfl rfl | exact Rd.obj (k := 2) rfl rfl | exact Rd.obj (k := 3) rfl rfl | exact Rd.obj (k := 4) rfl rfl | exact Rd.imm (by assumption) | exact Rd.sl (k := 0) rfl (by assumption) | exact Rd.sl (k := 1) rfl (by assumption) | exact Rd.sl (k := 2) rfl (by assumption) | exact Rd.sl (k := 3) rfl (by assumption))) hS.rd ?_
  refine LW.ex rfl rfl rfl rfl (Ex.move rfl) hS.rd ?_
  refine LW.ex rfl rfl rfl rfl (Ex.load2c ti36 rfl rfl (by first | exact Rd.obj (k := 0) rfl rfl | exact Rd.obj (k := 1) rfl rfl | exact Rd.obj (k := 2) rfl rfl | exact Rd.obj (k := 3) rfl rfl | exact Rd.obj (k := 4) rfl rfl | exact Rd.imm (by assumption) | exact Rd.sl (k := 0) rfl (by assumption) | exact Rd.sl (k := 1) rfl (by assumption) | exact Rd.sl (k := 2) rfl (by assumption) | exact Rd.sl (k := 3) rfl (by assumption)) (by first | exact Rd.obj (k := 0) rfl rfl | exact Rd.obj (k := 1) rfl rfl | exact Rd.obj (k := 2) rfl rfl | exact Rd.obj (k := 3) rfl rfl | exact Rd.obj (k := 4) rfl rfl | exact Rd.imm (by assumption) | exact Rd.sl (k := 0) rfl (by assumption) | exact Rd.sl (k := 1) rfl (by assumption) | exact Rd.sl (k := 2) rfl (by assumption) | exact Rd.sl (k := 3) rfl (by assumption))) hS.rd ?_
  refine LW.hv rfl rfl rfl rfl (Hv.callV hS rfl rfl rfl cb15 (touchF_c (l := made l) (taps := tapsM t) (p := ⟨x.a.toNat, x.b.toNat⟩) hS.imm hd0 hs25 made_b (tapsM_b hfine) (tapsM_r t) (made_k l) (by omega) (by omega))) fun v w37 ⟨μ37, hv37, hm37, hS⟩ => ?_
  obtain ⟨ad37, c37, hv, hs37⟩ := hv37
  subst hv
  have hd0 := hd0.mono hm37
  have hs25 := hs25.mono hm37
  have hTe := touchR_or (l := made l) (taps := tapsM t) (p := ⟨x.a.toNat, x.b.toNat⟩) (inP_of (by simp only; omega) (by simp only; omega) (by simp only; omega) (by simp only; omega))
  obtain ⟨S, hSe⟩ : ∃ S, S = (touchR (made l) (tapsM t) ⟨x.a.toNat, x.b.toNat⟩).1 := ⟨_, rfl⟩
  obtain ⟨e, hee⟩ : ∃ e, e = (touchR (made l) (tapsM t) ⟨x.a.toNat, x.b.toNat⟩).2 := ⟨_, rfl⟩
  rw [← hSe, ← hee] at hTe
  rw [← hSe] at hs37
  rw [← hSe, ← hee]
  obtain ⟨M, hM⟩ : ∃ M, M = meant (made l) (tapsM t) ⟨x.a.toNat, x.b.toNat⟩ := ⟨_, rfl⟩
  rw [← hM] at hTe
  have hMk : Keys M := by rw [hM]; exact meant_keys (made_k l) _ _
  have hfl := few_len hMk
  refine LW.ex rfl rfl rfl rfl (Ex.move rfl) hS.rd ?_
  refine LW.ex rfl rfl rfl rfl (Ex.extract rfl rfl) hS.rd ?_
  refine LW.ex rfl rfl rfl rfl (Ex.extract rfl rfl) hS.rd ?_
  refine LW.ex rfl rfl rfl rfl (Ex.assign rfl) hS.rd ?_
  refine LW.ex rfl rfl rfl rfl (Ex.assign rfl) hS.rd ?_
  refine LW.nil fun aa ha => hK5 _ _ _ ?_ aa ha
  refine CW.seq fun K6 hK6 => ?_
  refine CW.seq fun K7 hK7 => ?_
  refine CW.region [0, 1, 2, 3, 4, 5, 6, 7, 8, 9, 10, 11] rfl ?_
  refine LW.ex rfl rfl rfl rfl (Ex.move rfl) hS.rd ?_
  refine LW.ex rfl rfl rfl rfl (Ex.neq rfl rfl rfl) hS.rd ?_
  refine LW.splitB (fun h5_1 => ?_) (fun h5_1 => ?_)
  · have h5_1 := of_decide_eq_true h5_1
    refine LW.ex rfl rfl rfl rfl (Ex.move rfl) hS.rd ?_
    refine LW.skip rfl rfl rfl rfl ?_
    refine LW.skip rfl rfl rfl rfl ?_
    refine LW.skip rfl rfl rfl rfl ?_
    refine LW.ex rfl rfl rfl rfl (by first | exact Ex.pick_yes rfl rfl | exact Ex.pick_no rfl rfl) hS.rd ?_
    refine LW.ex rfl rfl rfl rfl (Ex.move rfl) hS.rd ?_
    refine LW.skip rfl rfl rfl rfl ?_
    refine LW.skip rfl rfl rfl rfl ?_
    refine LW.skip rfl rfl rfl rfl ?_
    refine LW.ex rfl rfl rfl rfl (by first | exact Ex.pick_yes rfl rfl | exact Ex.pick_no rfl rfl) hS.rd ?_
    refine LW.nil fun aa ha => hK7 _ _ _ ?_ aa ha
    refine CW.yes rfl ?_
    refine CW.seq fun K8 hK8 => ?_
    refine CW.region [0, 1, 2, 3, 4, 5, 6, 7, 8, 9, 10] rfl ?_
    refine LW.ex rfl rfl rfl rfl (Ex.move rfl) hS.rd ?_
    refine LW.ex rfl rfl rfl rfl (Ex.eql rfl rfl rfl) hS.rd ?_
    refine LW.splitB (fun h6_1 => ?_) (fun h6_1 => ?_)
    · have h6_1 := of_decide_eq_true h6_1
      refine LW.ex rfl rfl rfl rfl (Ex.move rfl) hS.rd ?_
      refine LW.ex rfl rfl rfl rfl (Ex.move rfl) hS.rd ?_
      refine LW.ex rfl rfl rfl rfl (Ex.lenSl rfl Try.underlying39 rfl) hS.rd ?_
      refine LW.ex rfl rfl rfl rfl (Ex.eql rfl rfl rfl) hS.rd ?_
      refine LW.splitB (fun h6_5 => ?_) (fun h6_5 => ?_)
      · have h6_5 := of_decide_eq_true h6_5
        refine LW.ex rfl rfl rfl rfl (by first | exact Ex.pick_yes rfl rfl | exact Ex.pick_no rfl rfl) hS.rd ?_
        refine LW.ex rfl rfl rfl rfl (Ex.move rfl) hS.rd ?_
        refine LW.ex rfl rfl rfl rfl (Ex.move rfl) hS.rd ?_
        refine LW.ex rfl rfl rfl rfl (by first | exact Ex.pick_yes rfl rfl | exact Ex.pick_no rfl rfl) hS.rd ?_
        refine LW.ex rfl rfl rfl rfl (Ex.assign rfl) hS.rd ?_
        refine LW.nil fun aa ha => hK8 _ _ _ ?_ aa ha
        refine CW.ret fun aa ha => ?_
        refine ret_one ha Try.results5 rfl ?_
        exact hS.retS
      · have h6_5 := of_decide_eq_false h6_5
        exfalso
        rcases hTe with ⟨g1, g2, g3⟩ | ⟨g1, g2, g3⟩
        · rw [g1] at h6_5; exact h6_5 rfl
        · omega
    · have h6_1 := of_decide_eq_false h6_1
      exfalso
      rcases hTe with ⟨g1, g2, g3⟩ | ⟨g1, g2, g3⟩ <;> omega
  · have h5_1 := of_decide_eq_false h5_1
    refine LW.ex rfl rfl rfl rfl (Ex.move rfl) hS.rd ?_
    refine LW.ex rfl rfl rfl rfl (Ex.move rfl) hS.rd ?_
    refine LW.ex rfl rfl rfl rfl (Ex.lenSl rfl Try.underlying39 rfl) hS.rd ?_
    refine LW.ex rfl rfl rfl rfl (Ex.gtr rfl rfl rfl) hS.rd ?_
    refine LW.splitB (fun h5_5 => ?_) (fun h5_5 => ?_)
    · have h5_5 := of_decide_eq_true h5_5
      exfalso
      rcases hTe with ⟨g1, g2, g3⟩ | ⟨g1, g2, g3⟩
      · omega
      · rw [g1] at h5_5; omega
    · have h5_5 := of_decide_eq_false h5_5
      refine LW.ex rfl rfl rfl rfl (by first | exact Ex.pick_yes rfl rfl | exact Ex.pick_no rfl rfl) hS.rd ?_
      refine LW.ex rfl rfl rfl rfl (Ex.move rfl) hS.rd ?_
      refine LW.ex rfl rfl rfl rfl (Ex.move rfl) hS.rd ?_
      refine LW.ex rfl rfl rfl rfl (Ex.lenSl rfl Try.underlying39 rfl) hS.rd ?_
      refine LW.ex rfl rfl rfl rfl (Ex.eql rfl rfl rfl) hS.rd ?_
      refine LW.splitB (fun h5_10 => ?_) (fun h5_10 => ?_)
      · have h5_10 := of_decide_eq_true h5_10
        exfalso
        rcases hTe with ⟨g1, g2, g3⟩ | ⟨g1, g2, g3⟩
        · omega
        · rw [g1] at h5_10; apply g3; exact List.eq_nil_of_length_eq_zero (by omega)
      · have h5_10 := of_decide_eq_false h5_10
        refine LW.ex rfl rfl rfl rfl (by first | exact Ex.pick_yes rfl rfl | exact Ex.pick_no rfl rfl) hS.rd ?_
        refine LW.nil fun aa ha => hK7 _ _ _ ?_ aa ha
        refine CW.no rfl ?_
        refine CW.skip fun aa ha => hK6 _ _ _ ?_ aa ha
        refine CW.seq fun K9 hK9 => ?_
        have hSf : S = few M := by
          rcases hTe with ⟨g1, g2, g3⟩ | ⟨g1, g2, g3⟩
          · omega
          · exact g1
        have hSk : Keys S := by rw [hSf]; exact few_keys hMk
        have hSm : ∀ y ∈ S, ∃ a ∈ made l, costOf a (tapsM t) ⟨x.a.toNat, x.b.toNat⟩ ≤ 1000 ∧ y = ⟨a.Key, costOf a (tapsM t) ⟨x.a.toNat, x.b.toNat⟩⟩ := fun y hy => by
          rw [hSf] at hy
          have := few_mem hy
          rw [hM] at this; exact meant_mem.1 this
        refine CW.region [0] rfl ?_
        refine LW.ex rfl rfl rfl rfl (Ex.assign rfl) hS.rd ?_
        refine LW.nil fun aa ha => hK9 _ _ _ ?_ aa ha
        refine CW.seq fun K10 hK10 => ?_
        refine CW.seq fun K11 hK11 => ?_
        refine CW.region [0] rfl ?_
        refine LW.ex rfl rfl rfl rfl (Ex.assign rfl) hS.rd ?_
        refine LW.nil fun aa ha => hK11 _ _ _ ?_ aa ha
        refine CW.block ?_
        refine CW.loop (fun q m wl9 => ∃ (i : Nat) (wst : Int), i ≤ S.length ∧ q = S.length - i ∧ m = [(7, .bool true), (8, .pointer (some ⟨b8, 0, none⟩)), (9, .slice ad25 (tapsM t).length c25), (10, .pointer (some ⟨b10, 0, none⟩)), (11, .slice ad37 S.length c37), (13, .int .i64 wst), (14, .int .i64 i)] ∧ St w wl9 μ37 [Own.obj b10 [.int .i64 x.a.toNat, .int .i64 x.b.toNat] 36, Own.obj b8 [.slice a0 (made l).length c0, .slice a1 2 c1, .slice a2 2 c2] 31, Own.obj b5 [.int .u8 x.a.toNat, .int .u8 x.b.toNat] 63] ∧ (wst = 0 ∨ ∃ y ∈ S, wst = y.Cost)) _ ⟨0, 0, (by first | omega | (simp; done) | (simp; omega)), rfl, rfl, hS, .inl rfl⟩ ⟨rfl, rfl, rfl, rfl, rfl, rfl, rfl, trivial⟩ ?_
        clear hS
        rintro q m wl9 ⟨i, wst, hi, hq, rfl, hS, hw⟩
        refine CW.seq fun K12 hK12 => ?_
        refine CW.seq fun K13 hK13 => ?_
        refine CW.region [0, 1, 2, 3] rfl ?_
        refine LW.ex rfl rfl rfl rfl (Ex.move rfl) hS.rd ?_
        refine LW.ex rfl rfl rfl rfl (Ex.move rfl) hS.rd ?_
        refine LW.ex rfl rfl rfl rfl (Ex.lenSl rfl Try.underlying39 rfl) hS.rd ?_
        refine LW.ex rfl rfl rfl rfl (Ex.lss rfl rfl rfl) hS.rd ?_
        refine LW.splitB (fun h9_3 => ?_) (fun h9_3 => ?_)
        · have h9_3 := of_decide_eq_true h9_3
          refine LW.nil fun aa ha => hK13 _ _ _ ?_ aa ha
          refine CW.yes rfl ?_
          refine CW.skip fun aa ha => hK12 _ _ _ ?_ aa ha
          refine CW.seq fun K14 hK14 => ?_
          refine CW.block ?_
          refine CW.seq fun K15 hK15 => ?_
          have h1 : i < S.length := by omega
          have hnn : i - 1 < S.length := by omega
          obtain ⟨bl, ol, rfl, k0, k1⟩ := hs37.at h1
          obtain ⟨bl', ol', e', j0, j1⟩ := hs37.at hnn
          cases e'
          obtain ⟨a, ham, hac, hSa⟩ := hSm _ (List.getElem_mem h1)
          have hak : S[i].Key = a.Key := by rw [hSa]
          have hcc : S[i].Cost = costOf a (tapsM t) ⟨x.a.toNat, x.b.toNat⟩ := by rw [hSa]
          have hao : areaOf (made l) S[i].Key = some a := by rw [hak]; exact areaOf_mem (made_k l) ham
          have hS := hS.drew
          refine CW.drawP 11 [9] (.ex 0 <| .ex 1 <| .ex 2 <| .ex 3 <| .ex 4 <| .ex 5 <| .two 6 (.ex 7 <| .ex 8 <| .pu 9 <| .one 10 <| .done) 10 (.one 6 <| .ex 7 <| .ex 8 <| .pu 9 <| .done)) [11, 12] (Rd _ _) (Rd _ _) mixed (by kernel_rfl) rfl rfl hS.rd hS.rd ?_
          refine QW.ex rfl rfl rfl rfl (Ex.load3c ti31 rfl rfl (by first | exact Rd.obj (k := 0) rfl rfl | exact Rd.obj (k := 1) rfl rfl | exact Rd.obj (k := 2) rfl rfl | exact Rd.obj (k := 3) rfl rfl | exact Rd.obj (k := 4) rfl rfl | exact Rd.imm (by assumption) | exact Rd.sl (k := 0) rfl (by assumption) | exact Rd.sl (k := 1) rfl (by assumption) | exact Rd.sl (k := 2) rfl (by assumption) | exact Rd.sl (k := 3) rfl (by assumption)) (by first | exact Rd.obj (k := 0) rfl rfl | exact Rd.obj (k := 1) rfl rfl | exact Rd.obj (k := 2) rfl rfl | exact Rd.obj (k := 3) rfl rfl | exact Rd.obj (k := 4) rfl rfl | exact Rd.imm (by assumption) | exact Rd.sl (k := 0) rfl (by assumption) | exact Rd.sl (k := 1) rfl (by assumption) | exact Rd.sl (k := 2) rfl (by assumption) | exact Rd.sl (k := 3) rfl (by assumption)) (by first | exact Rd.obj (k := 0) rfl rfl | exact Rd.obj (k := 1) rfl rfl | exact Rd.obj (k := 2) rfl rfl | exact Rd.obj (k := 3) rfl rfl | exact Rd.obj (k := 4) rfl rfl | exact Rd.imm (by assumption) | exact Rd.sl (k := 0) rfl (by assumption) | exact Rd.sl (k := 1) rfl (by assumption) | exact Rd.sl (k := 2) rfl (by assumption) | exact Rd.sl (k := 3) rfl (by assumption))) ?_
          refine QW.ex rfl rfl rfl rfl (Ex.move rfl) ?_
          refine QW.ex rfl rfl rfl rfl (Ex.move rfl) ?_
          refine QW.ex rfl rfl rfl rfl (Ex.indexSl Try.underlying39 ti67 rfl rfl rfl (by omega)) ?_
          refine QW.ex rfl rfl rfl rfl (Ex.fieldO 0 Try.underlying67 rfl rfl ti5 rfl) ?_
          refine QW.ex rfl rfl rfl rfl (Ex.load1 ti5 rfl rfl (by first | exact Rd.obj (k := 0) rfl rfl | exact Rd.obj (k := 1) rfl rfl | exact Rd.obj (k := 2) rfl rfl | exact Rd.obj (k := 3) rfl rfl | exact Rd.obj (k := 4) rfl rfl | exact Rd.imm (by assumption) | exact Rd.sl (k := 0) rfl (by assumption) | exact Rd.sl (k := 1) rfl (by assumption) | exact Rd.sl (k := 2) rfl (by assumption) | exact Rd.sl (k := 3) rfl (by assumption))) ?_
          refine QW.two rfl rfl rfl rfl rfl rfl rfl rfl (Hv.callS hS rfl rfl rfl cb25 (area_c (made l) _ _ S[i].Key _ _ _ _ hS.imm hd0)) (fun _ _ h => h.2.rd) (fun _ _ h => h.2.rd) (Hv.alloc ti57 hS) (fun _ _ ⟨_, _, _, h⟩ => h.rd.tail) (fun _ _ ⟨_, _, _, h⟩ => h.rd.tail) (fun v w75 ⟨hv, hS⟩ => ?gA16) (fun v w15 ⟨b15, hv, hb15, hS⟩ => ?gB16)
          case gA16 =>
            skip
            subst hv
            rw [hao]
            refine QW.ex rfl rfl rfl rfl (Ex.move rfl) ?_
            refine QW.ex rfl rfl rfl rfl (Ex.extract rfl rfl) ?_
            refine QW.pu rfl rfl rfl rfl (Ex.extract rfl rfl) ?_
            refine QW.splitB (fun h11_9 => ?_) (fun h11_9 => ?_)
            · skip
              refine QW.hv rfl rfl rfl rfl (Hv.alloc ti57 hS) (fun _ _ ⟨_, _, _, h⟩ => h.rd.tail) (fun _ _ ⟨_, _, _, h⟩ => h.rd.tail) fun v w15 ⟨b15, hv, hb15, hS⟩ => ?_
              subst hv
              refine QW.nil ?_
              refine TW.hu rfl rfl rfl (Hv.storeN (k := 0) ti57 hS rfl rfl rfl rfl (by simp [Value.oneCell'])) (fun _ _ h => (h.rd.erase 0)) fun _ w_11 hS => ?_
              dsimp only [List.set] at hS
              refine TW.ex rfl rfl rfl rfl (Ex.assign rfl) hS.rd ?_
              refine TW.nil fun aa ha => hK15 _ _ _ ?_ aa ha
              refine CW.seq fun K17 hK17 => ?_
              refine CW.seq fun K18 hK18 => ?_
              have hS := hS.drew
              refine CW.draw 40 (.ex 0 <| .ex 1 <| .ex 2 <| .ex 3 <| .ex 4 <| .ex 5 <| .ex 6 <| .ex 7 <| .ex 8 <| .ex 9 <| .ex 10 <| .one 11 <| .ex 12 <| .ex 13 <| .ex 14 <| .ex 15 <| .ex 16 <| .ex 17 <| .ex 18 <| .ex 19 <| .ex 20 <| .ex 21 <| .ex 22 <| .ex 23 <| .ex 24 <| .ex 25 <| .ex 26 <| .ex 27 <| .ex 28 <| .ex 29 <| .ex 30 <| .ex 31 <| .ex 32 <| .ex 33 <| .ex 34 <| .ex 35 <| .ex 36 <| .ex 37 <| .ex 38 <| .ex 39 <| .done) [] (Rd _ _) mixed (by kernel_rfl) rfl rfl hS.rd ?_
              refine PW.ex rfl rfl rfl rfl (Ex.move rfl) ?_
              refine PW.ex rfl rfl rfl rfl (Ex.not rfl rfl) ?_
              refine PW.ex rfl rfl rfl rfl (Ex.move rfl) ?_
              refine PW.ex rfl rfl rfl rfl (Ex.move rfl) ?_
              refine PW.ex rfl rfl rfl rfl (Ex.move rfl) ?_
              refine PW.ex rfl rfl rfl rfl (Ex.indexSl Try.underlying39 ti67 rfl rfl rfl (by omega)) ?_
              refine PW.ex rfl rfl rfl rfl (Ex.fieldO 1 Try.underlying67 rfl rfl ti3 rfl) ?_
              refine PW.ex rfl rfl rfl rfl (Ex.load1 ti3 rfl rfl (by first | exact Rd.obj (k := 0) rfl rfl | exact Rd.obj (k := 1) rfl rfl | exact Rd.obj (k := 2) rfl rfl | exact Rd.obj (k := 3) rfl rfl | exact Rd.obj (k := 4) rfl rfl | exact Rd.imm (by assumption) | exact Rd.sl (k := 0) rfl (by assumption) | exact Rd.sl (k := 1) rfl (by assumption) | exact Rd.sl (k := 2) rfl (by assumption) | exact Rd.sl (k := 3) rfl (by assumption))) ?_
              refine PW.ex rfl rfl rfl rfl (Ex.load5c ti57 rfl rfl (by first | exact Rd.obj (k := 0) rfl rfl | exact Rd.obj (k := 1) rfl rfl | exact Rd.obj (k := 2) rfl rfl | exact Rd.obj (k := 3) rfl rfl | exact Rd.obj (k := 4) rfl rfl | exact Rd.imm (by assumption) | exact Rd.sl (k := 0) rfl (by assumption) | exact Rd.sl (k := 1) rfl (by assumption) | exact Rd.sl (k := 2) rfl (by assumption) | exact Rd.sl (k := 3) rfl (by assumption)) (by first | exact Rd.obj (k := 0) rfl rfl | exact Rd.obj (k := 1) rfl rfl | exact Rd.obj (k := 2) rfl rfl | exact Rd.obj (k := 3) rfl rfl | exact Rd.obj (k := 4) rfl rfl | exact Rd.imm (by assumption) | exact Rd.sl (k := 0) rfl (by assumption) | exact Rd.sl (k := 1) rfl (by assumption) | exact Rd.sl (k := 2) rfl (by assumption) | exact Rd.sl (k := 3) rfl (by assumption)) (by first | exact Rd.obj (k := 0) rfl rfl | exact Rd.obj (k := 1) rfl rfl | exact Rd.obj (k := 2) rfl rfl | exact Rd.obj (k := 3) rfl rfl | exact Rd.obj (k := 4) rfl rfl | exact Rd.imm (by assumption) | exact Rd.sl (k := 0) rfl (by assumption) | exact Rd.sl (k := 1) rfl (by assumption) | exact Rd.sl (k := 2) rfl (by assumption) | exact Rd.sl (k := 3) rfl (by assumption)) (by first | exact Rd.obj (k := 0) rfl rfl | exact Rd.obj (k := 1) rfl rfl | exact Rd.obj (k := 2) rfl rfl | exact Rd.obj (k := 3) rfl rfl | exact Rd.obj (k := 4) rfl rfl | exact Rd.imm (by assumption) | exact Rd.sl (k := 0) rfl (by assumption) | exact Rd.sl (k := 1) rfl (by assumption) | exact Rd.sl (k := 2) rfl (by assumption) | exact Rd.sl (k := 3) rfl (by assumption)) (by first | exact Rd.obj (k := 0) rfl rfl | exact Rd.obj (k := 1) rfl rfl | exact Rd.obj (k := 2) rfl rfl | exact Rd.obj (k := 3) rfl rfl | exact Rd.obj (k := 4) rfl rfl | exact Rd.imm (by assumption) | exact Rd.sl (k := 0) rfl (by assumption) | exact Rd.sl (k := 1) rfl (by assumption) | exact Rd.sl (k := 2) rfl (by assumption) | exact Rd.sl (k := 3) rfl (by assumption))) ?_
              refine PW.ex rfl rfl rfl rfl (Ex.move rfl) ?_
              refine PW.ex rfl rfl rfl rfl (Ex.load2c ti36 rfl rfl (by first | exact Rd.obj (k := 0) rfl rfl | exact Rd.obj (k := 1) rfl rfl | exact Rd.obj (k := 2) rfl rfl | exact Rd.obj (k := 3) rfl rfl | exact Rd.obj (k := 4) rfl rfl | exact Rd.imm (by assumption) | exact Rd.sl (k := 0) rfl (by assumption) | exact Rd.sl (k := 1) rfl (by assumption) | exact Rd.sl (k := 2) rfl (by assumption) | exact Rd.sl (k := 3) rfl (by assumption)) (by first | exact Rd.obj (k := 0) rfl rfl | exact Rd.obj (k := 1) rfl rfl | exact Rd.obj (k := 2) rfl rfl | exact Rd.obj (k := 3) rfl rfl | exact Rd.obj (k := 4) rfl rfl | exact Rd.imm (by assumption) | exact Rd.sl (k := 0) rfl (by assumption) | exact Rd.sl (k := 1) rfl (by assumption) | exact Rd.sl (k := 2) rfl (by assumption) | exact Rd.sl (k := 3) rfl (by assumption))) ?_
              refine PW.hv rfl rfl rfl rfl (Hv.callS hS rfl rfl rfl cb26 (refcost_c a (tapsM t) ⟨x.a.toNat, x.b.toNat⟩ _ _ _ _ hS.imm hs25 (tapsM_b hfine) (made_b a ham) (by simp only; omega))) (fun _ _ h => h.2.rd) fun v w89 ⟨hv, hS⟩ => ?_
              subst hv
              refine PW.ex rfl rfl rfl rfl (Ex.neq rfl rfl rfl) ?_
              refine PW.splitB (fun h12_12 => ?_) (fun h12_12 => ?_)
              · have h12_12 := of_decide_eq_true h12_12
                exact absurd hcc h12_12
              · have h12_12 := of_decide_eq_false h12_12
                refine PW.ex rfl rfl rfl rfl (by first | exact Ex.pick_yes rfl rfl | exact Ex.pick_no rfl rfl) ?_
                refine PW.ex rfl rfl rfl rfl (Ex.move rfl) ?_
                refine PW.ex rfl rfl rfl rfl (Ex.move rfl) ?_
                refine PW.ex rfl rfl rfl rfl (Ex.move rfl) ?_
                refine PW.ex rfl rfl rfl rfl (Ex.indexSl Try.underlying39 ti67 rfl rfl rfl (by omega)) ?_
                refine PW.ex rfl rfl rfl rfl (Ex.fieldO 1 Try.underlying67 rfl rfl ti3 rfl) ?_
                refine PW.ex rfl rfl rfl rfl (Ex.load1 ti3 rfl rfl (by first | exact Rd.obj (k := 0) rfl rfl | exact Rd.obj (k := 1) rfl rfl | exact Rd.obj (k := 2) rfl rfl | exact Rd.obj (k := 3) rfl rfl | exact Rd.obj (k := 4) rfl rfl | exact Rd.imm (by assumption) | exact Rd.sl (k := 0) rfl (by assumption) | exact Rd.sl (k := 1) rfl (by assumption) | exact Rd.sl (k := 2) rfl (by assumption) | exact Rd.sl (k := 3) rfl (by assumption))) ?_
                refine PW.ex rfl rfl rfl rfl (Ex.gtr rfl rfl rfl) ?_
                refine PW.splitB (fun h12_20 => ?_) (fun h12_20 => ?_)
                · have h12_20 := of_decide_eq_true h12_20
                  omega
                · have h12_20 := of_decide_eq_false h12_20
                  refine PW.ex rfl rfl rfl rfl (by first | exact Ex.pick_yes rfl rfl | exact Ex.pick_no rfl rfl) ?_
                  refine PW.ex rfl rfl rfl rfl (Ex.move rfl) ?_
                  refine PW.ex rfl rfl rfl rfl (Ex.move rfl) ?_
                  refine PW.ex rfl rfl rfl rfl (Ex.gtr rfl rfl rfl) ?_
                  refine PW.splitB (fun h12_24 => ?_) (fun h12_24 => ?_)
                  · have h12_24 := of_decide_eq_true h12_24
                    refine PW.ex rfl rfl rfl rfl (Ex.move rfl) ?_
                    refine PW.ex rfl rfl rfl rfl (Ex.move rfl) ?_
                    refine PW.ex rfl rfl rfl rfl (Ex.move rfl) ?_
                    refine PW.ex rfl rfl rfl rfl (Ex.indexSl Try.underlying39 ti67 rfl rfl rfl (by omega)) ?_
                    refine PW.ex rfl rfl rfl rfl (Ex.fieldO 0 Try.underlying67 rfl rfl ti5 rfl) ?_
                    refine PW.ex rfl rfl rfl rfl (Ex.load1 ti5 rfl rfl (by first | exact Rd.obj (k := 0) rfl rfl | exact Rd.obj (k := 1) rfl rfl | exact Rd.obj (k := 2) rfl rfl | exact Rd.obj (k := 3) rfl rfl | exact Rd.obj (k := 4) rfl rfl | exact Rd.imm (by assumption) | exact Rd.sl (k := 0) rfl (by assumption) | exact Rd.sl (k := 1) rfl (by assumption) | exact Rd.sl (k := 2) rfl (by assumption) | exact Rd.sl (k := 3) rfl (by assumption))) ?_
                    refine PW.ex rfl rfl rfl rfl (Ex.move rfl) ?_
                    refine PW.ex rfl rfl rfl rfl (Ex.move rfl) ?_
                    refine PW.ex rfl rfl rfl rfl (Ex.sub rfl rfl (by first | exact dec64 (by omega) (by omega) | exact subN (by omega) (by omega) | exact w64 (by omega) (by omega))) ?_
                    refine PW.ex rfl rfl rfl rfl (Ex.indexSl Try.underlying39 ti67 rfl rfl rfl (by omega)) ?_
                    refine PW.ex rfl rfl rfl rfl (Ex.fieldO 0 Try.underlying67 rfl rfl ti5 rfl) ?_
                    refine PW.ex rfl rfl rfl rfl (Ex.load1 ti5 rfl rfl (by first | exact Rd.obj (k := 0) rfl rfl | exact Rd.obj (k := 1) rfl rfl | exact Rd.obj (k := 2) rfl rfl | exact Rd.obj (k := 3) rfl rfl | exact Rd.obj (k := 4) rfl rfl | exact Rd.imm (by assumption) | exact Rd.sl (k := 0) rfl (by assumption) | exact Rd.sl (k := 1) rfl (by assumption) | exact Rd.sl (k := 2) rfl (by assumption) | exact Rd.sl (k := 3) rfl (by assumption))) ?_
                    refine PW.ex rfl rfl rfl rfl (Ex.leq rfl rfl rfl) ?_
                    refine PW.splitB (fun h12_37 => ?_) (fun h12_37 => ?_)
                    · have h12_37 := of_decide_eq_true h12_37
                      have := List.pairwise_iff_getElem.1 hSk (i - 1) i hnn h1 (by omega)
                      omega
                    · have h12_37 := of_decide_eq_false h12_37
                      refine PW.ex rfl rfl rfl rfl (by first | exact Ex.pick_yes rfl rfl | exact Ex.pick_no rfl rfl) ?_
                      refine PW.ex rfl rfl rfl rfl (by first | exact Ex.pick_yes rfl rfl | exact Ex.pick_no rfl rfl) ?_
                      refine PW.nil ?_
                      refine LW.nil fun aa ha => hK18 _ _ _ ?_ aa ha
                      refine CW.no rfl ?_
                      refine CW.skip fun aa ha => hK17 _ _ _ ?_ aa ha
                      refine CW.region [0, 1, 2, 3, 4, 5, 6, 7] rfl ?_
                      refine LW.ex rfl rfl rfl rfl (Ex.move rfl) hS.rd ?_
                      refine LW.ex rfl rfl rfl rfl (Ex.move rfl) hS.rd ?_
                      refine LW.ex rfl rfl rfl rfl (Ex.move rfl) hS.rd ?_
                      refine LW.ex rfl rfl rfl rfl (Ex.indexSl Try.underlying39 ti67 rfl rfl rfl (by omega)) hS.rd ?_
                      refine LW.ex rfl rfl rfl rfl (Ex.fieldO 1 Try.underlying67 rfl rfl ti3 rfl) hS.rd ?_
                      refine LW.ex rfl rfl rfl rfl (Ex.load1 ti3 rfl rfl (by first | exact Rd.obj (k := 0) rfl rfl | exact Rd.obj (k := 1) rfl rfl | exact Rd.obj (k := 2) rfl rfl | exact Rd.obj (k := 3) rfl rfl | exact Rd.obj (k := 4) rfl rfl | exact Rd.imm (by assumption) | exact Rd.sl (k := 0) rfl (by assumption) | exact Rd.sl (k := 1) rfl (by assumption) | exact Rd.sl (k := 2) rfl (by assumption) | exact Rd.sl (k := 3) rfl (by assumption))) hS.rd ?_
                      refine LW.ex rfl rfl rfl rfl (Ex.max2 rfl rfl rfl) hS.rd ?_
                      refine LW.ex rfl rfl rfl rfl (Ex.assign rfl) hS.rd ?_
                      refine LW.nil fun aa ha => hK14 _ _ _ ?_ aa ha
                      refine CW.region [0, 1, 2] rfl ?_
                      refine LW.ex rfl rfl rfl rfl (Ex.move rfl) hS.rd ?_
                      refine LW.ex rfl rfl rfl rfl (Ex.add rfl rfl (by first | exact inc64 (by omega) | exact addN (by omega) | exact w64 (by omega) (by omega))) hS.rd ?_
                      refine LW.ex rfl rfl rfl rfl (Ex.assign rfl) hS.rd ?_
                      refine LW.nil fun aa ha => ?_
                      have hS := hS.drop 0 rfl
                      dsimp only [List.eraseIdx] at hS
                      refine ⟨_, _, ?m9, ⟨i + 1, max wst S[i].Cost, (by first | omega | (simp; done) | (simp; omega)), rfl, rfl, hS, ?_⟩, ha.sub ⟨rfl, rfl, rfl, rfl, rfl, rfl, rfl, trivial⟩⟩
                      case m9 => omega
                      rcases Int.le_total wst S[i].Cost with hle | hle
                      · right; exact ⟨S[i], List.getElem_mem h1, by omega⟩
                      · rw [Int.max_eq_left hle]; exact hw
                  · have h12_24 := of_decide_eq_false h12_24
                    refine PW.ex rfl rfl rfl rfl (Ex.move rfl) ?_
                    refine PW.skip rfl rfl rfl rfl ?_
                    refine PW.skip rfl rfl rfl rfl ?_
                    refine PW.skip rfl rfl rfl rfl ?_
                    refine PW.skip rfl rfl rfl rfl ?_
                    refine PW.skip rfl rfl rfl rfl ?_
                    refine PW.skip rfl rfl rfl rfl ?_
                    refine PW.skip rfl rfl rfl rfl ?_
                    refine PW.skip rfl rfl rfl rfl ?_
                    refine PW.skip rfl rfl rfl rfl ?_
                    refine PW.skip rfl rfl rfl rfl ?_
                    refine PW.skip rfl rfl rfl rfl ?_
                    refine PW.skip rfl rfl rfl rfl ?_
                    refine PW.ex rfl rfl rfl rfl (by first | exact Ex.pick_yes rfl rfl | exact Ex.pick_no rfl rfl) ?_
                    refine PW.ex rfl rfl rfl rfl (by first | exact Ex.pick_yes rfl rfl | exact Ex.pick_no rfl rfl) ?_
                    refine PW.nil ?_
                    refine LW.nil fun aa ha => hK18 _ _ _ ?_ aa ha
                    refine CW.no rfl ?_
                    refine CW.skip fun aa ha => hK17 _ _ _ ?_ aa ha
                    refine CW.region [0, 1, 2, 3, 4, 5, 6, 7] rfl ?_
                    refine LW.ex rfl rfl rfl rfl (Ex.move rfl) hS.rd ?_
                    refine LW.ex rfl rfl rfl rfl (Ex.move rfl) hS.rd ?_
                    refine LW.ex rfl rfl rfl rfl (Ex.move rfl) hS.rd ?_
                    refine LW.ex rfl rfl rfl rfl (Ex.indexSl Try.underlying39 ti67 rfl rfl rfl (by omega)) hS.rd ?_
                    refine LW.ex rfl rfl rfl rfl (Ex.fieldO 1 Try.underlying67 rfl rfl ti3 rfl) hS.rd ?_
                    refine LW.ex rfl rfl rfl rfl (Ex.load1 ti3 rfl rfl (by first | exact Rd.obj (k := 0) rfl rfl | exact Rd.obj (k := 1) rfl rfl | exact Rd.obj (k := 2) rfl rfl | exact Rd.obj (k := 3) rfl rfl | exact Rd.obj (k := 4) rfl rfl | exact Rd.imm (by assumption) | exact Rd.sl (k := 0) rfl (by assumption) | exact Rd.sl (k := 1) rfl (by assumption) | exact Rd.sl (k := 2) rfl (by assumption) | exact Rd.sl (k := 3) rfl (by assumption))) hS.rd ?_
                    refine LW.ex rfl rfl rfl rfl (Ex.max2 rfl rfl rfl) hS.rd ?_
                    refine LW.ex rfl rfl rfl rfl (Ex.assign rfl) hS.rd ?_
                    refine LW.nil fun aa ha => hK14 _ _ _ ?_ aa ha
                    refine CW.region [0, 1, 2] rfl ?_
                    refine LW.ex rfl rfl rfl rfl (Ex.move rfl) hS.rd ?_
                    refine LW.ex rfl rfl rfl rfl (Ex.add rfl rfl (by first | exact inc64 (by omega) | exact addN (by omega) | exact w64 (by omega) (by omega))) hS.rd ?_
                    refine LW.ex rfl rfl rfl rfl (Ex.assign rfl) hS.rd ?_
                    refine LW.nil fun aa ha => ?_
                    have hS := hS.drop 0 rfl
                    dsimp only [List.eraseIdx] at hS
                    refine ⟨_, _, ?m9, ⟨i + 1, max wst S[i].Cost, (by first | omega | (simp; done) | (simp; omega)), rfl, rfl, hS, ?_⟩, ha.sub ⟨rfl, rfl, rfl, rfl, rfl, rfl, rfl, trivial⟩⟩
                    case m9 => omega
                    rcases Int.le_total wst S[i].Cost with hle | hle
                    · right; exact ⟨S[i], List.getElem_mem h1, by omega⟩
                    · rw [Int.max_eq_left hle]; exact hw
            · cases h11_9
          case gB16 =>
            skip
            subst hv
            refine QW.hv rfl rfl rfl rfl (Hv.callS hS rfl rfl rfl cb25 (area_c (made l) _ _ S[i].Key _ _ _ _ hS.imm hd0)) (fun _ _ h => h.2.rd.tail) (fun _ _ h => h.2.rd.tail) fun v w75 ⟨hv, hS⟩ => ?_
            subst hv
            rw [hao]
            refine QW.ex rfl rfl rfl rfl (Ex.move rfl) ?_
            refine QW.ex rfl rfl rfl rfl (Ex.extract rfl rfl) ?_
            refine QW.pu rfl rfl rfl rfl (Ex.extract rfl rfl) ?_
            refine QW.splitB (fun h11_9 => ?_) (fun h11_9 => ?_)
            · skip
              refine QW.nil ?_
              refine TW.hu rfl rfl rfl (Hv.storeN (k := 0) ti57 hS rfl rfl rfl rfl (by simp [Value.oneCell'])) (fun _ _ h => (h.rd.erase 0)) fun _ w_11 hS => ?_
              dsimp only [List.set] at hS
              refine TW.ex rfl rfl rfl rfl (Ex.assign rfl) hS.rd ?_
              refine TW.nil fun aa ha => hK15 _ _ _ ?_ aa ha
              refine CW.seq fun K19 hK19 => ?_
              refine CW.seq fun K20 hK20 => ?_
              have hS := hS.drew
              refine CW.draw 40 (.ex 0 <| .ex 1 <| .ex 2 <| .ex 3 <| .ex 4 <| .ex 5 <| .ex 6 <| .ex 7 <| .ex 8 <| .ex 9 <| .ex 10 <| .one 11 <| .ex 12 <| .ex 13 <| .ex 14 <| .ex 15 <| .ex 16 <| .ex 17 <| .ex 18 <| .ex 19 <| .ex 20 <| .ex 21 <| .ex 22 <| .ex 23 <| .ex 24 <| .ex 25 <| .ex 26 <| .ex 27 <| .ex 28 <| .ex 29 <| .ex 30 <| .ex 31 <| .ex 32 <| .ex 33 <| .ex 34 <| .ex 35 <| .ex 36 <| .ex 37 <| .ex 38 <| .ex 39 <| .done) [] (Rd _ _) mixed (by kernel_rfl) rfl rfl hS.rd ?_
              refine PW.ex rfl rfl rfl rfl (Ex.move rfl) ?_
              refine PW.ex rfl rfl rfl rfl (Ex.not rfl rfl) ?_
              refine PW.ex rfl rfl rfl rfl (Ex.move rfl) ?_
              refine PW.ex rfl rfl rfl rfl (Ex.move rfl) ?_
              refine PW.ex rfl rfl rfl rfl (Ex.move rfl) ?_
              refine PW.ex rfl rfl rfl rfl (Ex.indexSl Try.underlying39 ti67 rfl rfl rfl (by omega)) ?_
              refine PW.ex rfl rfl rfl rfl (Ex.fieldO 1 Try.underlying67 rfl rfl ti3 rfl) ?_
              refine PW.ex rfl rfl rfl rfl (Ex.load1 ti3 rfl rfl (by first | exact Rd.obj (k := 0) rfl rfl | exact Rd.obj (k := 1) rfl rfl | exact Rd.obj (k := 2) rfl rfl | exact Rd.obj (k := 3) rfl rfl | exact Rd.obj (k := 4) rfl rfl | exact Rd.imm (by assumption) | exact Rd.sl (k := 0) rfl (by assumption) | exact Rd.sl (k := 1) rfl (by assumption) | exact Rd.sl (k := 2) rfl (by assumption) | exact Rd.sl (k := 3) rfl (by assumption))) ?_
              refine PW.ex rfl rfl rfl rfl (Ex.load5c ti57 rfl rfl (by first | exact Rd.obj (k := 0) rfl rfl | exact Rd.obj (k := 1) rfl rfl | exact Rd.obj (k := 2) rfl rfl | exact Rd.obj (k := 3) rfl rfl | exact Rd.obj (k := 4) rfl rfl | exact Rd.imm (by assumption) | exact Rd.sl (k := 0) rfl (by assumption) | exact Rd.sl (k := 1) rfl (by assumption) | exact Rd.sl (k := 2) rfl (by assumption) | exact Rd.sl (k := 3) rfl (by assumption)) (by first | exact Rd.obj (k := 0) rfl rfl | exact Rd.obj (k := 1) rfl rfl | exact Rd.obj (k := 2) rfl rfl | exact Rd.obj (k := 3) rfl rfl | exact Rd.obj (k := 4) rfl rfl | exact Rd.imm (by assumption) | exact Rd.sl (k := 0) rfl (by assumption) | exact Rd.sl (k := 1) rfl (by assumption) | exact Rd.sl (k := 2) rfl (by assumption) | exact Rd.sl (k := 3) rfl (by assumption)) (by first | exact Rd.obj (k := 0) rfl rfl | exact Rd.obj (k := 1) rfl rfl | exact Rd.obj (k := 2) rfl rfl | exact Rd.obj (k := 3) rfl rfl | exact Rd.obj (k := 4) rfl rfl | exact Rd.imm (by assumption) | exact Rd.sl (k := 0) rfl (by assumption) | exact Rd.sl (k := 1) rfl (by assumption) | exact Rd.sl (k := 2) rfl (by assumption) | exact Rd.sl (k := 3) rfl (by assumption)) (by first | exact Rd.obj (k := 0) rfl rfl | exact Rd.obj (k := 1) rfl rfl | exact Rd.obj (k := 2) rfl rfl | exact Rd.obj (k := 3) rfl rfl | exact Rd.obj (k := 4) rfl rfl | exact Rd.imm (by assumption) | exact Rd.sl (k := 0) rfl (by assumption) | exact Rd.sl (k := 1) rfl (by assumption) | exact Rd.sl (k := 2) rfl (by assumption) | exact Rd.sl (k := 3) rfl (by assumption)) (by first | exact Rd.obj (k := 0) rfl rfl | exact Rd.obj (k := 1) rfl rfl | exact Rd.obj (k := 2) rfl rfl | exact Rd.obj (k := 3) rfl rfl | exact Rd.obj (k := 4) rfl rfl | exact Rd.imm (by assumption) | exact Rd.sl (k := 0) rfl (by assumption) | exact Rd.sl (k := 1) rfl (by assumption) | exact Rd.sl (k := 2) rfl (by assumption) | exact Rd.sl (k := 3) rfl (by assumption))) ?_
              refine PW.ex rfl rfl rfl rfl (Ex.move rfl) ?_
              refine PW.ex rfl rfl rfl rfl (Ex.load2c ti36 rfl rfl (by first | exact Rd.obj (k := 0) rfl rfl | exact Rd.obj (k := 1) rfl rfl | exact Rd.obj (k := 2) rfl rfl | exact Rd.obj (k := 3) rfl rfl | exact Rd.obj (k := 4) rfl rfl | exact Rd.imm (by assumption) | exact Rd.sl (k := 0) rfl (by assumption) | exact Rd.sl (k := 1) rfl (by assumption) | exact Rd.sl (k := 2) rfl (by assumption) | exact Rd.sl (k := 3) rfl (by assumption)) (by first | exact Rd.obj (k := 0) rfl rfl | exact Rd.obj (k := 1) rfl rfl | exact Rd.obj (k := 2) rfl rfl | exact Rd.obj (k := 3) rfl rfl | exact Rd.obj (k := 4) rfl rfl | exact Rd.imm (by assumption) | exact Rd.sl (k := 0) rfl (by assumption) | exact Rd.sl (k := 1) rfl (by assumption) | exact Rd.sl (k := 2) rfl (by assumption) | exact Rd.sl (k := 3) rfl (by assumption))) ?_
              refine PW.hv rfl rfl rfl rfl (Hv.callS hS rfl rfl rfl cb26 (refcost_c a (tapsM t) ⟨x.a.toNat, x.b.toNat⟩ _ _ _ _ hS.imm hs25 (tapsM_b hfine) (made_b a ham) (by simp only; omega))) (fun _ _ h => h.2.rd) fun v w89 ⟨hv, hS⟩ => ?_
              subst hv
              refine PW.ex rfl rfl rfl rfl (Ex.neq rfl rfl rfl) ?_
              refine PW.splitB (fun h12_12 => ?_) (fun h12_12 => ?_)
              · have h12_12 := of_decide_eq_true h12_12
                exact absurd hcc h12_12
              · have h12_12 := of_decide_eq_false h12_12
                refine PW.ex rfl rfl rfl rfl (by first | exact Ex.pick_yes rfl rfl | exact Ex.pick_no rfl rfl) ?_
                refine PW.ex rfl rfl rfl rfl (Ex.move rfl) ?_
                refine PW.ex rfl rfl rfl rfl (Ex.move rfl) ?_
                refine PW.ex rfl rfl rfl rfl (Ex.move rfl) ?_
                refine PW.ex rfl rfl rfl rfl (Ex.indexSl Try.underlying39 ti67 rfl rfl rfl (by omega)) ?_
                refine PW.ex rfl rfl rfl rfl (Ex.fieldO 1 Try.underlying67 rfl rfl ti3 rfl) ?_
                refine PW.ex rfl rfl rfl rfl (Ex.load1 ti3 rfl rfl (by first | exact Rd.obj (k := 0) rfl rfl | exact Rd.obj (k := 1) rfl rfl | exact Rd.obj (k := 2) rfl rfl | exact Rd.obj (k := 3) rfl rfl | exact Rd.obj (k := 4) rfl rfl | exact Rd.imm (by assumption) | exact Rd.sl (k := 0) rfl (by assumption) | exact Rd.sl (k := 1) rfl (by assumption) | exact Rd.sl (k := 2) rfl (by assumption) | exact Rd.sl (k := 3) rfl (by assumption))) ?_
                refine PW.ex rfl rfl rfl rfl (Ex.gtr rfl rfl rfl) ?_
                refine PW.splitB (fun h12_20 => ?_) (fun h12_20 => ?_)
                · have h12_20 := of_decide_eq_true h12_20
                  omega
                · have h12_20 := of_decide_eq_false h12_20
                  refine PW.ex rfl rfl rfl rfl (by first | exact Ex.pick_yes rfl rfl | exact Ex.pick_no rfl rfl) ?_
                  refine PW.ex rfl rfl rfl rfl (Ex.move rfl) ?_
                  refine PW.ex rfl rfl rfl rfl (Ex.move rfl) ?_
                  refine PW.ex rfl rfl rfl rfl (Ex.gtr rfl rfl rfl) ?_
                  refine PW.splitB (fun h12_24 => ?_) (fun h12_24 => ?_)
                  · have h12_24 := of_decide_eq_true h12_24
                    refine PW.ex rfl rfl rfl rfl (Ex.move rfl) ?_
                    refine PW.ex rfl rfl rfl rfl (Ex.move rfl) ?_
                    refine PW.ex rfl rfl rfl rfl (Ex.move rfl) ?_
                    refine PW.ex rfl rfl rfl rfl (Ex.indexSl Try.underlying39 ti67 rfl rfl rfl (by omega)) ?_
                    refine PW.ex rfl rfl rfl rfl (Ex.fieldO 0 Try.underlying67 rfl rfl ti5 rfl) ?_
                    refine PW.ex rfl rfl rfl rfl (Ex.load1 ti5 rfl rfl (by first | exact Rd.obj (k := 0) rfl rfl | exact Rd.obj (k := 1) rfl rfl | exact Rd.obj (k := 2) rfl rfl | exact Rd.obj (k := 3) rfl rfl | exact Rd.obj (k := 4) rfl rfl | exact Rd.imm (by assumption) | exact Rd.sl (k := 0) rfl (by assumption) | exact Rd.sl (k := 1) rfl (by assumption) | exact Rd.sl (k := 2) rfl (by assumption) | exact Rd.sl (k := 3) rfl (by assumption))) ?_
                    refine PW.ex rfl rfl rfl rfl (Ex.move rfl) ?_
                    refine PW.ex rfl rfl rfl rfl (Ex.move rfl) ?_
                    refine PW.ex rfl rfl rfl rfl (Ex.sub rfl rfl (by first | exact dec64 (by omega) (by omega) | exact subN (by omega) (by omega) | exact w64 (by omega) (by omega))) ?_
                    refine PW.ex rfl rfl rfl rfl (Ex.indexSl Try.underlying39 ti67 rfl rfl rfl (by omega)) ?_
                    refine PW.ex rfl rfl rfl rfl (Ex.fieldO 0 Try.underlying67 rfl rfl ti5 rfl) ?_
                    refine PW.ex rfl rfl rfl rfl (Ex.load1 ti5 rfl rfl (by first | exact Rd.obj (k := 0) rfl rfl | exact Rd.obj (k := 1) rfl rfl | exact Rd.obj (k := 2) rfl rfl | exact Rd.obj (k := 3) rfl rfl | exact Rd.obj (k := 4) rfl rfl | exact Rd.imm (by assumption) | exact Rd.sl (k := 0) rfl (by assumption) | exact Rd.sl (k := 1) rfl (by assumption) | exact Rd.sl (k := 2) rfl (by assumption) | exact Rd.sl (k := 3) rfl (by assumption))) ?_
                    refine PW.ex rfl rfl rfl rfl (Ex.leq rfl rfl rfl) ?_
                    refine PW.splitB (fun h12_37 => ?_) (fun h12_37 => ?_)
                    · have h12_37 := of_decide_eq_true h12_37
                      have := List.pairwise_iff_getElem.1 hSk (i - 1) i hnn h1 (by omega)
                      omega
                    · have h12_37 := of_decide_eq_false h12_37
                      refine PW.ex rfl rfl rfl rfl (by first | exact Ex.pick_yes rfl rfl | exact Ex.pick_no rfl rfl) ?_
                      refine PW.ex rfl rfl rfl rfl (by first | exact Ex.pick_yes rfl rfl | exact Ex.pick_no rfl rfl) ?_
                      refine PW.nil ?_
                      refine LW.nil fun aa ha => hK20 _ _ _ ?_ aa ha
                      refine CW.no rfl ?_
                      refine CW.skip fun aa ha => hK19 _ _ _ ?_ aa ha
                      refine CW.region [0, 1, 2, 3, 4, 5, 6, 7] rfl ?_
                      refine LW.ex rfl rfl rfl rfl (Ex.move rfl) hS.rd ?_
                      refine LW.ex rfl rfl rfl rfl (Ex.move rfl) hS.rd ?_
                      refine LW.ex rfl rfl rfl rfl (Ex.move rfl) hS.rd ?_
                      refine LW.ex rfl rfl rfl rfl (Ex.indexSl Try.underlying39 ti67 rfl rfl rfl (by omega)) hS.rd ?_
                      refine LW.ex rfl rfl rfl rfl (Ex.fieldO 1 Try.underlying67 rfl rfl ti3 rfl) hS.rd ?_
                      refine LW.ex rfl rfl rfl rfl (Ex.load1 ti3 rfl rfl (by first | exact Rd.obj (k := 0) rfl rfl | exact Rd.obj (k := 1) rfl rfl | exact Rd.obj (k := 2) rfl rfl | exact Rd.obj (k := 3) rfl rfl | exact Rd.obj (k := 4) rfl rfl | exact Rd.imm (by assumption) | exact Rd.sl (k := 0) rfl (by assumption) | exact Rd.sl (k := 1) rfl (by assumption) | exact Rd.sl (k := 2) rfl (by assumption) | exact Rd.sl (k := 3) rfl (by assumption))) hS.rd ?_
                      refine LW.ex rfl rfl rfl rfl (Ex.max2 rfl rfl rfl) hS.rd ?_
                      refine LW.ex rfl rfl rfl rfl (Ex.assign rfl) hS.rd ?_
                      refine LW.nil fun aa ha => hK14 _ _ _ ?_ aa ha
                      refine CW.region [0, 1, 2] rfl ?_
                      refine LW.ex rfl rfl rfl rfl (Ex.move rfl) hS.rd ?_
                      refine LW.ex rfl rfl rfl rfl (Ex.add rfl rfl (by first | exact inc64 (by omega) | exact addN (by omega) | exact w64 (by omega) (by omega))) hS.rd ?_
                      refine LW.ex rfl rfl rfl rfl (Ex.assign rfl) hS.rd ?_
                      refine LW.nil fun aa ha => ?_
                      have hS := hS.drop 0 rfl
                      dsimp only [List.eraseIdx] at hS
                      refine ⟨_, _, ?m9, ⟨i + 1, max wst S[i].Cost, (by first | omega | (simp; done) | (simp; omega)), rfl, rfl, hS, ?_⟩, ha.sub ⟨rfl, rfl, rfl, rfl, rfl, rfl, rfl, trivial⟩⟩
                      case m9 => omega
                      rcases Int.le_total wst S[i].Cost with hle | hle
                      · right; exact ⟨S[i], List.getElem_mem h1, by omega⟩
                      · rw [Int.max_eq_left hle]; exact hw
                  · have h12_24 := of_decide_eq_false h12_24
                    refine PW.ex rfl rfl rfl rfl (Ex.move rfl) ?_
                    refine PW.skip rfl rfl rfl rfl ?_
                    refine PW.skip rfl rfl rfl rfl ?_
                    refine PW.skip rfl rfl rfl rfl ?_
                    refine PW.skip rfl rfl rfl rfl ?_
                    refine PW.skip rfl rfl rfl rfl ?_
                    refine PW.skip rfl rfl rfl rfl ?_
                    refine PW.skip rfl rfl rfl rfl ?_
                    refine PW.skip rfl rfl rfl rfl ?_
                    refine PW.skip rfl rfl rfl rfl ?_
                    refine PW.skip rfl rfl rfl rfl ?_
                    refine PW.skip rfl rfl rfl rfl ?_
                    refine PW.skip rfl rfl rfl rfl ?_
                    refine PW.ex rfl rfl rfl rfl (by first | exact Ex.pick_yes rfl rfl | exact Ex.pick_no rfl rfl) ?_
                    refine PW.ex rfl rfl rfl rfl (by first | exact Ex.pick_yes rfl rfl | exact Ex.pick_no rfl rfl) ?_
                    refine PW.nil ?_
                    refine LW.nil fun aa ha => hK20 _ _ _ ?_ aa ha
                    refine CW.no rfl ?_
                    refine CW.skip fun aa ha => hK19 _ _ _ ?_ aa ha
                    refine CW.region [0, 1, 2, 3, 4, 5, 6, 7] rfl ?_
                    refine LW.ex rfl rfl rfl rfl (Ex.move rfl) hS.rd ?_
                    refine LW.ex rfl rfl rfl rfl (Ex.move rfl) hS.rd ?_
                    refine LW.ex rfl rfl rfl rfl (Ex.move rfl) hS.rd ?_
                    refine LW.ex rfl rfl rfl rfl (Ex.indexSl Try.underlying39 ti67 rfl rfl rfl (by omega)) hS.rd ?_
                    refine LW.ex rfl rfl rfl rfl (Ex.fieldO 1 Try.underlying67 rfl rfl ti3 rfl) hS.rd ?_
                    refine LW.ex rfl rfl rfl rfl (Ex.load1 ti3 rfl rfl (by first | exact Rd.obj (k := 0) rfl rfl | exact Rd.obj (k := 1) rfl rfl | exact Rd.obj (k := 2) rfl rfl | exact Rd.obj (k := 3) rfl rfl | exact Rd.obj (k := 4) rfl rfl | exact Rd.imm (by assumption) | exact Rd.sl (k := 0) rfl (by assumption) | exact Rd.sl (k := 1) rfl (by assumption) | exact Rd.sl (k := 2) rfl (by assumption) | exact Rd.sl (k := 3) rfl (by assumption))) hS.rd ?_
                    refine LW.ex rfl rfl rfl rfl (Ex.max2 rfl rfl rfl) hS.rd ?_
                    refine LW.ex rfl rfl rfl rfl (Ex.assign rfl) hS.rd ?_
                    refine LW.nil fun aa ha => hK14 _ _ _ ?_ aa ha
                    refine CW.region [0, 1, 2] rfl ?_
                    refine LW.ex rfl rfl rfl rfl (Ex.move rfl) hS.rd ?_
                    refine LW.ex rfl rfl rfl rfl (Ex.add rfl rfl (by first | exact inc64 (by omega) | exact addN (by omega) | exact w64 (by omega) (by omega))) hS.rd ?_
                    refine LW.ex rfl rfl rfl rfl (Ex.assign rfl) hS.rd ?_
                    refine LW.nil fun aa ha => ?_
                    have hS := hS.drop 0 rfl
                    dsimp only [List.eraseIdx] at hS
                    refine ⟨_, _, ?m9, ⟨i + 1, max wst S[i].Cost, (by first | omega | (simp; done) | (simp; omega)), rfl, rfl, hS, ?_⟩, ha.sub ⟨rfl, rfl, rfl, rfl, rfl, rfl, rfl, trivial⟩⟩
                    case m9 => omega
                    rcases Int.le_total wst S[i].Cost with hle | hle
                    · right; exact ⟨S[i], List.getElem_mem h1, by omega⟩
                    · rw [Int.max_eq_left hle]; exact hw
            · cases h11_9
        · have h9_3 := of_decide_eq_false h9_3
          refine LW.nil fun aa ha => hK13 _ _ _ ?_ aa ha
          refine CW.no rfl ?_
          refine CW.exit fun aa ha => hK10 _ _ _ ?_ aa ha
          refine CW.seq fun K21 hK21 => ?_
          refine CW.seq fun K22 hK22 => ?_
          refine CW.region [0] rfl ?_
          refine LW.ex rfl rfl rfl rfl (Ex.assign rfl) hS.rd ?_
          refine LW.nil fun aa ha => hK22 _ _ _ ?_ aa ha
          refine CW.block ?_
          refine CW.loop (fun q m wl16 => ∃ (i : Nat), i ≤ (made l).length ∧ q = (made l).length - i ∧ m = [(7, .bool true), (8, .pointer (some ⟨b8, 0, none⟩)), (9, .slice ad25 (tapsM t).length c25), (10, .pointer (some ⟨b10, 0, none⟩)), (11, .slice ad37 S.length c37), (13, .int .i64 wst), (17, .int .i64 i)] ∧ St w wl16 μ37 [Own.obj b10 [.int .i64 x.a.toNat, .int .i64 x.b.toNat] 36, Own.obj b8 [.slice a0 (made l).length c0, .slice a1 2 c1, .slice a2 2 c2] 31, Own.obj b5 [.int .u8 x.a.toNat, .int .u8 x.b.toNat] 63]) _ ⟨0, (by first | omega | (simp; done) | (simp; omega)), rfl, rfl, hS⟩ ⟨rfl, rfl, rfl, rfl, rfl, rfl, rfl, trivial⟩ ?_
          clear hS
          rintro q m wl16 ⟨i, hi, hq, rfl, hS⟩
          refine CW.seq fun K23 hK23 => ?_
          refine CW.seq fun K24 hK24 => ?_
          refine CW.region [0, 1, 2, 3, 4] rfl ?_
          refine LW.ex rfl rfl rfl rfl (Ex.move rfl) hS.rd ?_
          refine LW.ex rfl rfl rfl rfl (Ex.fieldO 0 Try.underlying31 rfl rfl ti27 rfl) hS.rd ?_
          refine LW.ex rfl rfl rfl rfl (Ex.load1 ti27 rfl rfl (by first | exact Rd.obj (k := 0) rfl rfl | exact Rd.obj (k := 1) rfl rfl | exact Rd.obj (k := 2) rfl rfl | exact Rd.obj (k := 3) rfl rfl | exact Rd.obj (k := 4) rfl rfl | exact Rd.imm (by assumption) | exact Rd.sl (k := 0) rfl (by assumption) | exact Rd.sl (k := 1) rfl (by assumption) | exact Rd.sl (k := 2) rfl (by assumption) | exact Rd.sl (k := 3) rfl (by assumption))) hS.rd ?_
          refine LW.ex rfl rfl rfl rfl (Ex.lenSl rfl Try.underlying27 rfl) hS.rd ?_
          refine LW.ex rfl rfl rfl rfl (Ex.lss rfl rfl rfl) hS.rd ?_
          refine LW.splitB (fun h16_4 => ?_) (fun h16_4 => ?_)
          · have h16_4 := of_decide_eq_true h16_4
            refine LW.nil fun aa ha => hK24 _ _ _ ?_ aa ha
            refine CW.yes rfl ?_
            refine CW.skip fun aa ha => hK23 _ _ _ ?_ aa ha
            refine CW.seq fun K25 hK25 => ?_
            refine CW.block ?_
            refine CW.seq fun K26 hK26 => ?_
            have h1 : i < (made l).length := by omega
            obtain ⟨bl, ol, rfl, k0, k1, k2, k3, k4⟩ := hd0.at h1
            obtain ⟨a, ha⟩ : ∃ a, a = (made l)[i] := ⟨_, rfl⟩
            have ham : a ∈ made l := by rw [ha]; exact List.getElem_mem h1
            rw [← ha] at k0 k1 k2 k3 k4
            refine CW.region [0] rfl ?_
            refine LW.ex rfl rfl rfl rfl (Ex.assign rfl) hS.rd ?_
            refine LW.nil fun aa ha => hK26 _ _ _ ?_ aa ha
            refine CW.seq fun K27 hK27 => ?_
            refine CW.seq fun K28 hK28 => ?_
            refine CW.region [0] rfl ?_
            refine LW.ex rfl rfl rfl rfl (Ex.assign rfl) hS.rd ?_
            refine LW.nil fun aa ha => hK28 _ _ _ ?_ aa ha
            refine CW.block ?_
            refine CW.loop (fun q m wl20 => ∃ (k : Nat) (d : Bool), k ≤ S.length ∧ q = S.length - k ∧ m = [(7, .bool true), (8, .pointer (some ⟨b8, 0, none⟩)), (9, .slice ad25 (tapsM t).length c25), (10, .pointer (some ⟨b10, 0, none⟩)), (11, .slice ad37 S.length c37), (13, .int .i64 wst), (17, .int .i64 i), (18, .bool d), (19, .int .i64 k)] ∧ St w wl20 μ37 [Own.obj b10 [.int .i64 x.a.toNat, .int .i64 x.b.toNat] 36, Own.obj b8 [.slice (some ⟨bl, ol, none⟩) (made l).length c0, .slice a1 2 c1, .slice a2 2 c2] 31, Own.obj b5 [.int .u8 x.a.toNat, .int .u8 x.b.toNat] 63] ∧ (d = false → ∀ j (h : j < S.length), j < k → S[j].Key ≠ a.Key)) _ ⟨0, false, (by first | omega | (simp; done) | (simp; omega)), rfl, rfl, hS, fun _ j _ hj => by omega⟩ ⟨rfl, rfl, rfl, rfl, rfl, rfl, rfl, rfl, rfl, trivial⟩ ?_
            clear hS
            rintro q m wl20 ⟨k, d, hk, hq, rfl, hS, hdt⟩
            refine CW.seq fun K29 hK29 => ?_
            refine CW.seq fun K30 hK30 => ?_
            refine CW.region [0, 1, 2, 3] rfl ?_
            refine LW.ex rfl rfl rfl rfl (Ex.move rfl) hS.rd ?_
            refine LW.ex rfl rfl rfl rfl (Ex.move rfl) hS.rd ?_
            refine LW.ex rfl rfl rfl rfl (Ex.lenSl rfl Try.underlying39 rfl) hS.rd ?_
            refine LW.ex rfl rfl rfl rfl (Ex.lss rfl rfl rfl) hS.rd ?_
            refine LW.splitB (fun h20_3 => ?_) (fun h20_3 => ?_)
            · have h20_3 := of_decide_eq_true h20_3
              refine LW.nil fun aa ha => hK30 _ _ _ ?_ aa ha
              refine CW.yes rfl ?_
              refine CW.skip fun aa ha => hK29 _ _ _ ?_ aa ha
              refine CW.seq fun K31 hK31 => ?_
              refine CW.block ?_
              have h2 : k < S.length := by omega
              obtain ⟨bs, os, rfl, q0, q1⟩ := hs37.at h2
              have hS := hS.drew
              refine CW.draw 16 (.ex 0 <| .ex 1 <| .ex 2 <| .ex 3 <| .ex 4 <| .ex 5 <| .ex 6 <| .ex 7 <| .ex 8 <| .ex 9 <| .ex 10 <| .ex 11 <| .ex 12 <| .ex 13 <| .ex 14 <| .ex 15 <| .done) [] (Rd _ _) mixed (by kernel_rfl) rfl rfl hS.rd ?_
              refine PW.ex rfl rfl rfl rfl (Ex.move rfl) ?_
              refine PW.splitB (fun h22_0 => ?_) (fun h22_0 => ?_)
              · skip
                refine PW.ex rfl rfl rfl rfl (Ex.move rfl) ?_
                refine PW.skip rfl rfl rfl rfl ?_
                refine PW.skip rfl rfl rfl rfl ?_
                refine PW.skip rfl rfl rfl rfl ?_
                refine PW.skip rfl rfl rfl rfl ?_
                refine PW.skip rfl rfl rfl rfl ?_
                refine PW.skip rfl rfl rfl rfl ?_
                refine PW.skip rfl rfl rfl rfl ?_
                refine PW.skip rfl rfl rfl rfl ?_
                refine PW.skip rfl rfl rfl rfl ?_
                refine PW.skip rfl rfl rfl rfl ?_
                refine PW.skip rfl rfl rfl rfl ?_
                refine PW.skip rfl rfl rfl rfl ?_
                refine PW.ex rfl rfl rfl rfl (by first | exact Ex.pick_yes rfl rfl | exact Ex.pick_no rfl rfl) ?_
                refine PW.ex rfl rfl rfl rfl (Ex.assign rfl) ?_
                refine PW.nil ?_
                refine LW.nil fun aa ha => hK31 _ _ _ ?_ aa ha
                refine CW.region [0, 1, 2] rfl ?_
                refine LW.ex rfl rfl rfl rfl (Ex.move rfl) hS.rd ?_
                refine LW.ex rfl rfl rfl rfl (Ex.add rfl rfl (by first | exact inc64 (by omega) | exact addN (by omega) | exact w64 (by omega) (by omega))) hS.rd ?_
                refine LW.ex rfl rfl rfl rfl (Ex.assign rfl) hS.rd ?_
                refine LW.nil fun aa ha => ?_
                refine ⟨_, _, ?m20, ⟨k + 1, true, (by first | omega | (simp; done) | (simp; omega)), rfl, rfl, hS, fun h => by cases h⟩, ha.sub ⟨rfl, rfl, rfl, rfl, rfl, rfl, rfl, rfl, rfl, trivial⟩⟩
                case m20 => omega
              · skip
                refine PW.ex rfl rfl rfl rfl (Ex.move rfl) ?_
                refine PW.ex rfl rfl rfl rfl (Ex.move rfl) ?_
                refine PW.ex rfl rfl rfl rfl (Ex.move rfl) ?_
                refine PW.ex rfl rfl rfl rfl (Ex.indexSl Try.underlying39 ti67 rfl rfl rfl (by omega)) ?_
                refine PW.ex rfl rfl rfl rfl (Ex.fieldO 0 Try.underlying67 rfl rfl ti5 rfl) ?_
                refine PW.ex rfl rfl rfl rfl (Ex.load1 ti5 rfl rfl (by first | exact Rd.obj (k := 0) rfl rfl | exact Rd.obj (k := 1) rfl rfl | exact Rd.obj (k := 2) rfl rfl | exact Rd.obj (k := 3) rfl rfl | exact Rd.obj (k := 4) rfl rfl | exact Rd.imm (by assumption) | exact Rd.sl (k := 0) rfl (by assumption) | exact Rd.sl (k := 1) rfl (by assumption) | exact Rd.sl (k := 2) rfl (by assumption) | exact Rd.sl (k := 3) rfl (by assumption))) ?_
                refine PW.ex rfl rfl rfl rfl (Ex.fieldO 0 Try.underlying31 rfl rfl ti27 rfl) ?_
                refine PW.ex rfl rfl rfl rfl (Ex.load1 ti27 rfl rfl (by first | exact Rd.obj (k := 0) rfl rfl | exact Rd.obj (k := 1) rfl rfl | exact Rd.obj (k := 2) rfl rfl | exact Rd.obj (k := 3) rfl rfl | exact Rd.obj (k := 4) rfl rfl | exact Rd.imm (by assumption) | exact Rd.sl (k := 0) rfl (by assumption) | exact Rd.sl (k := 1) rfl (by assumption) | exact Rd.sl (k := 2) rfl (by assumption) | exact Rd.sl (k := 3) rfl (by assumption))) ?_
                refine PW.ex rfl rfl rfl rfl (Ex.move rfl) ?_
                refine PW.ex rfl rfl rfl rfl (Ex.indexSl Try.underlying27 ti57 rfl rfl rfl (by omega)) ?_
                refine PW.ex rfl rfl rfl rfl (Ex.fieldO 0 Try.underlying57 rfl rfl ti5 rfl) ?_
                refine PW.ex rfl rfl rfl rfl (Ex.load1 ti5 rfl rfl (by first | exact Rd.obj (k := 0) rfl rfl | exact Rd.obj (k := 1) rfl rfl | exact Rd.obj (k := 2) rfl rfl | exact Rd.obj (k := 3) rfl rfl | exact Rd.obj (k := 4) rfl rfl | exact Rd.imm (by assumption) | exact Rd.sl (k := 0) rfl (by assumption) | exact Rd.sl (k := 1) rfl (by assumption) | exact Rd.sl (k := 2) rfl (by assumption) | exact Rd.sl (k := 3) rfl (by assumption))) ?_
                refine PW.ex rfl rfl rfl rfl (Ex.eql rfl rfl rfl) ?_
                refine PW.splitB (fun h22_13 => ?_) (fun h22_13 => ?_)
                · have h22_13 := of_decide_eq_true h22_13
                  refine PW.ex rfl rfl rfl rfl (by first | exact Ex.pick_yes rfl rfl | exact Ex.pick_no rfl rfl) ?_
                  refine PW.ex rfl rfl rfl rfl (Ex.assign rfl) ?_
                  refine PW.nil ?_
                  refine LW.nil fun aa ha => hK31 _ _ _ ?_ aa ha
                  refine CW.region [0, 1, 2] rfl ?_
                  refine LW.ex rfl rfl rfl rfl (Ex.move rfl) hS.rd ?_
                  refine LW.ex rfl rfl rfl rfl (Ex.add rfl rfl (by first | exact inc64 (by omega) | exact addN (by omega) | exact w64 (by omega) (by omega))) hS.rd ?_
                  refine LW.ex rfl rfl rfl rfl (Ex.assign rfl) hS.rd ?_
                  refine LW.nil fun aa ha => ?_
                  refine ⟨_, _, ?m20, ⟨k + 1, true, (by first | omega | (simp; done) | (simp; omega)), rfl, rfl, hS, fun h => by cases h⟩, ha.sub ⟨rfl, rfl, rfl, rfl, rfl, rfl, rfl, rfl, rfl, trivial⟩⟩
                  case m20 => omega
                · have h22_13 := of_decide_eq_false h22_13
                  refine PW.ex rfl rfl rfl rfl (by first | exact Ex.pick_yes rfl rfl | exact Ex.pick_no rfl rfl) ?_
                  refine PW.ex rfl rfl rfl rfl (Ex.assign rfl) ?_
                  refine PW.nil ?_
                  refine LW.nil fun aa ha => hK31 _ _ _ ?_ aa ha
                  refine CW.region [0, 1, 2] rfl ?_
                  refine LW.ex rfl rfl rfl rfl (Ex.move rfl) hS.rd ?_
                  refine LW.ex rfl rfl rfl rfl (Ex.add rfl rfl (by first | exact inc64 (by omega) | exact addN (by omega) | exact w64 (by omega) (by omega))) hS.rd ?_
                  refine LW.ex rfl rfl rfl rfl (Ex.assign rfl) hS.rd ?_
                  refine LW.nil fun aa ha => ?_
                  refine ⟨_, _, ?m20, ⟨k + 1, false, (by first | omega | (simp; done) | (simp; omega)), rfl, rfl, hS, ?_⟩, ha.sub ⟨rfl, rfl, rfl, rfl, rfl, rfl, rfl, rfl, rfl, trivial⟩⟩
                  case m20 => omega
                  intro _ j hj hjk
                  by_cases hjk' : j = k
                  · subst hjk'; intro e; apply h22_13; rw [e]
                  · exact hdt h22_0 j hj (by omega)
            · have h20_3 := of_decide_eq_false h20_3
              refine LW.nil fun aa ha => hK30 _ _ _ ?_ aa ha
              refine CW.no rfl ?_
              refine CW.exit fun aa ha => hK27 _ _ _ ?_ aa ha
              refine CW.seq fun K32 hK32 => ?_
              have hS := hS.drew
              refine CW.draw 9 (.ex 0 <| .ex 1 <| .ex 2 <| .ex 3 <| .ex 4 <| .ex 5 <| .ex 6 <| .one 7 <| .ex 8 <| .done) [] (Rd _ _) mixed (by kernel_rfl) rfl rfl hS.rd ?_
              refine PW.ex rfl rfl rfl rfl (Ex.fieldO 0 Try.underlying31 rfl rfl ti27 rfl) ?_
              refine PW.ex rfl rfl rfl rfl (Ex.load1 ti27 rfl rfl (by first | exact Rd.obj (k := 0) rfl rfl | exact Rd.obj (k := 1) rfl rfl | exact Rd.obj (k := 2) rfl rfl | exact Rd.obj (k := 3) rfl rfl | exact Rd.obj (k := 4) rfl rfl | exact Rd.imm (by assumption) | exact Rd.sl (k := 0) rfl (by assumption) | exact Rd.sl (k := 1) rfl (by assumption) | exact Rd.sl (k := 2) rfl (by assumption) | exact Rd.sl (k := 3) rfl (by assumption))) ?_
              refine PW.ex rfl rfl rfl rfl (Ex.move rfl) ?_
              refine PW.ex rfl rfl rfl rfl (Ex.indexSl Try.underlying27 ti57 rfl rfl rfl (by omega)) ?_
              refine PW.ex rfl rfl rfl rfl (Ex.load5c ti57 rfl rfl (by first | exact Rd.obj (k := 0) rfl rfl | exact Rd.obj (k := 1) rfl rfl | exact Rd.obj (k := 2) rfl rfl | exact Rd.obj (k := 3) rfl rfl | exact Rd.obj (k := 4) rfl rfl | exact Rd.imm (by assumption) | exact Rd.sl (k := 0) rfl (by assumption) | exact Rd.sl (k := 1) rfl (by assumption) | exact Rd.sl (k := 2) rfl (by assumption) | exact Rd.sl (k := 3) rfl (by assumption)) (by first | exact Rd.obj (k := 0) rfl rfl | exact Rd.obj (k := 1) rfl rfl | exact Rd.obj (k := 2) rfl rfl | exact Rd.obj (k := 3) rfl rfl | exact Rd.obj (k := 4) rfl rfl | exact Rd.imm (by assumption) | exact Rd.sl (k := 0) rfl (by assumption) | exact Rd.sl (k := 1) rfl (by assumption) | exact Rd.sl (k := 2) rfl (by assumption) | exact Rd.sl (k := 3) rfl (by assumption)) (by first | exact Rd.obj (k := 0) rfl rfl | exact Rd.obj (k := 1) rfl rfl | exact Rd.obj (k := 2) rfl rfl | exact Rd.obj (k := 3) rfl rfl | exact Rd.obj (k := 4) rfl rfl | exact Rd.imm (by assumption) | exact Rd.sl (k := 0) rfl (by assumption) | exact Rd.sl (k := 1) rfl (by assumption) | exact Rd.sl (k := 2) rfl (by assumption) | exact Rd.sl (k := 3) rfl (by assumption)) (by first | exact Rd.obj (k := 0) rfl rfl | exact Rd.obj (k := 1) rfl rfl | exact Rd.obj (k := 2) rfl rfl | exact Rd.obj (k := 3) rfl rfl | exact Rd.obj (k := 4) rfl rfl | exact Rd.imm (by assumption) | exact Rd.sl (k := 0) rfl (by assumption) | exact Rd.sl (k := 1) rfl (by assumption) | exact Rd.sl (k := 2) rfl (by assumption) | exact Rd.sl (k := 3) rfl (by assumption)) (by first | exact Rd.obj (k := 0) rfl rfl | exact Rd.obj (k := 1) rfl rfl | exact Rd.obj (k := 2) rfl rfl | exact Rd.obj (k := 3) rfl rfl | exact Rd.obj (k := 4) rfl rfl | exact Rd.imm (by assumption) | exact Rd.sl (k := 0) rfl (by assumption) | exact Rd.sl (k := 1) rfl (by assumption) | exact Rd.sl (k := 2) rfl (by assumption) | exact Rd.sl (k := 3) rfl (by assumption))) ?_
              refine PW.ex rfl rfl rfl rfl (Ex.move rfl) ?_
              refine PW.ex rfl rfl rfl rfl (Ex.load2c ti36 rfl rfl (by first | exact Rd.obj (k := 0) rfl rfl | exact Rd.obj (k := 1) rfl rfl | exact Rd.obj (k := 2) rfl rfl | exact Rd.obj (k := 3) rfl rfl | exact Rd.obj (k := 4) rfl rfl | exact Rd.imm (by assumption) | exact Rd.sl (k := 0) rfl (by assumption) | exact Rd.sl (k := 1) rfl (by assumption) | exact Rd.sl (k := 2) rfl (by assumption) | exact Rd.sl (k := 3) rfl (by assumption)) (by first | exact Rd.obj (k := 0) rfl rfl | exact Rd.obj (k := 1) rfl rfl | exact Rd.obj (k := 2) rfl rfl | exact Rd.obj (k := 3) rfl rfl | exact Rd.obj (k := 4) rfl rfl | exact Rd.imm (by assumption) | exact Rd.sl (k := 0) rfl (by assumption) | exact Rd.sl (k := 1) rfl (by assumption) | exact Rd.sl (k := 2) rfl (by assumption) | exact Rd.sl (k := 3) rfl (by assumption))) ?_
              refine PW.hv rfl rfl rfl rfl (Hv.callS hS rfl rfl rfl cb26 (refcost_c a (tapsM t) ⟨x.a.toNat, x.b.toNat⟩ _ _ _ _ hS.imm hs25 (tapsM_b hfine) (made_b a ham) (by simp only; omega))) (fun _ _ h => h.2.rd) fun v w160 ⟨hv, hS⟩ => ?_
              subst hv
              refine PW.ex rfl rfl rfl rfl (Ex.assign rfl) ?_
              refine PW.nil ?_
              refine LW.nil fun aa ha => hK32 _ _ _ ?_ aa ha
              refine CW.seq fun K33 hK33 => ?_
              refine CW.region [0, 1, 2, 3, 4, 5, 6, 7, 8, 9, 10, 11, 12, 13, 14, 15] rfl ?_
              refine LW.ex rfl rfl rfl rfl (Ex.move rfl) hS.rd ?_
              refine LW.splitB (fun h24_0 => ?_) (fun h24_0 => ?_)
              · skip
                refine LW.ex rfl rfl rfl rfl (Ex.not rfl rfl) hS.rd ?_
                refine LW.ex rfl rfl rfl rfl (Ex.move rfl) hS.rd ?_
                refine LW.skip rfl rfl rfl rfl ?_
                refine LW.skip rfl rfl rfl rfl ?_
                refine LW.ex rfl rfl rfl rfl (by first | exact Ex.pick_yes rfl rfl | exact Ex.pick_no rfl rfl) hS.rd ?_
                refine LW.ex rfl rfl rfl rfl (Ex.move rfl) hS.rd ?_
                refine LW.skip rfl rfl rfl rfl ?_
                refine LW.skip rfl rfl rfl rfl ?_
                refine LW.skip rfl rfl rfl rfl ?_
                refine LW.skip rfl rfl rfl rfl ?_
                refine LW.skip rfl rfl rfl rfl ?_
                refine LW.skip rfl rfl rfl rfl ?_
                refine LW.skip rfl rfl rfl rfl ?_
                refine LW.skip rfl rfl rfl rfl ?_
                refine LW.ex rfl rfl rfl rfl (by first | exact Ex.pick_yes rfl rfl | exact Ex.pick_no rfl rfl) hS.rd ?_
                refine LW.nil fun aa ha => hK33 _ _ _ ?_ aa ha
                refine CW.no rfl ?_
                refine CW.skip fun aa ha => hK25 _ _ _ ?_ aa ha
                refine CW.region [0, 1, 2] rfl ?_
                refine LW.ex rfl rfl rfl rfl (Ex.move rfl) hS.rd ?_
                refine LW.ex rfl rfl rfl rfl (Ex.add rfl rfl (by first | exact inc64 (by omega) | exact addN (by omega) | exact w64 (by omega) (by omega))) hS.rd ?_
                refine LW.ex rfl rfl rfl rfl (Ex.assign rfl) hS.rd ?_
                refine LW.nil fun aa ha => ?_
                refine ⟨_, _, ?m16, ⟨i + 1, (by first | omega | (simp; done) | (simp; omega)), rfl, rfl, hS⟩, ha.sub ⟨rfl, rfl, rfl, rfl, rfl, rfl, rfl, trivial⟩⟩
                case m16 => omega
              · skip
                refine LW.ex rfl rfl rfl rfl (Ex.not rfl rfl) hS.rd ?_
                refine LW.ex rfl rfl rfl rfl (Ex.move rfl) hS.rd ?_
                refine LW.ex rfl rfl rfl rfl (Ex.move rfl) hS.rd ?_
                refine LW.ex rfl rfl rfl rfl (Ex.leq rfl rfl rfl) hS.rd ?_
                refine LW.splitB (fun h24_4 => ?_) (fun h24_4 => ?_)
                · have h24_4 := of_decide_eq_true h24_4
                  have hcM : (⟨a.Key, costOf a (tapsM t) ⟨x.a.toNat, x.b.toNat⟩⟩ : Ch) ∈ M := by rw [hM, meant_mem]; exact ⟨a, ham, by omega, rfl⟩
                  have hcn : (⟨a.Key, costOf a (tapsM t) ⟨x.a.toNat, x.b.toNat⟩⟩ : Ch) ∉ few M := fun hin => by
                    rw [← hSf] at hin
                    obtain ⟨j, hj, hje⟩ := List.getElem_of_mem hin
                    exact hdt h24_0 j hj (by omega) (by rw [hje])
                  refine LW.ex rfl rfl rfl rfl (by first | exact Ex.pick_yes rfl rfl | exact Ex.pick_no rfl rfl) hS.rd ?_
                  refine LW.ex rfl rfl rfl rfl (Ex.move rfl) hS.rd ?_
                  refine LW.ex rfl rfl rfl rfl (Ex.move rfl) hS.rd ?_
                  refine LW.ex rfl rfl rfl rfl (Ex.lenSl rfl Try.underlying39 rfl) hS.rd ?_
                  refine LW.ex rfl rfl rfl rfl (Ex.lss rfl rfl rfl) hS.rd ?_
                  refine LW.splitB (fun h24_9 => ?_) (fun h24_9 => ?_)
                  · have h24_9 := of_decide_eq_true h24_9
                    have := few_full hMk hcM hcn
                    rw [hSf] at h24_9
                    omega
                  · have h24_9 := of_decide_eq_false h24_9
                    refine LW.ex rfl rfl rfl rfl (Ex.move rfl) hS.rd ?_
                    refine LW.ex rfl rfl rfl rfl (Ex.move rfl) hS.rd ?_
                    refine LW.ex rfl rfl rfl rfl (Ex.move rfl) hS.rd ?_
                    refine LW.ex rfl rfl rfl rfl (Ex.lss rfl rfl rfl) hS.rd ?_
                    refine LW.splitB (fun h24_13 => ?_) (fun h24_13 => ?_)
                    · have h24_13 := of_decide_eq_true h24_13
                      exfalso
                      have hn := cost_nonneg a (tapsM t) ⟨x.a.toNat, x.b.toNat⟩
                      rcases hw with hw | ⟨y, hy, hw⟩
                      · omega
                      · rw [hSf] at hy
                        have := few_cheap hMk hcM hcn hy
                        simp only at this
                        omega
                    · have h24_13 := of_decide_eq_false h24_13
                      refine LW.ex rfl rfl rfl rfl (by first | exact Ex.pick_yes rfl rfl | exact Ex.pick_no rfl rfl) hS.rd ?_
                      refine LW.ex rfl rfl rfl rfl (by first | exact Ex.pick_yes rfl rfl | exact Ex.pick_no rfl rfl) hS.rd ?_
                      refine LW.nil fun aa ha => hK33 _ _ _ ?_ aa ha
                      refine CW.no rfl ?_
                      refine CW.skip fun aa ha => hK25 _ _ _ ?_ aa ha
                      refine CW.region [0, 1, 2] rfl ?_
                      refine LW.ex rfl rfl rfl rfl (Ex.move rfl) hS.rd ?_
                      refine LW.ex rfl rfl rfl rfl (Ex.add rfl rfl (by first | exact inc64 (by omega) | exact addN (by omega) | exact w64 (by omega) (by omega))) hS.rd ?_
                      refine LW.ex rfl rfl rfl rfl (Ex.assign rfl) hS.rd ?_
                      refine LW.nil fun aa ha => ?_
                      refine ⟨_, _, ?m16, ⟨i + 1, (by first | omega | (simp; done) | (simp; omega)), rfl, rfl, hS⟩, ha.sub ⟨rfl, rfl, rfl, rfl, rfl, rfl, rfl, trivial⟩⟩
                      case m16 => omega
                · have h24_4 := of_decide_eq_false h24_4
                  refine LW.ex rfl rfl rfl rfl (by first | exact Ex.pick_yes rfl rfl | exact Ex.pick_no rfl rfl) hS.rd ?_
                  refine LW.ex rfl rfl rfl rfl (Ex.move rfl) hS.rd ?_
                  refine LW.skip rfl rfl rfl rfl ?_
                  refine LW.skip rfl rfl rfl rfl ?_
                  refine LW.skip rfl rfl rfl rfl ?_
                  refine LW.skip rfl rfl rfl rfl ?_
                  refine LW.skip rfl rfl rfl rfl ?_
                  refine LW.skip rfl rfl rfl rfl ?_
                  refine LW.skip rfl rfl rfl rfl ?_
                  refine LW.skip rfl rfl rfl rfl ?_
                  refine LW.ex rfl rfl rfl rfl (by first | exact Ex.pick_yes rfl rfl | exact Ex.pick_no rfl rfl) hS.rd ?_
                  refine LW.nil fun aa ha => hK33 _ _ _ ?_ aa ha
                  refine CW.no rfl ?_
                  refine CW.skip fun aa ha => hK25 _ _ _ ?_ aa ha
                  refine CW.region [0, 1, 2] rfl ?_
                  refine LW.ex rfl rfl rfl rfl (Ex.move rfl) hS.rd ?_
                  refine LW.ex rfl rfl rfl rfl (Ex.add rfl rfl (by first | exact inc64 (by omega) | exact addN (by omega) | exact w64 (by omega) (by omega))) hS.rd ?_
                  refine LW.ex rfl rfl rfl rfl (Ex.assign rfl) hS.rd ?_
                  refine LW.nil fun aa ha => ?_
                  refine ⟨_, _, ?m16, ⟨i + 1, (by first | omega | (simp; done) | (simp; omega)), rfl, rfl, hS⟩, ha.sub ⟨rfl, rfl, rfl, rfl, rfl, rfl, rfl, trivial⟩⟩
                  case m16 => omega
          · have h16_4 := of_decide_eq_false h16_4
            refine LW.nil fun aa ha => hK24 _ _ _ ?_ aa ha
            refine CW.no rfl ?_
            refine CW.exit fun aa ha => hK21 _ _ _ ?_ aa ha
            refine CW.seq fun K34 hK34 => ?_
            refine CW.region [0, 1] rfl ?_
            refine LW.ex rfl rfl rfl rfl (Ex.move rfl) hS.rd ?_
            refine LW.ex rfl rfl rfl rfl (Ex.assign rfl) hS.rd ?_
            refine LW.nil fun aa ha => hK34 _ _ _ ?_ aa ha
            refine CW.ret fun aa ha => ?_
            refine ret_one ha Try.results5 rfl ?_
            exact hS.retS
end Go.Proofs.Ytphgjongflkolaa

