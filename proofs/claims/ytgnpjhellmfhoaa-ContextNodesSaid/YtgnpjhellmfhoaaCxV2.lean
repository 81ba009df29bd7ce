/-
  Context: the walk of ContextNodes.
-/
import Derived.Test.YtgnpjhellmfhoaaCxP2
namespace Go.Proofs.Ytgnpjhellmfhoaa
open Go.RowKit Sy
theorem words_small2 (y : Raw) : ∀ s ∈ (madeM y).Words, s.size ≤ 9223372036854775807 := fun s hs => by
  have := ((madeM_words y).2.1 s hs).2; omega
theorem ends_small2 {x : Lat} (hx : okX x = true) : ∀ e ∈ x.Edges, -1099511627776 ≤ e.To ∧ e.To ≤ 1099511627776 := fun e he => by
  obtain ⟨h1, h2, _⟩ := okX_edges hx
  have := h2 e he; omega
set_option maxRecDepth 100000 in
set_option maxHeartbeats 4000000 in
theorem law2_c (l : List B4) (y : Raw) (q : B2) (adl r0 r1 r2 : Option Addr) (cl d0 d1 d2 : Nat) (μ : Mem) (w : World) (hμ : Imm μ w) (sl : Sl μ adl cl l) (h0 : Sl μ r0 d0 y.Words) (h1 : Sl μ r1 d1 y.Counts) (h2 : Sl μ r2 d2 y.Uses) :
    Calls Try.prog 4 #[.slice adl l.length cl, .agg #[.slice r0 y.Words.length d0, .slice r1 y.Counts.length d1, .slice r2 y.Uses.length d2, .int .u8 y.Back.toNat], b2V q] w (RetS w (.bool true)) := by
  obtain ⟨m, hm⟩ : ∃ m, m = madeM y := ⟨_, rfl⟩
  have hmok : MdlOk m := by rw [hm]; exact madeM_ok y
  have hmw : ∀ s ∈ m.Words, s.size ≤ 9223372036854775807 := by rw [hm]; exact words_small2 y
  obtain ⟨hW1, hW2, hW3, hW4⟩ := madeM_words y
  rw [← hm] at hW1 hW2 hW3 hW4
  obtain ⟨x, hx⟩ : ∃ x, x = madeX l q.a m.Words.length := ⟨_, rfl⟩
  obtain ⟨x1, x2, x3, x4, x5⟩ := madeX_ok l q.a (n := m.Words.length) (by omega) (by omega)
  rw [← hx] at x1 x2 x3 x4 x5
  have hsmall := ends_small2 x1
  have hqb := q.b.toNat_lt
  have hqm := Nat.mod_lt q.b.toNat (show 0 < m.Words.length + 1 by omega)
  obtain ⟨pv, hpv⟩ : ∃ pv : Int, pv = ((q.b.toNat % (m.Words.length + 1) : Nat) : Int) - 1 := ⟨_, rfl⟩
  have hpv2 : -1 ≤ pv ∧ pv < m.Words.length := by omega
  have hG := build_good hmok x1 x2 hpv2
  obtain ⟨B, hB⟩ : ∃ B, B = buildR x m pv := ⟨_, rfl⟩
  obtain ⟨L, hL⟩ : ∃ L, L = nodesL x m.Words.length pv := ⟨_, rfl⟩
  have hLn := nodesL_len x1 x2 pv
  rw [← hL] at hLn
  rw [← hB, ← hL] at hG
  obtain ⟨gE, gN, gL, gP, gF, gK, gW, gS⟩ := hG
  have hS := St.start w μ hμ
  refine calls_start 208 [.slice adl l.length cl, .agg #[.slice r0 y.Words.length d0, .slice r1 y.Counts.length d1, .slice r2 y.Uses.length d2, .int .u8 y.Back.toNat], b2V q] Try.func4 rfl Try.ntmps4 rfl rfl ?_
  refine CW.seq fun K1 hK1 => ?_
  refine CW.region [0, 1, 2] rfl ?_
  refine LW.hv rfl rfl rfl rfl (Hv.boxS hS rfl rfl) fun v w4 ⟨b4, hv, hb4, hS⟩ => ?_
  subst hv
  refine LW.hv rfl rfl rfl rfl (Hv.boxS hS rfl rfl) fun v w5 ⟨b5, hv, hb5, hS⟩ => ?_
  subst hv
  refine LW.ex rfl rfl rfl rfl (Ex.assign rfl) hS.rd ?_
  refine LW.nil fun aa ha => hK1 _ _ _ ?_ aa ha
  refine CW.seq fun K2 hK2 => ?_
  refine CW.region [0, 1] rfl ?_
  refine LW.hv rfl rfl rfl rfl (Hv.callS hS rfl rfl rfl cb9 (sanity_c _)) fun v w15 ⟨hv, hS⟩ => ?_
  subst hv
  refine LW.ex rfl rfl rfl rfl (Ex.assign rfl) hS.rd ?_
  refine LW.nil fun aa ha => hK2 _ _ _ ?_ aa ha
  refine CW.seq fun K3 hK3 => ?_
  refine CW.region [0, 1, 2, 3] rfl ?_
  refine LW.ex rfl rfl rfl rfl (Ex.load4c ti27 rfl rfl (by first | exact obT rfl | exact Rd.imm ‹_› | exact slT ‹_›) (by first | exact obT rfl | exact Rd.imm ‹_› | exact slT ‹_›) (by first | exact obT rfl | exact Rd.imm ‹_› | exact slT ‹_›) (by first | exact obT rfl | exact Rd.imm ‹_› | exact slT ‹_›)) hS.rd ?_
  refine LW.hv rfl rfl rfl rfl (Hv.callV hS rfl rfl rfl cb10 (madeM_c y _ _ _ _ _ _ μ _ hS.imm h0 h1 h2)) fun v w17 ⟨μ17, hv17, hm17, hS⟩ => ?_
  obtain ⟨a0, c0, a1, c1, a2, c2, hv, hm0, hm1, hm2⟩ := hv17
  subst hv
  rw [← hm] at hm0 hm1 hm2 ⊢
  have sl := sl.mono hm17
  refine LW.hv rfl rfl rfl rfl (Hv.alloc ti34 hS) fun v w8 ⟨b8, hv, hb8, hS⟩ => ?_
  subst hv
  refine LW.hu rfl rfl rfl (Hv.storeN (k := 0) ti34 hS rfl rfl rfl rfl (by simp [Value.oneCell'])) fun _ w_3 hS => ?_
  dsimp only [List.set] at hS
  refine LW.nil fun aa ha => hK3 _ _ _ ?_ aa ha
  refine CW.seq fun K4 hK4 => ?_
  have hJr3 : ∀ (wj : World) (b9 : Nat) (ax : Option Addr) (cx : Nat), St w wj μ17 [Own.sl ax x.Edges.length cx 43 4 (x.Edges.flatMap edgeL), Own.obj b9 [.int .i64 x.N, .slice ax x.Edges.length cx] 38, Own.obj b8 [.slice a0 m.Words.length c0, .slice a1 m.Counts.length c1, .slice a2 m.Pairs.length c2, .int .i64 m.Back] 34, Own.obj b5 (b2L q) 62, Own.obj b4 [.slice r0 y.Words.length d0, .slice r1 y.Counts.length d1, .slice r2 y.Uses.length d2, .int .u8 y.Back.toNat] 27] → KW K4 208 [(7, .bool true), (8, .pointer (some ⟨b8, 0, none⟩)), (9, .pointer (some ⟨b9, 0, none⟩)), (10, .int .i64 pv)] wj := by
    intro wj b9 ax cx hS 
    refine hK4 _ _ _ ?_
    refine CW.seq fun K5 hK5 => ?_
    obtain ⟨bs, μ2, hm22, hS, hφ⟩ := hS.shut 0 rfl
    dsimp only [List.eraseIdx] at hS
    have hx2 : Sl μ2 ax cx x.Edges := Sl.of_own hφ (edgeReps _ _) rfl
    have hm0 := hm0.mono hm22
    have hm1 := hm1.mono hm22
    have hm2 := hm2.mono hm22
    refine CW.region [0, 1, 2, 3, 4, 5] rfl ?_
    refine LW.ex rfl rfl rfl rfl (Ex.load2c ti38 rfl rfl (by first | exact obT rfl | exact Rd.imm ‹_› | exact slT ‹_›) (by first | exact obT rfl | exact Rd.imm ‹_› | exact slT ‹_›)) hS.rd ?_
    refine LW.ex rfl rfl rfl rfl (Ex.load4c ti34 rfl rfl (by first | exact obT rfl | exact Rd.imm ‹_› | exact slT ‹_›) (by first | exact obT rfl | exact Rd.imm ‹_› | exact slT ‹_›) (by first | exact obT rfl | exact Rd.imm ‹_› | exact slT ‹_›) (by first | exact obT rfl | exact Rd.imm ‹_› | exact slT ‹_›)) hS.rd ?_
    refine LW.ex rfl rfl rfl rfl (Ex.move rfl) hS.rd ?_
    refine LW.hv rfl rfl rfl rfl (Hv.callV hS rfl rfl rfl cb13 (lbuild_c x m pv hmw hsmall (by omega) _ _ _ _ _ _ _ _ _ _ hS.imm hx2 hm0 hm1 hm2)) fun v w37 ⟨μ37, hv37, hm37, hS⟩ => ?_
    obtain ⟨p0, q0, p1, q1, hv, hs0, hs1⟩ := hv37
    subst hv
    rw [← hB] at hs0 hs1 ⊢
    have hx2 := hx2.mono hm37
    refine LW.hv rfl rfl rfl rfl (Hv.alloc ti49 hS) fun v w11 ⟨b11, hv, hb11, hS⟩ => ?_
    subst hv
    refine LW.hu rfl rfl rfl (Hv.storeN (k := 0) ti49 hS rfl rfl rfl rfl (by simp [Value.oneCell'])) fun _ w_5 hS => ?_
    dsimp only [List.set] at hS
    refine LW.nil fun aa ha => hK5 _ _ _ ?_ aa ha
    refine CW.seq fun K6 hK6 => ?_
    refine CW.seq fun K7 hK7 => ?_
    have hSl := hS
    obtain ⟨bt, ot, rfl, kt⟩ := hs1.at gP
    have hS := hSl
    rw [gF] at kt
    have hBL := hs0.1
    have hBL2 := hs0.2.1
    simp only [maxLen] at hBL2
    have hS := hS.drew
    refine CW.draw 39 (.ex 0 <| .ex 1 <| .ex 2 <| .ex 3 <| .ex 4 <| .ex 5 <| .ex 6 <| .ex 7 <| .ex 8 <| .ex 9 <| .ex 10 <| .ex 11 <| .ex 12 <| .ex 13 <| .ex 14 <| .ex 15 <| .ex 16 <| .ex 17 <| .ex 18 <| .ex 19 <| .ex 20 <| .ex 21 <| .ex 22 <| .ex 23 <| .ex 24 <| .ex 25 <| .ex 26 <| .one 27 <| .ex 28 <| .ex 29 <| .ex 30 <| .ex 31 <| .ex 32 <| .ex 33 <| .ex 34 <| .ex 35 <| .ex 36 <| .ex 37 <| .ex 38 <| .done) [] (Rd _ _) mixed (by kernel_rfl) rfl rfl hS.rd ?_
    refine PW.ex rfl rfl rfl rfl (Ex.fieldO 3 Try.underlying49 rfl rfl ti47 rfl) ?_
    refine PW.ex rfl rfl rfl rfl (Ex.load1 ti47 rfl rfl (by first | exact obT rfl | exact Rd.imm ‹_› | exact slT ‹_›)) ?_
    refine PW.ex rfl rfl rfl rfl (Ex.neq rfl rfl rfl) ?_
    refine PW.splitB (fun h5_2 => ?_) (fun h5_2 => ?_)
    · have h5_2 := of_decide_eq_true h5_2
      omega
    · have h5_2 := of_decide_eq_false h5_2
      refine PW.ex rfl rfl rfl rfl (Ex.move rfl) ?_
      refine PW.ex rfl rfl rfl rfl (Ex.fieldO 2 Try.underlying49 rfl rfl ti31 rfl) ?_
      refine PW.ex rfl rfl rfl rfl (Ex.load1 ti31 rfl rfl (by first | exact obT rfl | exact Rd.imm ‹_› | exact slT ‹_›)) ?_
      refine PW.ex rfl rfl rfl rfl (Ex.lenSl rfl Try.underlying31 rfl) ?_
      refine PW.ex rfl rfl rfl rfl (Ex.eql rfl rfl rfl) ?_
      refine PW.splitB (fun h5_7 => ?_) (fun h5_7 => ?_)
      · have h5_7 := of_decide_eq_true h5_7
        omega
      · have h5_7 := of_decide_eq_false h5_7
        refine PW.ex rfl rfl rfl rfl (by first | exact Ex.pick_yes rfl rfl | exact Ex.pick_no rfl rfl) ?_
        refine PW.ex rfl rfl rfl rfl (Ex.move rfl) ?_
        refine PW.ex rfl rfl rfl rfl (Ex.fieldO 0 Try.underlying49 rfl rfl ti46 rfl) ?_
        refine PW.ex rfl rfl rfl rfl (Ex.fieldO 0 Try.underlying46 rfl rfl ti3 rfl) ?_
        refine PW.ex rfl rfl rfl rfl (Ex.load1 ti3 rfl rfl (by first | exact obT rfl | exact Rd.imm ‹_› | exact slT ‹_›)) ?_
        refine PW.ex rfl rfl rfl rfl (Ex.fieldO 2 Try.underlying49 rfl rfl ti31 rfl) ?_
        refine PW.ex rfl rfl rfl rfl (Ex.load1 ti31 rfl rfl (by first | exact obT rfl | exact Rd.imm ‹_› | exact slT ‹_›)) ?_
        refine PW.ex rfl rfl rfl rfl (Ex.lenSl rfl Try.underlying31 rfl) ?_
        refine PW.ex rfl rfl rfl rfl (Ex.neq rfl rfl rfl) ?_
        refine PW.splitB (fun h5_16 => ?_) (fun h5_16 => ?_)
        · have h5_16 := of_decide_eq_true h5_16
          omega
        · have h5_16 := of_decide_eq_false h5_16
          refine PW.ex rfl rfl rfl rfl (by first | exact Ex.pick_yes rfl rfl | exact Ex.pick_no rfl rfl) ?_
          refine PW.ex rfl rfl rfl rfl (Ex.move rfl) ?_
          refine PW.ex rfl rfl rfl rfl (Ex.fieldO 0 Try.underlying49 rfl rfl ti46 rfl) ?_
          refine PW.ex rfl rfl rfl rfl (Ex.fieldO 0 Try.underlying46 rfl rfl ti3 rfl) ?_
          refine PW.ex rfl rfl rfl rfl (Ex.load1 ti3 rfl rfl (by first | exact obT rfl | exact Rd.imm ‹_› | exact slT ‹_›)) ?_
          refine PW.ex rfl rfl rfl rfl (Ex.load2c ti38 rfl rfl (by first | exact obT rfl | exact Rd.imm ‹_› | exact slT ‹_›) (by first | exact obT rfl | exact Rd.imm ‹_› | exact slT ‹_›)) ?_
          refine PW.ex rfl rfl rfl rfl (Ex.fieldO 0 Try.underlying34 rfl rfl ti30 rfl) ?_
          refine PW.ex rfl rfl rfl rfl (Ex.load1 ti30 rfl rfl (by first | exact obT rfl | exact Rd.imm ‹_› | exact slT ‹_›)) ?_
          refine PW.ex rfl rfl rfl rfl (Ex.lenSl rfl Try.underlying30 rfl) ?_
          refine PW.ex rfl rfl rfl rfl (Ex.move rfl) ?_
          refine PW.hv rfl rfl rfl rfl (Hv.callV hS rfl rfl rfl cb21 (rnodes_c x m.Words.length pv (by omega) (by omega) _ _ _ _ hS.imm hx2)) (fun _ _ ⟨_, _, hm, h⟩ => Rd.le hm h.rd) fun v w65 ⟨μ65, hv65, hm65, hS⟩ => ?_
          obtain ⟨p3, q3, hv, hs3⟩ := hv65
          subst hv
          rw [← hL]
          have hx2 := hx2.mono hm65
          have hs0 := hs0.mono hm65
          have hs1 := hs1.mono hm65
          obtain ⟨_, _, e1, kt⟩ := hs1.at gP
          cases e1
          rw [gF] at kt
          refine PW.ex rfl rfl rfl rfl (Ex.lenSl rfl Try.underlying63 rfl) ?_
          refine PW.ex rfl rfl rfl rfl (Ex.neq rfl rfl rfl) ?_
          refine PW.splitB (fun h5_29 => ?_) (fun h5_29 => ?_)
          · have h5_29 := of_decide_eq_true h5_29
            omega
          · have h5_29 := of_decide_eq_false h5_29
            refine PW.ex rfl rfl rfl rfl (by first | exact Ex.pick_yes rfl rfl | exact Ex.pick_no rfl rfl) ?_
            refine PW.ex rfl rfl rfl rfl (Ex.move rfl) ?_
            refine PW.ex rfl rfl rfl rfl (Ex.fieldO 2 Try.underlying49 rfl rfl ti31 rfl) ?_
            refine PW.ex rfl rfl rfl rfl (Ex.load1 ti31 rfl rfl (by first | exact obT rfl | exact Rd.imm ‹_› | exact slT ‹_›)) ?_
            refine PW.ex rfl rfl rfl rfl (Ex.indexSl (j := 0) Try.underlying31 ti3 rfl rfl rfl (by omega)) ?_
            refine PW.ex rfl rfl rfl rfl (Ex.load1 ti3 rfl rfl (by first | exact obT rfl | exact Rd.imm ‹_› | exact slT ‹_›)) ?_
            refine PW.ex rfl rfl rfl rfl (Ex.move rfl) ?_
            refine PW.ex rfl rfl rfl rfl (Ex.neq rfl rfl rfl) ?_
            refine PW.splitB (fun h5_37 => ?_) (fun h5_37 => ?_)
            · have h5_37 := of_decide_eq_true h5_37
              omega
            · have h5_37 := of_decide_eq_false h5_37
              refine PW.ex rfl rfl rfl rfl (by first | exact Ex.pick_yes rfl rfl | exact Ex.pick_no rfl rfl) ?_
              refine PW.nil ?_
              refine LW.nil fun aa ha => hK7 _ _ _ ?_ aa ha
              refine CW.no rfl ?_
              refine CW.skip fun aa ha => hK6 _ _ _ ?_ aa ha
              refine CW.seq fun K8 hK8 => ?_
              refine CW.seq fun K9 hK9 => ?_
              refine CW.region [0] rfl ?_
              refine LW.ex rfl rfl rfl rfl (Ex.assign rfl) hS.rd ?_
              refine LW.nil fun aa ha => hK9 _ _ _ ?_ aa ha
              refine CW.block ?_
              refine CW.loop (fun qq frm wl8 => ∃ (j : Nat), j ≤ B.G.Links.length ∧ qq = B.G.Links.length - j ∧ frm = [(7, .bool true), (9, .pointer (some ⟨b9, 0, none⟩)), (11, .pointer (some ⟨b11, 0, none⟩)), (12, .int .i64 j)] ∧ St w wl8 μ65 [Own.obj b11 [.int .i64 B.G.N, .slice p0 B.G.Links.length q0, .slice (some ⟨bt, ot, none⟩) B.Last.length q1, .int .i64 B.E] 49, Own.obj b9 [.int .i64 x.N, .slice ax x.Edges.length cx] 38, Own.obj b8 [.slice a0 m.Words.length c0, .slice a1 m.Counts.length c1, .slice a2 m.Pairs.length c2, .int .i64 m.Back] 34, Own.obj b5 (b2L q) 62, Own.obj b4 [.slice r0 y.Words.length d0, .slice r1 y.Counts.length d1, .slice r2 y.Uses.length d2, .int .u8 y.Back.toNat] 27]) _ ⟨0, (by first | omega | (simp; done) | (simp; omega)), rfl, rfl, hS⟩ ⟨rfl, rfl, rfl, rfl, trivial⟩ ?_
              clear hS
              rintro qq frm wl8 ⟨j, hj, hq, rfl, hS⟩
              refine CW.seq fun K10 hK10 => ?_
              refine CW.seq fun K11 hK11 => ?_
              refine CW.region [0, 1, 2, 3, 4, 5] rfl ?_
              refine LW.ex rfl rfl rfl rfl (Ex.move rfl) hS.rd ?_
              refine LW.ex rfl rfl rfl rfl (Ex.fieldO 0 Try.underlying49 rfl rfl ti46 rfl) hS.rd ?_
              refine LW.ex rfl rfl rfl rfl (Ex.fieldO 1 Try.underlying46 rfl rfl ti44 rfl) hS.rd ?_
              refine LW.ex rfl rfl rfl rfl (Ex.load1 ti44 rfl rfl (by first | exact obT rfl | exact Rd.imm ‹_› | exact slT ‹_›)) hS.rd ?_
              refine LW.ex rfl rfl rfl rfl (Ex.lenSl rfl Try.underlying44 rfl) hS.rd ?_
              refine LW.ex rfl rfl rfl rfl (Ex.lss rfl rfl rfl) hS.rd ?_
              refine LW.splitB (fun h8_5 => ?_) (fun h8_5 => ?_)
              · have h8_5 := of_decide_eq_true h8_5
                refine LW.nil fun aa ha => hK11 _ _ _ ?_ aa ha
                refine CW.yes rfl ?_
                refine CW.skip fun aa ha => hK10 _ _ _ ?_ aa ha
                refine CW.seq fun K12 hK12 => ?_
                refine CW.block ?_
                refine CW.seq fun K13 hK13 => ?_
                have hSl := hS
                have hj2 : j < B.G.Links.length := by omega
                obtain ⟨bl, ol, rfl, k0, k1, k2, k3⟩ := hs0.at hj2
                have hS := hSl
                obtain ⟨k, hk⟩ : ∃ k, k = B.G.Links[j] := ⟨_, rfl⟩
                rw [← hk] at k0 k1 k2 k3
                obtain ⟨e, f0, ft, tl, l0, l1, he, hc, hl, hw⟩ := gK k (by rw [hk]; exact List.getElem_mem hj2)
                obtain ⟨F, T, i, C⟩ := k
                simp only at k0 k1 k2 k3 f0 ft tl l0 l1 he hc hl hw
                obtain ⟨F, rfl⟩ : ∃ F' : Nat, F = F' := ⟨F.toNat, by omega⟩
                obtain ⟨T, rfl⟩ : ∃ F' : Nat, T = F' := ⟨T.toNat, by omega⟩
                obtain ⟨i, rfl⟩ : ∃ F' : Nat, i = F' := ⟨i.toNat, by omega⟩
                simp only [Int.toNat_natCast] at he hw
                refine CW.region [0, 1, 2, 3, 4, 5, 6, 7] rfl ?_
                refine LW.ex rfl rfl rfl rfl (Ex.fieldO 0 Try.underlying49 rfl rfl ti46 rfl) hS.rd ?_
                refine LW.ex rfl rfl rfl rfl (Ex.fieldO 1 Try.underlying46 rfl rfl ti44 rfl) hS.rd ?_
                refine LW.ex rfl rfl rfl rfl (Ex.load1 ti44 rfl rfl (by first | exact obT rfl | exact Rd.imm ‹_› | exact slT ‹_›)) hS.rd ?_
                refine LW.ex rfl rfl rfl rfl (Ex.move rfl) hS.rd ?_
                refine LW.ex rfl rfl rfl rfl (Ex.indexSl Try.underlying44 ti66 rfl rfl rfl (by omega)) hS.rd ?_
                refine LW.ex rfl rfl rfl rfl (Ex.load4c ti66 rfl rfl (by first | exact obT rfl | exact Rd.imm ‹_› | exact slT ‹_›) (by first | exact obT rfl | exact Rd.imm ‹_› | exact slT ‹_›) (by first | exact obT rfl | exact Rd.imm ‹_› | exact slT ‹_›) (by first | exact obT rfl | exact Rd.imm ‹_› | exact slT ‹_›)) hS.rd ?_
                refine LW.hv rfl rfl rfl rfl (Hv.alloc ti66 hS) fun v w13 ⟨b13, hv, hb13, hS⟩ => ?_
                subst hv
                refine LW.hu rfl rfl rfl (Hv.storeN (k := 0) ti66 hS rfl rfl rfl rfl (by simp [Value.oneCell'])) fun _ w_7 hS => ?_
                dsimp only [List.set] at hS
                refine LW.nil fun aa ha => hK13 _ _ _ ?_ aa ha
                refine CW.seq fun K14 hK14 => ?_
                refine CW.seq fun K15 hK15 => ?_
                refine CW.region [0, 1, 2, 3, 4, 5, 6, 7, 8, 9, 10, 11, 12, 13, 14, 15, 16, 17, 18, 19, 20, 21, 22, 23, 24, 25, 26, 27, 28, 29, 30] rfl ?_
                refine LW.ex rfl rfl rfl rfl (Ex.fieldO 0 Try.underlying66 rfl rfl ti3 rfl) hS.rd ?_
                refine LW.ex rfl rfl rfl rfl (Ex.load1 ti3 rfl rfl (by first | exact obT rfl | exact Rd.imm ‹_› | exact slT ‹_›)) hS.rd ?_
                refine LW.ex rfl rfl rfl rfl (Ex.lss rfl rfl rfl) hS.rd ?_
                refine LW.splitB (fun h11_2 => ?_) (fun h11_2 => ?_)
                · have h11_2 := of_decide_eq_true h11_2
                  omega
                · have h11_2 := of_decide_eq_false h11_2
                  refine LW.ex rfl rfl rfl rfl (Ex.move rfl) hS.rd ?_
                  refine LW.ex rfl rfl rfl rfl (Ex.fieldO 0 Try.underlying66 rfl rfl ti3 rfl) hS.rd ?_
                  refine LW.ex rfl rfl rfl rfl (Ex.load1 ti3 rfl rfl (by first | exact obT rfl | exact Rd.imm ‹_› | exact slT ‹_›)) hS.rd ?_
                  refine LW.ex rfl rfl rfl rfl (Ex.fieldO 1 Try.underlying66 rfl rfl ti3 rfl) hS.rd ?_
                  refine LW.ex rfl rfl rfl rfl (Ex.load1 ti3 rfl rfl (by first | exact obT rfl | exact Rd.imm ‹_› | exact slT ‹_›)) hS.rd ?_
                  refine LW.ex rfl rfl rfl rfl (Ex.geq rfl rfl rfl) hS.rd ?_
                  refine LW.splitB (fun h11_8 => ?_) (fun h11_8 => ?_)
                  · have h11_8 := of_decide_eq_true h11_8
                    omega
                  · have h11_8 := of_decide_eq_false h11_8
                    refine LW.ex rfl rfl rfl rfl (by first | exact Ex.pick_yes rfl rfl | exact Ex.pick_no rfl rfl) hS.rd ?_
                    refine LW.ex rfl rfl rfl rfl (Ex.move rfl) hS.rd ?_
                    refine LW.ex rfl rfl rfl rfl (Ex.fieldO 1 Try.underlying66 rfl rfl ti3 rfl) hS.rd ?_
                    refine LW.ex rfl rfl rfl rfl (Ex.load1 ti3 rfl rfl (by first | exact obT rfl | exact Rd.imm ‹_› | exact slT ‹_›)) hS.rd ?_
                    refine LW.ex rfl rfl rfl rfl (Ex.fieldO 0 Try.underlying49 rfl rfl ti46 rfl) hS.rd ?_
                    refine LW.ex rfl rfl rfl rfl (Ex.fieldO 0 Try.underlying46 rfl rfl ti3 rfl) hS.rd ?_
                    refine LW.ex rfl rfl rfl rfl (Ex.load1 ti3 rfl rfl (by first | exact obT rfl | exact Rd.imm ‹_› | exact slT ‹_›)) hS.rd ?_
                    refine LW.ex rfl rfl rfl rfl (Ex.geq rfl rfl rfl) hS.rd ?_
                    refine LW.splitB (fun h11_16 => ?_) (fun h11_16 => ?_)
                    · have h11_16 := of_decide_eq_true h11_16
                      omega
                    · have h11_16 := of_decide_eq_false h11_16
                      refine LW.ex rfl rfl rfl rfl (by first | exact Ex.pick_yes rfl rfl | exact Ex.pick_no rfl rfl) hS.rd ?_
                      refine LW.ex rfl rfl rfl rfl (Ex.move rfl) hS.rd ?_
                      refine LW.ex rfl rfl rfl rfl (Ex.fieldO 2 Try.underlying66 rfl rfl ti3 rfl) hS.rd ?_
                      refine LW.ex rfl rfl rfl rfl (Ex.load1 ti3 rfl rfl (by first | exact obT rfl | exact Rd.imm ‹_› | exact slT ‹_›)) hS.rd ?_
                      refine LW.ex rfl rfl rfl rfl (Ex.lss rfl rfl rfl) hS.rd ?_
                      refine LW.splitB (fun h11_21 => ?_) (fun h11_21 => ?_)
                      · have h11_21 := of_decide_eq_true h11_21
                        omega
                      · have h11_21 := of_decide_eq_false h11_21
                        refine LW.ex rfl rfl rfl rfl (by first | exact Ex.pick_yes rfl rfl | exact Ex.pick_no rfl rfl) hS.rd ?_
                        refine LW.ex rfl rfl rfl rfl (Ex.move rfl) hS.rd ?_
                        refine LW.ex rfl rfl rfl rfl (Ex.fieldO 2 Try.underlying66 rfl rfl ti3 rfl) hS.rd ?_
                        refine LW.ex rfl rfl rfl rfl (Ex.load1 ti3 rfl rfl (by first | exact obT rfl | exact Rd.imm ‹_› | exact slT ‹_›)) hS.rd ?_
                        refine LW.ex rfl rfl rfl rfl (Ex.fieldO 1 Try.underlying38 rfl rfl ti36 rfl) hS.rd ?_
                        refine LW.ex rfl rfl rfl rfl (Ex.load1 ti36 rfl rfl (by first | exact obT rfl | exact Rd.imm ‹_› | exact slT ‹_›)) hS.rd ?_
                        refine LW.ex rfl rfl rfl rfl (Ex.lenSl rfl Try.underlying36 rfl) hS.rd ?_
                        refine LW.ex rfl rfl rfl rfl (Ex.geq rfl rfl rfl) hS.rd ?_
                        refine LW.splitB (fun h11_29 => ?_) (fun h11_29 => ?_)
                        · have h11_29 := of_decide_eq_true h11_29
                          omega
                        · have h11_29 := of_decide_eq_false h11_29
                          refine LW.ex rfl rfl rfl rfl (by first | exact Ex.pick_yes rfl rfl | exact Ex.pick_no rfl rfl) hS.rd ?_
                          refine LW.nil fun aa ha => hK15 _ _ _ ?_ aa ha
                          refine CW.no rfl ?_
                          refine CW.skip fun aa ha => hK14 _ _ _ ?_ aa ha
                          refine CW.seq fun K16 hK16 => ?_
                          have hSl := hS
                          have hil : i < x.Edges.length := by omega
                          obtain ⟨be, oe, rfl, e0, e1, e2, e3⟩ := hx2.at hil
                          have hS := hSl
                          rw [edAt_of hil] at he
                          rw [← he] at e0 e1 e2 e3
                          refine CW.region [0, 1, 2, 3, 4, 5, 6, 7] rfl ?_
                          refine LW.ex rfl rfl rfl rfl (Ex.fieldO 1 Try.underlying38 rfl rfl ti36 rfl) hS.rd ?_
                          refine LW.ex rfl rfl rfl rfl (Ex.load1 ti36 rfl rfl (by first | exact obT rfl | exact Rd.imm ‹_› | exact slT ‹_›)) hS.rd ?_
                          refine LW.ex rfl rfl rfl rfl (Ex.fieldO 2 Try.underlying66 rfl rfl ti3 rfl) hS.rd ?_
                          refine LW.ex rfl rfl rfl rfl (Ex.load1 ti3 rfl rfl (by first | exact obT rfl | exact Rd.imm ‹_› | exact slT ‹_›)) hS.rd ?_
                          refine LW.ex rfl rfl rfl rfl (Ex.indexSl Try.underlying36 ti43 rfl rfl rfl (by omega)) hS.rd ?_
                          refine LW.ex rfl rfl rfl rfl (Ex.load4c ti43 rfl rfl (by first | exact obT rfl | exact Rd.imm ‹_› | exact slT ‹_›) (by first | exact obT rfl | exact Rd.imm ‹_› | exact slT ‹_›) (by first | exact obT rfl | exact Rd.imm ‹_› | exact slT ‹_›) (by first | exact obT rfl | exact Rd.imm ‹_› | exact slT ‹_›)) hS.rd ?_
                          refine LW.hv rfl rfl rfl rfl (Hv.alloc ti43 hS) fun v w14 ⟨b14, hv, hb14, hS⟩ => ?_
                          subst hv
                          refine LW.hu rfl rfl rfl (Hv.storeN (k := 0) ti43 hS rfl rfl rfl rfl (by simp [Value.oneCell'])) fun _ w_7 hS => ?_
                          dsimp only [List.set] at hS
                          refine LW.nil fun aa ha => hK16 _ _ _ ?_ aa ha
                          refine CW.seq fun K17 hK17 => ?_
                          refine CW.seq fun K18 hK18 => ?_
                          have hS := hS.drew
                          refine CW.draw 38 (.ex 0 <| .ex 1 <| .ex 2 <| .ex 3 <| .ex 4 <| .ex 5 <| .ex 6 <| .ex 7 <| .ex 8 <| .ex 9 <| .ex 10 <| .ex 11 <| .ex 12 <| .ex 13 <| .ex 14 <| .ex 15 <| .ex 16 <| .ex 17 <| .ex 18 <| .ex 19 <| .ex 20 <| .ex 21 <| .ex 22 <| .ex 23 <| .ex 24 <| .ex 25 <| .ex 26 <| .ex 27 <| .ex 28 <| .ex 29 <| .ex 30 <| .ex 31 <| .ex 32 <| .ex 33 <| .ex 34 <| .ex 35 <| .ex 36 <| .ex 37 <| .done) [] (Rd _ _) mixed (by kernel_rfl) rfl rfl hS.rd ?_
                          refine PW.ex rfl rfl rfl rfl (Ex.fieldO 3 Try.underlying66 rfl rfl ti3 rfl) ?_
                          refine PW.ex rfl rfl rfl rfl (Ex.load1 ti3 rfl rfl (by first | exact obT rfl | exact Rd.imm ‹_› | exact slT ‹_›)) ?_
                          refine PW.ex rfl rfl rfl rfl (Ex.fieldO 3 Try.underlying43 rfl rfl ti3 rfl) ?_
                          refine PW.ex rfl rfl rfl rfl (Ex.load1 ti3 rfl rfl (by first | exact obT rfl | exact Rd.imm ‹_› | exact slT ‹_›)) ?_
                          refine PW.ex rfl rfl rfl rfl (Ex.lss rfl rfl rfl) ?_
                          refine PW.splitB (fun h14_4 => ?_) (fun h14_4 => ?_)
                          · have h14_4 := of_decide_eq_true h14_4
                            omega
                          · have h14_4 := of_decide_eq_false h14_4
                            refine PW.ex rfl rfl rfl rfl (Ex.move rfl) ?_
                            refine PW.ex rfl rfl rfl rfl (Ex.fieldO 1 Try.underlying43 rfl rfl ti3 rfl) ?_
                            refine PW.ex rfl rfl rfl rfl (Ex.load1 ti3 rfl rfl (by first | exact obT rfl | exact Rd.imm ‹_› | exact slT ‹_›)) ?_
                            refine PW.ex rfl rfl rfl rfl (Ex.fieldO 0 Try.underlying38 rfl rfl ti3 rfl) ?_
                            refine PW.ex rfl rfl rfl rfl (Ex.load1 ti3 rfl rfl (by first | exact obT rfl | exact Rd.imm ‹_› | exact slT ‹_›)) ?_
                            refine PW.ex rfl rfl rfl rfl (Ex.eql rfl rfl (by first | exact decide_eq_true (by omega) | exact decide_eq_false (by omega) | rfl)) ?_
                            refine PW.ex rfl rfl rfl rfl (Ex.fieldO 1 Try.underlying66 rfl rfl ti3 rfl) ?_
                            refine PW.ex rfl rfl rfl rfl (Ex.load1 ti3 rfl rfl (by first | exact obT rfl | exact Rd.imm ‹_› | exact slT ‹_›)) ?_
                            refine PW.ex rfl rfl rfl rfl (Ex.fieldO 0 Try.underlying49 rfl rfl ti46 rfl) ?_
                            refine PW.ex rfl rfl rfl rfl (Ex.fieldO 0 Try.underlying46 rfl rfl ti3 rfl) ?_
                            refine PW.ex rfl rfl rfl rfl (Ex.load1 ti3 rfl rfl (by first | exact obT rfl | exact Rd.imm ‹_› | exact slT ‹_›)) ?_
                            refine PW.ex rfl rfl rfl rfl (Ex.sub rfl rfl (w64 (by omega) (by omega))) ?_
                            refine PW.ex rfl rfl rfl rfl (Ex.eql rfl rfl (by first | exact decide_eq_true (by omega) | exact decide_eq_false (by omega) | rfl)) ?_
                            refine PW.ex rfl rfl rfl rfl (Ex.neqB Try.underlying4 rfl rfl rfl) ?_
                            refine PW.splitB (fun h14_18 => ?_) (fun h14_18 => ?_)
                            · have hl2 : e.To = x.N ↔ (T : Int) = B.G.N - 1 := ⟨fun h => by have := hl.1 h; omega, fun h => hl.2 (by omega)⟩
                              have hde : decide (e.To = x.N) = decide ((T : Int) = B.G.N - 1) := decide_eq_decide.2 hl2
                              rw [hde] at h14_18
                              simp at h14_18
                            · skip
                              refine PW.ex rfl rfl rfl rfl (by first | exact Ex.pick_yes rfl rfl | exact Ex.pick_no rfl rfl) ?_
                              refine PW.ex rfl rfl rfl rfl (Ex.move rfl) ?_
                              refine PW.ex rfl rfl rfl rfl (Ex.fieldO 1 Try.underlying43 rfl rfl ti3 rfl) ?_
                              refine PW.ex rfl rfl rfl rfl (Ex.load1 ti3 rfl rfl (by first | exact obT rfl | exact Rd.imm ‹_› | exact slT ‹_›)) ?_
                              refine PW.ex rfl rfl rfl rfl (Ex.fieldO 0 Try.underlying38 rfl rfl ti3 rfl) ?_
                              refine PW.ex rfl rfl rfl rfl (Ex.load1 ti3 rfl rfl (by first | exact obT rfl | exact Rd.imm ‹_› | exact slT ‹_›)) ?_
                              refine PW.ex rfl rfl rfl rfl (Ex.lss rfl rfl rfl) ?_
                              refine PW.splitB (fun h14_25 => ?_) (fun h14_25 => ?_)
                              · have h14_25 := of_decide_eq_true h14_25
                                have hTl : T < B.Last.length := by omega
                                obtain ⟨_, _, ee, ktt⟩ := hs1.at hTl
                                cases ee
                                have hww := hw h14_25
                                rw [← gW, List.getElem?_eq_getElem hTl] at hww
                                rw [Option.some.inj hww] at ktt
                                refine PW.ex rfl rfl rfl rfl (Ex.move rfl) ?_
                                refine PW.ex rfl rfl rfl rfl (Ex.fieldO 2 Try.underlying49 rfl rfl ti31 rfl) ?_
                                refine PW.ex rfl rfl rfl rfl (Ex.load1 ti31 rfl rfl (by first | exact obT rfl | exact Rd.imm ‹_› | exact slT ‹_›)) ?_
                                refine PW.ex rfl rfl rfl rfl (Ex.fieldO 1 Try.underlying66 rfl rfl ti3 rfl) ?_
                                refine PW.ex rfl rfl rfl rfl (Ex.load1 ti3 rfl rfl (by first | exact obT rfl | exact Rd.imm ‹_› | exact slT ‹_›)) ?_
                                refine PW.ex rfl rfl rfl rfl (Ex.indexSl Try.underlying31 ti3 rfl rfl rfl (by omega)) ?_
                                refine PW.ex rfl rfl rfl rfl (Ex.load1 ti3 rfl rfl (by first | exact obT rfl | exact Rd.imm ‹_› | exact slT ‹_›)) ?_
                                refine PW.ex rfl rfl rfl rfl (Ex.fieldO 2 Try.underlying43 rfl rfl ti3 rfl) ?_
                                refine PW.ex rfl rfl rfl rfl (Ex.load1 ti3 rfl rfl (by first | exact obT rfl | exact Rd.imm ‹_› | exact slT ‹_›)) ?_
                                refine PW.ex rfl rfl rfl rfl (Ex.neq rfl rfl rfl) ?_
                                refine PW.splitB (fun h14_35 => ?_) (fun h14_35 => ?_)
                                · have h14_35 := of_decide_eq_true h14_35
                                  exact absurd rfl h14_35
                                · have h14_35 := of_decide_eq_false h14_35
                                  refine PW.ex rfl rfl rfl rfl (by first | exact Ex.pick_yes rfl rfl | exact Ex.pick_no rfl rfl) ?_
                                  refine PW.ex rfl rfl rfl rfl (by first | exact Ex.pick_yes rfl rfl | exact Ex.pick_no rfl rfl) ?_
                                  refine PW.nil ?_
                                  refine LW.nil fun aa ha => hK18 _ _ _ ?_ aa ha
                                  refine CW.no rfl ?_
                                  refine CW.skip fun aa ha => hK17 _ _ _ ?_ aa ha
                                  refine CW.seq fun K19 hK19 => ?_
                                  have hS := hS.drew
                                  refine CW.draw 41 (.ex 0 <| .ex 1 <| .ex 2 <| .ex 3 <| .ex 4 <| .ex 5 <| .ex 6 <| .ex 7 <| .ex 8 <| .ex 9 <| .ex 10 <| .ex 11 <| .ex 12 <| .ex 13 <| .ex 14 <| .ex 15 <| .ex 16 <| .ex 17 <| .ex 18 <| .ex 19 <| .ex 20 <| .ex 21 <| .ex 22 <| .ex 23 <| .ex 24 <| .ex 25 <| .ex 26 <| .ex 27 <| .ex 28 <| .ex 29 <| .ex 30 <| .ex 31 <| .ex 32 <| .ex 33 <| .ex 34 <| .ex 35 <| .ex 36 <| .ex 37 <| .ex 38 <| .ex 39 <| .ex 40 <| .done) [] (Rd _ _) mixed (by kernel_rfl) rfl rfl hS.rd ?_
                                  refine PW.ex rfl rfl rfl rfl (Ex.move rfl) ?_
                                  refine PW.ex rfl rfl rfl rfl (Ex.gtr rfl rfl rfl) ?_
                                  refine PW.splitB (fun h16_1 => ?_) (fun h16_1 => ?_)
                                  · have h16_1 := of_decide_eq_true h16_1
                                    have hj1 : j - 1 < B.G.Links.length := by omega
                                    obtain ⟨_, _, ee, g0, g1, g2, g3⟩ := hs0.at hj1
                                    cases ee
                                    have hso := List.pairwise_iff_getElem.1 gS (j - 1) j hj1 (by omega) (by omega)
                                    rw [← hk] at hso
                                    obtain ⟨z, hz⟩ : ∃ z, z = B.G.Links[j - 1] := ⟨_, rfl⟩
                                    rw [← hz] at g0 g1 g2 g3 hso
                                    obtain ⟨F', T', i', C'⟩ := z
                                    unfold linkLt at hso
                                    simp only at g0 g1 g2 g3 hso
                                    refine PW.ex rfl rfl rfl rfl (Ex.move rfl) ?_
                                    refine PW.ex rfl rfl rfl rfl (Ex.fieldO 0 Try.underlying49 rfl rfl ti46 rfl) ?_
                                    refine PW.ex rfl rfl rfl rfl (Ex.fieldO 1 Try.underlying46 rfl rfl ti44 rfl) ?_
                                    refine PW.ex rfl rfl rfl rfl (Ex.load1 ti44 rfl rfl (by first | exact obT rfl | exact Rd.imm ‹_› | exact slT ‹_›)) ?_
                                    refine PW.ex rfl rfl rfl rfl (Ex.move rfl) ?_
                                    refine PW.ex rfl rfl rfl rfl (Ex.sub (r := ((j - 1 : Nat) : Int)) rfl rfl (by rw [w64 (by omega) (by omega)]; omega)) ?_
                                    refine PW.ex rfl rfl rfl rfl (Ex.indexSl Try.underlying44 ti66 rfl rfl rfl (by omega)) ?_
                                    refine PW.ex rfl rfl rfl rfl (Ex.fieldO 0 Try.underlying66 rfl rfl ti3 rfl) ?_
                                    refine PW.ex rfl rfl rfl rfl (Ex.load1 ti3 rfl rfl (by first | exact obT rfl | exact Rd.imm ‹_› | exact slT ‹_›)) ?_
                                    refine PW.ex rfl rfl rfl rfl (Ex.fieldO 0 Try.underlying66 rfl rfl ti3 rfl) ?_
                                    refine PW.ex rfl rfl rfl rfl (Ex.load1 ti3 rfl rfl (by first | exact obT rfl | exact Rd.imm ‹_› | exact slT ‹_›)) ?_
                                    refine PW.ex rfl rfl rfl rfl (Ex.gtr rfl rfl rfl) ?_
                                    refine PW.splitB (fun h16_13 => ?_) (fun h16_13 => ?_)
                                    · have h16_13 := of_decide_eq_true h16_13
                                      omega
                                    · have h16_13 := of_decide_eq_false h16_13
                                      refine PW.ex rfl rfl rfl rfl (Ex.move rfl) ?_
                                      refine PW.ex rfl rfl rfl rfl (Ex.fieldO 0 Try.underlying49 rfl rfl ti46 rfl) ?_
                                      refine PW.ex rfl rfl rfl rfl (Ex.fieldO 1 Try.underlying46 rfl rfl ti44 rfl) ?_
                                      refine PW.ex rfl rfl rfl rfl (Ex.load1 ti44 rfl rfl (by first | exact obT rfl | exact Rd.imm ‹_› | exact slT ‹_›)) ?_
                                      refine PW.ex rfl rfl rfl rfl (Ex.move rfl) ?_
                                      refine PW.ex rfl rfl rfl rfl (Ex.sub (r := ((j - 1 : Nat) : Int)) rfl rfl (by rw [w64 (by omega) (by omega)]; omega)) ?_
                                      refine PW.ex rfl rfl rfl rfl (Ex.indexSl Try.underlying44 ti66 rfl rfl rfl (by omega)) ?_
                                      refine PW.ex rfl rfl rfl rfl (Ex.fieldO 0 Try.underlying66 rfl rfl ti3 rfl) ?_
                                      refine PW.ex rfl rfl rfl rfl (Ex.load1 ti3 rfl rfl (by first | exact obT rfl | exact Rd.imm ‹_› | exact slT ‹_›)) ?_
                                      refine PW.ex rfl rfl rfl rfl (Ex.fieldO 0 Try.underlying66 rfl rfl ti3 rfl) ?_
                                      refine PW.ex rfl rfl rfl rfl (Ex.load1 ti3 rfl rfl (by first | exact obT rfl | exact Rd.imm ‹_› | exact slT ‹_›)) ?_
                                      refine PW.ex rfl rfl rfl rfl (Ex.eql rfl rfl rfl) ?_
                                      refine PW.splitB (fun h16_25 => ?_) (fun h16_25 => ?_)
                                      · have h16_25 := of_decide_eq_true h16_25
                                        refine PW.ex rfl rfl rfl rfl (Ex.move rfl) ?_
                                        refine PW.ex rfl rfl rfl rfl (Ex.fieldO 0 Try.underlying49 rfl rfl ti46 rfl) ?_
                                        refine PW.ex rfl rfl rfl rfl (Ex.fieldO 1 Try.underlying46 rfl rfl ti44 rfl) ?_
                                        refine PW.ex rfl rfl rfl rfl (Ex.load1 ti44 rfl rfl (by first | exact obT rfl | exact Rd.imm ‹_› | exact slT ‹_›)) ?_
                                        refine PW.ex rfl rfl rfl rfl (Ex.move rfl) ?_
                                        refine PW.ex rfl rfl rfl rfl (Ex.sub (r := ((j - 1 : Nat) : Int)) rfl rfl (by rw [w64 (by omega) (by omega)]; omega)) ?_
                                        refine PW.ex rfl rfl rfl rfl (Ex.indexSl Try.underlying44 ti66 rfl rfl rfl (by omega)) ?_
                                        refine PW.ex rfl rfl rfl rfl (Ex.fieldO 2 Try.underlying66 rfl rfl ti3 rfl) ?_
                                        refine PW.ex rfl rfl rfl rfl (Ex.load1 ti3 rfl rfl (by first | exact obT rfl | exact Rd.imm ‹_› | exact slT ‹_›)) ?_
                                        refine PW.ex rfl rfl rfl rfl (Ex.fieldO 2 Try.underlying66 rfl rfl ti3 rfl) ?_
                                        refine PW.ex rfl rfl rfl rfl (Ex.load1 ti3 rfl rfl (by first | exact obT rfl | exact Rd.imm ‹_› | exact slT ‹_›)) ?_
                                        refine PW.ex rfl rfl rfl rfl (Ex.geq rfl rfl rfl) ?_
                                        refine PW.splitB (fun h16_37 => ?_) (fun h16_37 => ?_)
                                        · have h16_37 := of_decide_eq_true h16_37
                                          omega
                                        · have h16_37 := of_decide_eq_false h16_37
                                          refine PW.ex rfl rfl rfl rfl (by first | exact Ex.pick_yes rfl rfl | exact Ex.pick_no rfl rfl) ?_
                                          refine PW.ex rfl rfl rfl rfl (by first | exact Ex.pick_yes rfl rfl | exact Ex.pick_no rfl rfl) ?_
                                          refine PW.ex rfl rfl rfl rfl (by first | exact Ex.pick_yes rfl rfl | exact Ex.pick_no rfl rfl) ?_
                                          refine PW.nil ?_
                                          refine LW.nil fun aa ha => hK19 _ _ _ ?_ aa ha
                                          refine CW.no rfl ?_
                                          refine CW.skip fun aa ha => hK12 _ _ _ ?_ aa ha
                                          refine CW.region [0, 1, 2] rfl ?_
                                          refine LW.ex rfl rfl rfl rfl (Ex.move rfl) hS.rd ?_
                                          refine LW.ex rfl rfl rfl rfl (Ex.add rfl rfl (by first | exact inc64 (by omega) | exact addN (by omega) | exact w64 (by omega) (by omega))) hS.rd ?_
                                          refine LW.ex rfl rfl rfl rfl (Ex.assign rfl) hS.rd ?_
                                          refine LW.nil fun aa ha => ?_
                                          have hS := hS.drop 0 rfl
                                          dsimp only [List.eraseIdx] at hS
                                          have hS := hS.drop 0 rfl
                                          dsimp only [List.eraseIdx] at hS
                                          refine ⟨_, _, ?m8, ⟨j + 1, (by first | omega | (simp; done) | (simp; omega)), rfl, rfl, hS⟩, ha.sub ⟨rfl, rfl, rfl, rfl, trivial⟩⟩
                                          case m8 => omega
                                      · have h16_25 := of_decide_eq_false h16_25
                                        refine PW.ex rfl rfl rfl rfl (Ex.move rfl) ?_
                                        refine PW.skip rfl rfl rfl rfl ?_
                                        refine PW.skip rfl rfl rfl rfl ?_
                                        refine PW.skip rfl rfl rfl rfl ?_
                                        refine PW.skip rfl rfl rfl rfl ?_
                                        refine PW.skip rfl rfl rfl rfl ?_
                                        refine PW.skip rfl rfl rfl rfl ?_
                                        refine PW.skip rfl rfl rfl rfl ?_
                                        refine PW.skip rfl rfl rfl rfl ?_
                                        refine PW.skip rfl rfl rfl rfl ?_
                                        refine PW.skip rfl rfl rfl rfl ?_
                                        refine PW.skip rfl rfl rfl rfl ?_
                                        refine PW.ex rfl rfl rfl rfl (by first | exact Ex.pick_yes rfl rfl | exact Ex.pick_no rfl rfl) ?_
                                        refine PW.ex rfl rfl rfl rfl (by first | exact Ex.pick_yes rfl rfl | exact Ex.pick_no rfl rfl) ?_
                                        refine PW.ex rfl rfl rfl rfl (by first | exact Ex.pick_yes rfl rfl | exact Ex.pick_no rfl rfl) ?_
                                        refine PW.nil ?_
                                        refine LW.nil fun aa ha => hK19 _ _ _ ?_ aa ha
                                        refine CW.no rfl ?_
                                        refine CW.skip fun aa ha => hK12 _ _ _ ?_ aa ha
                                        refine CW.region [0, 1, 2] rfl ?_
                                        refine LW.ex rfl rfl rfl rfl (Ex.move rfl) hS.rd ?_
                                        refine LW.ex rfl rfl rfl rfl (Ex.add rfl rfl (by first | exact inc64 (by omega) | exact addN (by omega) | exact w64 (by omega) (by omega))) hS.rd ?_
                                        refine LW.ex rfl rfl rfl rfl (Ex.assign rfl) hS.rd ?_
                                        refine LW.nil fun aa ha => ?_
                                        have hS := hS.drop 0 rfl
                                        dsimp only [List.eraseIdx] at hS
                                        have hS := hS.drop 0 rfl
                                        dsimp only [List.eraseIdx] at hS
                                        refine ⟨_, _, ?m8, ⟨j + 1, (by first | omega | (simp; done) | (simp; omega)), rfl, rfl, hS⟩, ha.sub ⟨rfl, rfl, rfl, rfl, trivial⟩⟩
                                        case m8 => omega
                                  · have h16_1 := of_decide_eq_false h16_1
                                    refine PW.ex rfl rfl rfl rfl (Ex.move rfl) ?_
                                    refine PW.skip rfl rfl rfl rfl ?_
                                    refine PW.skip rfl rfl rfl rfl ?_
                                    refine PW.skip rfl rfl rfl rfl ?_
                                    refine PW.skip rfl rfl rfl rfl ?_
                                    refine PW.skip rfl rfl rfl rfl ?_
                                    refine PW.skip rfl rfl rfl rfl ?_
                                    refine PW.skip rfl rfl rfl rfl ?_
                                    refine PW.skip rfl rfl rfl rfl ?_
                                    refine PW.skip rfl rfl rfl rfl ?_
                                    refine PW.skip rfl rfl rfl rfl ?_
                                    refine PW.skip rfl rfl rfl rfl ?_
                                    refine PW.skip rfl rfl rfl rfl ?_
                                    refine PW.skip rfl rfl rfl rfl ?_
                                    refine PW.skip rfl rfl rfl rfl ?_
                                    refine PW.skip rfl rfl rfl rfl ?_
                                    refine PW.skip rfl rfl rfl rfl ?_
                                    refine PW.skip rfl rfl rfl rfl ?_
                                    refine PW.skip rfl rfl rfl rfl ?_
                                    refine PW.skip rfl rfl rfl rfl ?_
                                    refine PW.skip rfl rfl rfl rfl ?_
                                    refine PW.skip rfl rfl rfl rfl ?_
                                    refine PW.skip rfl rfl rfl rfl ?_
                                    refine PW.skip rfl rfl rfl rfl ?_
                                    refine PW.skip rfl rfl rfl rfl ?_
                                    refine PW.skip rfl rfl rfl rfl ?_
                                    refine PW.skip rfl rfl rfl rfl ?_
                                    refine PW.skip rfl rfl rfl rfl ?_
                                    refine PW.skip rfl rfl rfl rfl ?_
                                    refine PW.skip rfl rfl rfl rfl ?_
                                    refine PW.skip rfl rfl rfl rfl ?_
                                    refine PW.skip rfl rfl rfl rfl ?_
                                    refine PW.skip rfl rfl rfl rfl ?_
                                    refine PW.skip rfl rfl rfl rfl ?_
                                    refine PW.skip rfl rfl rfl rfl ?_
                                    refine PW.skip rfl rfl rfl rfl ?_
                                    refine PW.skip rfl rfl rfl rfl ?_
                                    refine PW.skip rfl rfl rfl rfl ?_
                                    refine PW.ex rfl rfl rfl rfl (by first | exact Ex.pick_yes rfl rfl | exact Ex.pick_no rfl rfl) ?_
                                    refine PW.nil ?_
                                    refine LW.nil fun aa ha => hK19 _ _ _ ?_ aa ha
                                    refine CW.no rfl ?_
                                    refine CW.skip fun aa ha => hK12 _ _ _ ?_ aa ha
                                    refine CW.region [0, 1, 2] rfl ?_
                                    refine LW.ex rfl rfl rfl rfl (Ex.move rfl) hS.rd ?_
                                    refine LW.ex rfl rfl rfl rfl (Ex.add rfl rfl (by first | exact inc64 (by omega) | exact addN (by omega) | exact w64 (by omega) (by omega))) hS.rd ?_
                                    refine LW.ex rfl rfl rfl rfl (Ex.assign rfl) hS.rd ?_
                                    refine LW.nil fun aa ha => ?_
                                    have hS := hS.drop 0 rfl
                                    dsimp only [List.eraseIdx] at hS
                                    have hS := hS.drop 0 rfl
                                    dsimp only [List.eraseIdx] at hS
                                    refine ⟨_, _, ?m8, ⟨j + 1, (by first | omega | (simp; done) | (simp; omega)), rfl, rfl, hS⟩, ha.sub ⟨rfl, rfl, rfl, rfl, trivial⟩⟩
                                    case m8 => omega
                              · have h14_25 := of_decide_eq_false h14_25
                                refine PW.ex rfl rfl rfl rfl (Ex.move rfl) ?_
                                refine PW.skip rfl rfl rfl rfl ?_
                                refine PW.skip rfl rfl rfl rfl ?_
                                refine PW.skip rfl rfl rfl rfl ?_
                                refine PW.skip rfl rfl rfl rfl ?_
                                refine PW.skip rfl rfl rfl rfl ?_
                                refine PW.skip rfl rfl rfl rfl ?_
                                refine PW.skip rfl rfl rfl rfl ?_
                                refine PW.skip rfl rfl rfl rfl ?_
                                refine PW.skip rfl rfl rfl rfl ?_
                                refine PW.ex rfl rfl rfl rfl (by first | exact Ex.pick_yes rfl rfl | exact Ex.pick_no rfl rfl) ?_
                                refine PW.ex rfl rfl rfl rfl (by first | exact Ex.pick_yes rfl rfl | exact Ex.pick_no rfl rfl) ?_
                                refine PW.nil ?_
                                refine LW.nil fun aa ha => hK18 _ _ _ ?_ aa ha
                                refine CW.no rfl ?_
                                refine CW.skip fun aa ha => hK17 _ _ _ ?_ aa ha
                                refine CW.seq fun K20 hK20 => ?_
                                have hS := hS.drew
                                refine CW.draw 41 (.ex 0 <| .ex 1 <| .ex 2 <| .ex 3 <| .ex 4 <| .ex 5 <| .ex 6 <| .ex 7 <| .ex 8 <| .ex 9 <| .ex 10 <| .ex 11 <| .ex 12 <| .ex 13 <| .ex 14 <| .ex 15 <| .ex 16 <| .ex 17 <| .ex 18 <| .ex 19 <| .ex 20 <| .ex 21 <| .ex 22 <| .ex 23 <| .ex 24 <| .ex 25 <| .ex 26 <| .ex 27 <| .ex 28 <| .ex 29 <| .ex 30 <| .ex 31 <| .ex 32 <| .ex 33 <| .ex 34 <| .ex 35 <| .ex 36 <| .ex 37 <| .ex 38 <| .ex 39 <| .ex 40 <| .done) [] (Rd _ _) mixed (by kernel_rfl) rfl rfl hS.rd ?_
                                refine PW.ex rfl rfl rfl rfl (Ex.move rfl) ?_
                                refine PW.ex rfl rfl rfl rfl (Ex.gtr rfl rfl rfl) ?_
                                refine PW.splitB (fun h16_1 => ?_) (fun h16_1 => ?_)
                                · have h16_1 := of_decide_eq_true h16_1
                                  have hj1 : j - 1 < B.G.Links.length := by omega
                                  obtain ⟨_, _, ee, g0, g1, g2, g3⟩ := hs0.at hj1
                                  cases ee
                                  have hso := List.pairwise_iff_getElem.1 gS (j - 1) j hj1 (by omega) (by omega)
                                  rw [← hk] at hso
                                  obtain ⟨z, hz⟩ : ∃ z, z = B.G.Links[j - 1] := ⟨_, rfl⟩
                                  rw [← hz] at g0 g1 g2 g3 hso
                                  obtain ⟨F', T', i', C'⟩ := z
                                  unfold linkLt at hso
                                  simp only at g0 g1 g2 g3 hso
                                  refine PW.ex rfl rfl rfl rfl (Ex.move rfl) ?_
                                  refine PW.ex rfl rfl rfl rfl (Ex.fieldO 0 Try.underlying49 rfl rfl ti46 rfl) ?_
                                  refine PW.ex rfl rfl rfl rfl (Ex.fieldO 1 Try.underlying46 rfl rfl ti44 rfl) ?_
                                  refine PW.ex rfl rfl rfl rfl (Ex.load1 ti44 rfl rfl (by first | exact obT rfl | exact Rd.imm ‹_› | exact slT ‹_›)) ?_
                                  refine PW.ex rfl rfl rfl rfl (Ex.move rfl) ?_
                                  refine PW.ex rfl rfl rfl rfl (Ex.sub (r := ((j - 1 : Nat) : Int)) rfl rfl (by rw [w64 (by omega) (by omega)]; omega)) ?_
                                  refine PW.ex rfl rfl rfl rfl (Ex.indexSl Try.underlying44 ti66 rfl rfl rfl (by omega)) ?_
                                  refine PW.ex rfl rfl rfl rfl (Ex.fieldO 0 Try.underlying66 rfl rfl ti3 rfl) ?_
                                  refine PW.ex rfl rfl rfl rfl (Ex.load1 ti3 rfl rfl (by first | exact obT rfl | exact Rd.imm ‹_› | exact slT ‹_›)) ?_
                                  refine PW.ex rfl rfl rfl rfl (Ex.fieldO 0 Try.underlying66 rfl rfl ti3 rfl) ?_
                                  refine PW.ex rfl rfl rfl rfl (Ex.load1 ti3 rfl rfl (by first | exact obT rfl | exact Rd.imm ‹_› | exact slT ‹_›)) ?_
                                  refine PW.ex rfl rfl rfl rfl (Ex.gtr rfl rfl rfl) ?_
                                  refine PW.splitB (fun h16_13 => ?_) (fun h16_13 => ?_)
                                  · have h16_13 := of_decide_eq_true h16_13
                                    omega
                                  · have h16_13 := of_decide_eq_false h16_13
                                    refine PW.ex rfl rfl rfl rfl (Ex.move rfl) ?_
                                    refine PW.ex rfl rfl rfl rfl (Ex.fieldO 0 Try.underlying49 rfl rfl ti46 rfl) ?_
                                    refine PW.ex rfl rfl rfl rfl (Ex.fieldO 1 Try.underlying46 rfl rfl ti44 rfl) ?_
                                    refine PW.ex rfl rfl rfl rfl (Ex.load1 ti44 rfl rfl (by first | exact obT rfl | exact Rd.imm ‹_› | exact slT ‹_›)) ?_
                                    refine PW.ex rfl rfl rfl rfl (Ex.move rfl) ?_
                                    refine PW.ex rfl rfl rfl rfl (Ex.sub (r := ((j - 1 : Nat) : Int)) rfl rfl (by rw [w64 (by omega) (by omega)]; omega)) ?_
                                    refine PW.ex rfl rfl rfl rfl (Ex.indexSl Try.underlying44 ti66 rfl rfl rfl (by omega)) ?_
                                    refine PW.ex rfl rfl rfl rfl (Ex.fieldO 0 Try.underlying66 rfl rfl ti3 rfl) ?_
                                    refine PW.ex rfl rfl rfl rfl (Ex.load1 ti3 rfl rfl (by first | exact obT rfl | exact Rd.imm ‹_› | exact slT ‹_›)) ?_
                                    refine PW.ex rfl rfl rfl rfl (Ex.fieldO 0 Try.underlying66 rfl rfl ti3 rfl) ?_
                                    refine PW.ex rfl rfl rfl rfl (Ex.load1 ti3 rfl rfl (by first | exact obT rfl | exact Rd.imm ‹_› | exact slT ‹_›)) ?_
                                    refine PW.ex rfl rfl rfl rfl (Ex.eql rfl rfl rfl) ?_
                                    refine PW.splitB (fun h16_25 => ?_) (fun h16_25 => ?_)
                                    · have h16_25 := of_decide_eq_true h16_25
                                      refine PW.ex rfl rfl rfl rfl (Ex.move rfl) ?_
                                      refine PW.ex rfl rfl rfl rfl (Ex.fieldO 0 Try.underlying49 rfl rfl ti46 rfl) ?_
                                      refine PW.ex rfl rfl rfl rfl (Ex.fieldO 1 Try.underlying46 rfl rfl ti44 rfl) ?_
                                      refine PW.ex rfl rfl rfl rfl (Ex.load1 ti44 rfl rfl (by first | exact obT rfl | exact Rd.imm ‹_› | exact slT ‹_›)) ?_
                                      refine PW.ex rfl rfl rfl rfl (Ex.move rfl) ?_
                                      refine PW.ex rfl rfl rfl rfl (Ex.sub (r := ((j - 1 : Nat) : Int)) rfl rfl (by rw [w64 (by omega) (by omega)]; omega)) ?_
                                      refine PW.ex rfl rfl rfl rfl (Ex.indexSl Try.underlying44 ti66 rfl rfl rfl (by omega)) ?_
                                      refine PW.ex rfl rfl rfl rfl (Ex.fieldO 2 Try.underlying66 rfl rfl ti3 rfl) ?_
                                      refine PW.ex rfl rfl rfl rfl (Ex.load1 ti3 rfl rfl (by first | exact obT rfl | exact Rd.imm ‹_› | exact slT ‹_›)) ?_
                                      refine PW.ex rfl rfl rfl rfl (Ex.fieldO 2 Try.underlying66 rfl rfl ti3 rfl) ?_
                                      refine PW.ex rfl rfl rfl rfl (Ex.load1 ti3 rfl rfl (by first | exact obT rfl | exact Rd.imm ‹_› | exact slT ‹_›)) ?_
                                      refine PW.ex rfl rfl rfl rfl (Ex.geq rfl rfl rfl) ?_
                                      refine PW.splitB (fun h16_37 => ?_) (fun h16_37 => ?_)
                                      · have h16_37 := of_decide_eq_true h16_37
                                        omega
                                      · have h16_37 := of_decide_eq_false h16_37
                                        refine PW.ex rfl rfl rfl rfl (by first | exact Ex.pick_yes rfl rfl | exact Ex.pick_no rfl rfl) ?_
                                        refine PW.ex rfl rfl rfl rfl (by first | exact Ex.pick_yes rfl rfl | exact Ex.pick_no rfl rfl) ?_
                                        refine PW.ex rfl rfl rfl rfl (by first | exact Ex.pick_yes rfl rfl | exact Ex.pick_no rfl rfl) ?_
                                        refine PW.nil ?_
                                        refine LW.nil fun aa ha => hK20 _ _ _ ?_ aa ha
                                        refine CW.no rfl ?_
                                        refine CW.skip fun aa ha => hK12 _ _ _ ?_ aa ha
                                        refine CW.region [0, 1, 2] rfl ?_
                                        refine LW.ex rfl rfl rfl rfl (Ex.move rfl) hS.rd ?_
                                        refine LW.ex rfl rfl rfl rfl (Ex.add rfl rfl (by first | exact inc64 (by omega) | exact addN (by omega) | exact w64 (by omega) (by omega))) hS.rd ?_
                                        refine LW.ex rfl rfl rfl rfl (Ex.assign rfl) hS.rd ?_
                                        refine LW.nil fun aa ha => ?_
                                        have hS := hS.drop 0 rfl
                                        dsimp only [List.eraseIdx] at hS
                                        have hS := hS.drop 0 rfl
                                        dsimp only [List.eraseIdx] at hS
                                        refine ⟨_, _, ?m8, ⟨j + 1, (by first | omega | (simp; done) | (simp; omega)), rfl, rfl, hS⟩, ha.sub ⟨rfl, rfl, rfl, rfl, trivial⟩⟩
                                        case m8 => omega
                                    · have h16_25 := of_decide_eq_false h16_25
                                      refine PW.ex rfl rfl rfl rfl (Ex.move rfl) ?_
                                      refine PW.skip rfl rfl rfl rfl ?_
                                      refine PW.skip rfl rfl rfl rfl ?_
                                      refine PW.skip rfl rfl rfl rfl ?_
                                      refine PW.skip rfl rfl rfl rfl ?_
                                      refine PW.skip rfl rfl rfl rfl ?_
                                      refine PW.skip rfl rfl rfl rfl ?_
                                      refine PW.skip rfl rfl rfl rfl ?_
                                      refine PW.skip rfl rfl rfl rfl ?_
                                      refine PW.skip rfl rfl rfl rfl ?_
                                      refine PW.skip rfl rfl rfl rfl ?_
                                      refine PW.skip rfl rfl rfl rfl ?_
                                      refine PW.ex rfl rfl rfl rfl (by first | exact Ex.pick_yes rfl rfl | exact Ex.pick_no rfl rfl) ?_
                                      refine PW.ex rfl rfl rfl rfl (by first | exact Ex.pick_yes rfl rfl | exact Ex.pick_no rfl rfl) ?_
                                      refine PW.ex rfl rfl rfl rfl (by first | exact Ex.pick_yes rfl rfl | exact Ex.pick_no rfl rfl) ?_
                                      refine PW.nil ?_
                                      refine LW.nil fun aa ha => hK20 _ _ _ ?_ aa ha
                                      refine CW.no rfl ?_
                                      refine CW.skip fun aa ha => hK12 _ _ _ ?_ aa ha
                                      refine CW.region [0, 1, 2] rfl ?_
                                      refine LW.ex rfl rfl rfl rfl (Ex.move rfl) hS.rd ?_
                                      refine LW.ex rfl rfl rfl rfl (Ex.add rfl rfl (by first | exact inc64 (by omega) | exact addN (by omega) | exact w64 (by omega) (by omega))) hS.rd ?_
                                      refine LW.ex rfl rfl rfl rfl (Ex.assign rfl) hS.rd ?_
                                      refine LW.nil fun aa ha => ?_
                                      have hS := hS.drop 0 rfl
                                      dsimp only [List.eraseIdx] at hS
                                      have hS := hS.drop 0 rfl
                                      dsimp only [List.eraseIdx] at hS
                                      refine ⟨_, _, ?m8, ⟨j + 1, (by first | omega | (simp; done) | (simp; omega)), rfl, rfl, hS⟩, ha.sub ⟨rfl, rfl, rfl, rfl, trivial⟩⟩
                                      case m8 => omega
                                · have h16_1 := of_decide_eq_false h16_1
                                  refine PW.ex rfl rfl rfl rfl (Ex.move rfl) ?_
                                  refine PW.skip rfl rfl rfl rfl ?_
                                  refine PW.skip rfl rfl rfl rfl ?_
                                  refine PW.skip rfl rfl rfl rfl ?_
                                  refine PW.skip rfl rfl rfl rfl ?_
                                  refine PW.skip rfl rfl rfl rfl ?_
                                  refine PW.skip rfl rfl rfl rfl ?_
                                  refine PW.skip rfl rfl rfl rfl ?_
                                  refine PW.skip rfl rfl rfl rfl ?_
                                  refine PW.skip rfl rfl rfl rfl ?_
                                  refine PW.skip rfl rfl rfl rfl ?_
                                  refine PW.skip rfl rfl rfl rfl ?_
                                  refine PW.skip rfl rfl rfl rfl ?_
                                  refine PW.skip rfl rfl rfl rfl ?_
                                  refine PW.skip rfl rfl rfl rfl ?_
                                  refine PW.skip rfl rfl rfl rfl ?_
                                  refine PW.skip rfl rfl rfl rfl ?_
                                  refine PW.skip rfl rfl rfl rfl ?_
                                  refine PW.skip rfl rfl rfl rfl ?_
                                  refine PW.skip rfl rfl rfl rfl ?_
                                  refine PW.skip rfl rfl rfl rfl ?_
                                  refine PW.skip rfl rfl rfl rfl ?_
                                  refine PW.skip rfl rfl rfl rfl ?_
                                  refine PW.skip rfl rfl rfl rfl ?_
                                  refine PW.skip rfl rfl rfl rfl ?_
                                  refine PW.skip rfl rfl rfl rfl ?_
                                  refine PW.skip rfl rfl rfl rfl ?_
                                  refine PW.skip rfl rfl rfl rfl ?_
                                  refine PW.skip rfl rfl rfl rfl ?_
                                  refine PW.skip rfl rfl rfl rfl ?_
                                  refine PW.skip rfl rfl rfl rfl ?_
                                  refine PW.skip rfl rfl rfl rfl ?_
                                  refine PW.skip rfl rfl rfl rfl ?_
                                  refine PW.skip rfl rfl rfl rfl ?_
                                  refine PW.skip rfl rfl rfl rfl ?_
                                  refine PW.skip rfl rfl rfl rfl ?_
                                  refine PW.skip rfl rfl rfl rfl ?_
                                  refine PW.skip rfl rfl rfl rfl ?_
                                  refine PW.ex rfl rfl rfl rfl (by first | exact Ex.pick_yes rfl rfl | exact Ex.pick_no rfl rfl) ?_
                                  refine PW.nil ?_
                                  refine LW.nil fun aa ha => hK20 _ _ _ ?_ aa ha
                                  refine CW.no rfl ?_
                                  refine CW.skip fun aa ha => hK12 _ _ _ ?_ aa ha
                                  refine CW.region [0, 1, 2] rfl ?_
                                  refine LW.ex rfl rfl rfl rfl (Ex.move rfl) hS.rd ?_
                                  refine LW.ex rfl rfl rfl rfl (Ex.add rfl rfl (by first | exact inc64 (by omega) | exact addN (by omega) | exact w64 (by omega) (by omega))) hS.rd ?_
                                  refine LW.ex rfl rfl rfl rfl (Ex.assign rfl) hS.rd ?_
                                  refine LW.nil fun aa ha => ?_
                                  have hS := hS.drop 0 rfl
                                  dsimp only [List.eraseIdx] at hS
                                  have hS := hS.drop 0 rfl
                                  dsimp only [List.eraseIdx] at hS
                                  refine ⟨_, _, ?m8, ⟨j + 1, (by first | omega | (simp; done) | (simp; omega)), rfl, rfl, hS⟩, ha.sub ⟨rfl, rfl, rfl, rfl, trivial⟩⟩
                                  case m8 => omega
              · have h8_5 := of_decide_eq_false h8_5
                refine LW.nil fun aa ha => hK11 _ _ _ ?_ aa ha
                refine CW.no rfl ?_
                refine CW.exit fun aa ha => hK8 _ _ _ ?_ aa ha
                refine CW.seq fun K21 hK21 => ?_
                refine CW.region [0, 1] rfl ?_
                refine LW.ex rfl rfl rfl rfl (Ex.move rfl) hS.rd ?_
                refine LW.ex rfl rfl rfl rfl (Ex.assign rfl) hS.rd ?_
                refine LW.nil fun aa ha => hK21 _ _ _ ?_ aa ha
                refine CW.ret fun aa ha => ?_
                refine ret_one ha Try.results4 rfl ?_
                exact hS.retS
  have hS := hS.drew
  refine CW.drawP 17 [7, 8, 9, 10, 11, 12, 13, 14, 15] (.ex 0 <| .ex 1 <| .ex 2 <| .ex 3 <| .ex 4 <| .ex 5 <| .pu 7 <| .pu 8 <| .pu 9 <| .pu 10 <| .pu 11 <| .pu 12 <| .pu 13 <| .pu 14 <| .pu 15 <| .two 6 (.one 16 <| .done) 16 (.one 6 <| .done)) [17, 18] (Rd _ _) (Rd _ _) mixed (by kernel_rfl) rfl rfl hS.rd hS.rd ?_
  refine QW.ex rfl rfl rfl rfl (Ex.move rfl) ?_
  refine QW.ex rfl rfl rfl rfl (Ex.indexArr (j := 0) Try.underlying62 ti5 rfl rfl rfl (by omega)) ?_
  refine QW.ex rfl rfl rfl rfl (Ex.load1 ti5 rfl rfl (by first | exact obT rfl | exact Rd.imm ‹_› | exact slT ‹_›)) ?_
  refine QW.ex rfl rfl rfl rfl (Ex.fieldO 0 Try.underlying34 rfl rfl ti30 rfl) ?_
  refine QW.ex rfl rfl rfl rfl (Ex.load1 ti30 rfl rfl (by first | exact obT rfl | exact Rd.imm ‹_› | exact slT ‹_›)) ?_
  refine QW.ex rfl rfl rfl rfl (Ex.lenSl rfl Try.underlying30 rfl) ?_
  refine QW.pu rfl rfl rfl rfl (Ex.indexArr (j := 1) Try.underlying62 ti5 rfl rfl rfl (by omega)) ?_
  refine QW.pu rfl rfl rfl rfl (Ex.load1 ti5 rfl rfl (by first | exact obT rfl | exact Rd.imm ‹_› | exact slT ‹_›)) ?_
  refine QW.pu rfl rfl rfl rfl (Ex.conv Try.underlying5 Try.underlying3 rfl (by first | exact w64 (by omega) (by omega) | exact wu8 (by omega) (by omega))) ?_
  refine QW.pu rfl rfl rfl rfl (Ex.fieldO 0 Try.underlying34 rfl rfl ti30 rfl) ?_
  refine QW.pu rfl rfl rfl rfl (Ex.load1 ti30 rfl rfl (by first | exact obT rfl | exact Rd.imm ‹_› | exact slT ‹_›)) ?_
  refine QW.pu rfl rfl rfl rfl (Ex.lenSl rfl Try.underlying30 rfl) ?_
  refine QW.pu rfl rfl rfl rfl (Ex.add (r := ((m.Words.length + 1 : Nat) : Int)) rfl rfl (by rw [w64 (by omega) (by omega)]; omega)) ?_
  refine QW.pu rfl rfl rfl rfl (Ex.rem (r := ((q.b.toNat % (m.Words.length + 1) : Nat) : Int)) rfl rfl (by omega) (remN _ _)) ?_
  refine QW.pu rfl rfl rfl rfl (Ex.sub (r := pv) rfl rfl (by rw [hpv]; exact w64 (by omega) (by omega))) ?_
  refine QW.two rfl rfl rfl rfl rfl rfl rfl rfl (Hv.callM rfl rfl rfl cb11 (madeX_m l q.a m.Words.length (by omega) (by omega) _ _ hS sl)) (fun _ _ ⟨_, _, _, h⟩ => h.rd.tail) (fun _ _ ⟨_, _, _, h⟩ => h.rd.tail) (Hv.alloc ti38 hS) (fun _ _ ⟨_, _, _, h⟩ => h.rd.tail) (fun _ _ ⟨_, _, _, h⟩ => h.rd.tail) (fun v w24 ⟨ax, cx, hv, hS⟩ => ?gA22) (fun v w9 ⟨b9, hv, hb9, hS⟩ => ?gB22)
  case gA22 =>
    skip
    subst hv
    rw [← hx] at hS ⊢
    refine QW.hv rfl rfl rfl rfl (Hv.alloc ti38 hS) (fun _ _ ⟨_, _, _, h⟩ => h.rd.tail.tail) (fun _ _ ⟨_, _, _, h⟩ => h.rd.tail.tail) fun v w9 ⟨b9, hv, hb9, hS⟩ => ?_
    subst hv
    refine QW.nil ?_
    first | (have hS := (hS : St w _ _ (Own.obj b9 _ _ :: _))) | (have hS := hS.swap)
    refine TW.hu rfl rfl rfl (Hv.storeN (k := 0) ti38 hS rfl rfl rfl rfl (by simp [Value.oneCell'])) (fun _ _ h => (h.rd.erase 0).tail) fun _ w_17 hS => ?_
    dsimp only [List.set] at hS
    refine TW.ex rfl rfl rfl rfl (Ex.assign rfl) hS.rd ?_
    refine TW.nil fun aa ha => ?_
    have hS := hS.swap
    refine hJr3 _ (b9) (ax) (cx) hS  aa (ha.sub ⟨rfl, rfl, rfl, rfl, trivial⟩)
  case gB22 =>
    skip
    subst hv
    refine QW.hv rfl rfl rfl rfl (Hv.callM rfl rfl rfl cb11 (madeX_m l q.a m.Words.length (by omega) (by omega) _ _ hS sl)) (fun _ _ ⟨_, _, _, h⟩ => h.rd.tail.tail) (fun _ _ ⟨_, _, _, h⟩ => h.rd.tail.tail) fun v w24 ⟨ax, cx, hv, hS⟩ => ?_
    subst hv
    rw [← hx] at hS ⊢
    refine QW.nil ?_
    first | (have hS := (hS : St w _ _ (Own.obj b9 _ _ :: _))) | (have hS := hS.swap)
    refine TW.hu rfl rfl rfl (Hv.storeN (k := 0) ti38 hS rfl rfl rfl rfl (by simp [Value.oneCell'])) (fun _ _ h => (h.rd.erase 0).tail) fun _ w_17 hS => ?_
    dsimp only [List.set] at hS
    refine TW.ex rfl rfl rfl rfl (Ex.assign rfl) hS.rd ?_
    refine TW.nil fun aa ha => ?_
    have hS := hS.swap
    refine hJr3 _ (b9) (ax) (cx) hS  aa (ha.sub ⟨rfl, rfl, rfl, rfl, trivial⟩)
end Go.Proofs.Ytgnpjhellmfhoaa

