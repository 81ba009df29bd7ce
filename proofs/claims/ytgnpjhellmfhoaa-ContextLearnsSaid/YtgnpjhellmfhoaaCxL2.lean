/-
  Context: the walks of the reference's Valid of lattices; what fits a model.
-/
import Derived.Test.YtgnpjhellmfhoaaCxK
namespace Go.Proofs.Ytgnpjhellmfhoaa
open Go.RowKit Sy


set_option maxRecDepth 100000 in
set_option maxHeartbeats 1000000 in
theorem rxvalid_c (x : Lat) (a3 : Option Addr) (c3 : Nat) (μ : Mem) (w : World) (hμ : Imm μ w) (hx : Sl μ a3 c3 x.Edges) :
    Calls Try.prog 59 #[.agg #[.int .i64 x.N, .slice a3 x.Edges.length c3]] w (RetS w (.bool (okX x))) := by
  have hS := St.start w μ hμ
  refine calls_start 71 [.agg #[.int .i64 x.N, .slice a3 x.Edges.length c3]] Try.func59 rfl Try.ntmps59 rfl rfl ?_
  refine CW.seq fun K1 hK1 => ?_
  refine CW.region [0, 1] rfl ?_
  refine LW.hv rfl rfl rfl rfl (Hv.boxS hS rfl rfl) fun v w1 ⟨b1, hv, hb1, hS⟩ => ?_
  subst hv
  refine LW.ex rfl rfl rfl rfl (Ex.assign rfl) hS.rd ?_
  refine LW.nil fun aa ha => hK1 _ _ _ ?_ aa ha
  refine CW.seq fun K2 hK2 => ?_
  refine CW.seq fun K3 hK3 => ?_
  refine CW.region [0, 1, 2, 3, 4, 5, 6, 7, 8, 9] rfl ?_
  refine LW.ex rfl rfl rfl rfl (Ex.fieldO 0 Try.underlying38 rfl rfl ti3 rfl) hS.rd ?_
  refine LW.ex rfl rfl rfl rfl (Ex.load1 ti3 rfl rfl (by first | exact obT rfl | exact Rd.imm ‹_› | exact slT ‹_›)) hS.rd ?_
  refine LW.hv rfl rfl rfl rfl (Hv.callS hS rfl rfl rfl cb36 (in_c _ _ _ _)) fun v w7 ⟨hv, hS⟩ => ?_
  subst hv
  refine LW.splitB (fun h1_2 => ?_) (fun h1_2 => ?_)
  · have h1_2 := inR_iff.1 h1_2
    refine LW.ex rfl rfl rfl rfl (Ex.not rfl rfl) hS.rd ?_
    refine LW.ex rfl rfl rfl rfl (Ex.move rfl) hS.rd ?_
    refine LW.ex rfl rfl rfl rfl (Ex.fieldO 1 Try.underlying38 rfl rfl ti36 rfl) hS.rd ?_
    refine LW.ex rfl rfl rfl rfl (Ex.load1 ti36 rfl rfl (by first | exact obT rfl | exact Rd.imm ‹_› | exact slT ‹_›)) hS.rd ?_
    refine LW.ex rfl rfl rfl rfl (Ex.lenSl rfl Try.underlying36 rfl) hS.rd ?_
    refine LW.ex rfl rfl rfl rfl (Ex.gtr rfl rfl rfl) hS.rd ?_
    refine LW.splitB (fun h1_8 => ?_) (fun h1_8 => ?_)
    · have h1_8 := of_decide_eq_true h1_8
      refine LW.ex rfl rfl rfl rfl (by first | exact Ex.pick_yes rfl rfl | exact Ex.pick_no rfl rfl) hS.rd ?_
      refine LW.nil fun aa ha => hK3 _ _ _ ?_ aa ha
      refine CW.yes rfl ?_
      refine CW.seq fun K4 hK4 => ?_
      refine CW.region [0] rfl ?_
      refine LW.ex rfl rfl rfl rfl (Ex.assign rfl) hS.rd ?_
      refine LW.nil fun aa ha => hK4 _ _ _ ?_ aa ha
      refine CW.ret fun aa ha => ?_
      refine ret_one ha Try.results59 rfl ?_
      exact hS.retB (okX_no1 (by omega)).symm
    · have h1_8 := of_decide_eq_false h1_8
      refine LW.ex rfl rfl rfl rfl (by first | exact Ex.pick_yes rfl rfl | exact Ex.pick_no rfl rfl) hS.rd ?_
      refine LW.nil fun aa ha => hK3 _ _ _ ?_ aa ha
      refine CW.no rfl ?_
      refine CW.skip fun aa ha => hK2 _ _ _ ?_ aa ha
      refine CW.seq fun K5 hK5 => ?_
      refine CW.seq fun K6 hK6 => ?_
      refine CW.region [0] rfl ?_
      refine LW.ex rfl rfl rfl rfl (Ex.assign rfl) hS.rd ?_
      refine LW.nil fun aa ha => hK6 _ _ _ ?_ aa ha
      refine CW.block ?_
      refine CW.loop (fun qq frm wl4 => ∃ (i : Nat), i ≤ x.Edges.length ∧ qq = x.Edges.length - i ∧ frm = [(1, .pointer (some ⟨b1, 0, none⟩)), (3, .int .i64 i)] ∧ St w wl4 μ [Own.obj b1 [.int .i64 x.N, .slice a3 x.Edges.length c3] 38] ∧ (rises (edIn x.N) edLess none x.Edges = rises (edIn x.N) edLess (prevOf x.Edges i) (x.Edges.drop i))) _ ⟨0, (by first | omega | (simp; done) | (simp; omega)), rfl, rfl, hS, rfl⟩ ⟨rfl, rfl, trivial⟩ ?_
      clear hS
      rintro qq frm wl4 ⟨i, hi, hq, rfl, hS, he⟩
      refine CW.seq fun K7 hK7 => ?_
      refine CW.seq fun K8 hK8 => ?_
      refine CW.region [0, 1, 2, 3, 4] rfl ?_
      refine LW.ex rfl rfl rfl rfl (Ex.move rfl) hS.rd ?_
      refine LW.ex rfl rfl rfl rfl (Ex.fieldO 1 Try.underlying38 rfl rfl ti36 rfl) hS.rd ?_
      refine LW.ex rfl rfl rfl rfl (Ex.load1 ti36 rfl rfl (by first | exact obT rfl | exact Rd.imm ‹_› | exact slT ‹_›)) hS.rd ?_
      refine LW.ex rfl rfl rfl rfl (Ex.lenSl rfl Try.underlying36 rfl) hS.rd ?_
      refine LW.ex rfl rfl rfl rfl (Ex.lss rfl rfl rfl) hS.rd ?_
      refine LW.splitB (fun h4_4 => ?_) (fun h4_4 => ?_)
      · have h4_4 := of_decide_eq_true h4_4
        refine LW.nil fun aa ha => hK8 _ _ _ ?_ aa ha
        refine CW.yes rfl ?_
        refine CW.skip fun aa ha => hK7 _ _ _ ?_ aa ha
        refine CW.seq fun K9 hK9 => ?_
        refine CW.block ?_
        refine CW.seq fun K10 hK10 => ?_
        have hi2 : i < x.Edges.length := by omega
        have hnn : i - 1 < x.Edges.length := by omega
        obtain ⟨bl, ol, rfl, k0, k1, k2, k3⟩ := hx.at hi2
        obtain ⟨bl', ol', e', j0, j1, j2, j3⟩ := hx.at hnn
        cases e'
        refine CW.region [0, 1, 2, 3, 4, 5, 6] rfl ?_
        refine LW.ex rfl rfl rfl rfl (Ex.fieldO 1 Try.underlying38 rfl rfl ti36 rfl) hS.rd ?_
        refine LW.ex rfl rfl rfl rfl (Ex.load1 ti36 rfl rfl (by first | exact obT rfl | exact Rd.imm ‹_› | exact slT ‹_›)) hS.rd ?_
        refine LW.ex rfl rfl rfl rfl (Ex.move rfl) hS.rd ?_
        refine LW.ex rfl rfl rfl rfl (Ex.indexSl Try.underlying36 ti43 rfl rfl rfl (by omega)) hS.rd ?_
        refine LW.ex rfl rfl rfl rfl (Ex.load4c ti43 rfl rfl (by first | exact obT rfl | exact Rd.imm ‹_› | exact slT ‹_›) (by first | exact obT rfl | exact Rd.imm ‹_› | exact slT ‹_›) (by first | exact obT rfl | exact Rd.imm ‹_› | exact slT ‹_›) (by first | exact obT rfl | exact Rd.imm ‹_› | exact slT ‹_›)) hS.rd ?_
        refine LW.hv rfl rfl rfl rfl (Hv.alloc ti43 hS) fun v w4 ⟨b4, hv, hb4, hS⟩ => ?_
        subst hv
        refine LW.hu rfl rfl rfl (Hv.storeN (k := 0) ti43 hS rfl rfl rfl rfl (by simp [Value.oneCell'])) fun _ w_6 hS => ?_
        dsimp only [List.set] at hS
        refine LW.nil fun aa ha => hK10 _ _ _ ?_ aa ha
        refine CW.seq fun K11 hK11 => ?_
        have hS := hS.drew
        refine CW.draw 44 (.ex 0 <| .ex 1 <| .ex 2 <| .ex 3 <| .ex 4 <| .ex 5 <| .ex 6 <| .ex 7 <| .ex 8 <| .ex 9 <| .ex 10 <| .ex 11 <| .ex 12 <| .ex 13 <| .ex 14 <| .ex 15 <| .ex 16 <| .ex 17 <| .ex 18 <| .ex 19 <| .one 20 <| .ex 21 <| .ex 22 <| .ex 23 <| .ex 24 <| .ex 25 <| .one 26 <| .ex 27 <| .ex 28 <| .ex 29 <| .ex 30 <| .ex 31 <| .ex 32 <| .ex 33 <| .ex 34 <| .ex 35 <| .ex 36 <| .ex 37 <| .ex 38 <| .ex 39 <| .one 40 <| .ex 41 <| .ex 42 <| .ex 43 <| .done) [] (Rd _ _) mixed (by kernel_rfl) rfl rfl hS.rd ?_
        refine PW.ex rfl rfl rfl rfl (Ex.fieldO 0 Try.underlying43 rfl rfl ti3 rfl) ?_
        refine PW.ex rfl rfl rfl rfl (Ex.load1 ti3 rfl rfl (by first | exact obT rfl | exact Rd.imm ‹_› | exact slT ‹_›)) ?_
        refine PW.ex rfl rfl rfl rfl (Ex.lss rfl rfl rfl) ?_
        refine PW.splitB (fun h7_2 => ?_) (fun h7_2 => ?_)
        · have h7_2 := of_decide_eq_true h7_2
          refine PW.ex rfl rfl rfl rfl (Ex.move rfl) ?_
          refine PW.skip rfl rfl rfl rfl ?_
          refine PW.skip rfl rfl rfl rfl ?_
          refine PW.skip rfl rfl rfl rfl ?_
          refine PW.skip rfl rfl rfl rfl ?_
          refine PW.skip rfl rfl rfl rfl ?_
          refine PW.ex rfl rfl rfl rfl (by first | exact Ex.pick_yes rfl rfl | exact Ex.pick_no rfl rfl) ?_
          refine PW.ex rfl rfl rfl rfl (Ex.move rfl) ?_
          refine PW.skip rfl rfl rfl rfl ?_
          refine PW.skip rfl rfl rfl rfl ?_
          refine PW.skip rfl rfl rfl rfl ?_
          refine PW.skip rfl rfl rfl rfl ?_
          refine PW.skip rfl rfl rfl rfl ?_
          refine PW.ex rfl rfl rfl rfl (by first | exact Ex.pick_yes rfl rfl | exact Ex.pick_no rfl rfl) ?_
          refine PW.ex rfl rfl rfl rfl (Ex.move rfl) ?_
          refine PW.skip rfl rfl rfl rfl ?_
          refine PW.skip rfl rfl rfl rfl ?_
          refine PW.skip1 rfl rfl rfl rfl ?_
          refine PW.skip rfl rfl rfl rfl ?_
          refine PW.ex rfl rfl rfl rfl (by first | exact Ex.pick_yes rfl rfl | exact Ex.pick_no rfl rfl) ?_
          refine PW.ex rfl rfl rfl rfl (Ex.move rfl) ?_
          refine PW.skip rfl rfl rfl rfl ?_
          refine PW.skip rfl rfl rfl rfl ?_
          refine PW.skip1 rfl rfl rfl rfl ?_
          refine PW.skip rfl rfl rfl rfl ?_
          refine PW.ex rfl rfl rfl rfl (by first | exact Ex.pick_yes rfl rfl | exact Ex.pick_no rfl rfl) ?_
          refine PW.ex rfl rfl rfl rfl (Ex.move rfl) ?_
          refine PW.skip rfl rfl rfl rfl ?_
          refine PW.skip rfl rfl rfl rfl ?_
          refine PW.skip rfl rfl rfl rfl ?_
          refine PW.skip rfl rfl rfl rfl ?_
          refine PW.skip rfl rfl rfl rfl ?_
          refine PW.skip rfl rfl rfl rfl ?_
          refine PW.skip rfl rfl rfl rfl ?_
          refine PW.skip rfl rfl rfl rfl ?_
          refine PW.skip rfl rfl rfl rfl ?_
          refine PW.skip rfl rfl rfl rfl ?_
          refine PW.skip1 rfl rfl rfl rfl ?_
          refine PW.skip rfl rfl rfl rfl ?_
          refine PW.skip rfl rfl rfl rfl ?_
          refine PW.ex rfl rfl rfl rfl (by first | exact Ex.pick_yes rfl rfl | exact Ex.pick_no rfl rfl) ?_
          refine PW.nil ?_
          refine LW.nil fun aa ha => hK11 _ _ _ ?_ aa ha
          refine CW.yes rfl ?_
          refine CW.seq fun K12 hK12 => ?_
          refine CW.region [0] rfl ?_
          refine LW.ex rfl rfl rfl rfl (Ex.assign rfl) hS.rd ?_
          refine LW.nil fun aa ha => hK12 _ _ _ ?_ aa ha
          refine CW.ret fun aa ha => ?_
          refine ret_one ha Try.results59 rfl ?_
          exact hS.retB (okX_no2 (by rw [he, rises_not _ _ _ _ hi2 (by rw [Bool.eq_false_iff, ne_eq, edIn_iff]; omega)])).symm
        · have h7_2 := of_decide_eq_false h7_2
          refine PW.ex rfl rfl rfl rfl (Ex.move rfl) ?_
          refine PW.ex rfl rfl rfl rfl (Ex.fieldO 0 Try.underlying43 rfl rfl ti3 rfl) ?_
          refine PW.ex rfl rfl rfl rfl (Ex.load1 ti3 rfl rfl (by first | exact obT rfl | exact Rd.imm ‹_› | exact slT ‹_›)) ?_
          refine PW.ex rfl rfl rfl rfl (Ex.fieldO 1 Try.underlying43 rfl rfl ti3 rfl) ?_
          refine PW.ex rfl rfl rfl rfl (Ex.load1 ti3 rfl rfl (by first | exact obT rfl | exact Rd.imm ‹_› | exact slT ‹_›)) ?_
          refine PW.ex rfl rfl rfl rfl (Ex.geq rfl rfl rfl) ?_
          refine PW.splitB (fun h7_8 => ?_) (fun h7_8 => ?_)
          · have h7_8 := of_decide_eq_true h7_8
            refine PW.ex rfl rfl rfl rfl (by first | exact Ex.pick_yes rfl rfl | exact Ex.pick_no rfl rfl) ?_
            refine PW.ex rfl rfl rfl rfl (Ex.move rfl) ?_
            refine PW.skip rfl rfl rfl rfl ?_
            refine PW.skip rfl rfl rfl rfl ?_
            refine PW.skip rfl rfl rfl rfl ?_
            refine PW.skip rfl rfl rfl rfl ?_
            refine PW.skip rfl rfl rfl rfl ?_
            refine PW.ex rfl rfl rfl rfl (by first | exact Ex.pick_yes rfl rfl | exact Ex.pick_no rfl rfl) ?_
            refine PW.ex rfl rfl rfl rfl (Ex.move rfl) ?_
            refine PW.skip rfl rfl rfl rfl ?_
            refine PW.skip rfl rfl rfl rfl ?_
            refine PW.skip1 rfl rfl rfl rfl ?_
            refine PW.skip rfl rfl rfl rfl ?_
            refine PW.ex rfl rfl rfl rfl (by first | exact Ex.pick_yes rfl rfl | exact Ex.pick_no rfl rfl) ?_
            refine PW.ex rfl rfl rfl rfl (Ex.move rfl) ?_
            refine PW.skip rfl rfl rfl rfl ?_
            refine PW.skip rfl rfl rfl rfl ?_
            refine PW.skip1 rfl rfl rfl rfl ?_
            refine PW.skip rfl rfl rfl rfl ?_
            refine PW.ex rfl rfl rfl rfl (by first | exact Ex.pick_yes rfl rfl | exact Ex.pick_no rfl rfl) ?_
            refine PW.ex rfl rfl rfl rfl (Ex.move rfl) ?_
            refine PW.skip rfl rfl rfl rfl ?_
            refine PW.skip rfl rfl rfl rfl ?_
            refine PW.skip rfl rfl rfl rfl ?_
            refine PW.skip rfl rfl rfl rfl ?_
            refine PW.skip rfl rfl rfl rfl ?_
            refine PW.skip rfl rfl rfl rfl ?_
            refine PW.skip rfl rfl rfl rfl ?_
            refine PW.skip rfl rfl rfl rfl ?_
            refine PW.skip rfl rfl rfl rfl ?_
            refine PW.skip rfl rfl rfl rfl ?_
            refine PW.skip1 rfl rfl rfl rfl ?_
            refine PW.skip rfl rfl rfl rfl ?_
            refine PW.skip rfl rfl rfl rfl ?_
            refine PW.ex rfl rfl rfl rfl (by first | exact Ex.pick_yes rfl rfl | exact Ex.pick_no rfl rfl) ?_
            refine PW.nil ?_
            refine LW.nil fun aa ha => hK11 _ _ _ ?_ aa ha
            refine CW.yes rfl ?_
            refine CW.seq fun K13 hK13 => ?_
            refine CW.region [0] rfl ?_
            refine LW.ex rfl rfl rfl rfl (Ex.assign rfl) hS.rd ?_
            refine LW.nil fun aa ha => hK13 _ _ _ ?_ aa ha
            refine CW.ret fun aa ha => ?_
            refine ret_one ha Try.results59 rfl ?_
            exact hS.retB (okX_no2 (by rw [he, rises_not _ _ _ _ hi2 (by rw [Bool.eq_false_iff, ne_eq, edIn_iff]; omega)])).symm
          · have h7_8 := of_decide_eq_false h7_8
            refine PW.ex rfl rfl rfl rfl (by first | exact Ex.pick_yes rfl rfl | exact Ex.pick_no rfl rfl) ?_
            refine PW.ex rfl rfl rfl rfl (Ex.move rfl) ?_
            refine PW.ex rfl rfl rfl rfl (Ex.fieldO 1 Try.underlying43 rfl rfl ti3 rfl) ?_
            refine PW.ex rfl rfl rfl rfl (Ex.load1 ti3 rfl rfl (by first | exact obT rfl | exact Rd.imm ‹_› | exact slT ‹_›)) ?_
            refine PW.ex rfl rfl rfl rfl (Ex.fieldO 0 Try.underlying38 rfl rfl ti3 rfl) ?_
            refine PW.ex rfl rfl rfl rfl (Ex.load1 ti3 rfl rfl (by first | exact obT rfl | exact Rd.imm ‹_› | exact slT ‹_›)) ?_
            refine PW.ex rfl rfl rfl rfl (Ex.gtr rfl rfl rfl) ?_
            refine PW.splitB (fun h7_15 => ?_) (fun h7_15 => ?_)
            · have h7_15 := of_decide_eq_true h7_15
              refine PW.ex rfl rfl rfl rfl (by first | exact Ex.pick_yes rfl rfl | exact Ex.pick_no rfl rfl) ?_
              refine PW.ex rfl rfl rfl rfl (Ex.move rfl) ?_
              refine PW.skip rfl rfl rfl rfl ?_
              refine PW.skip rfl rfl rfl rfl ?_
              refine PW.skip1 rfl rfl rfl rfl ?_
              refine PW.skip rfl rfl rfl rfl ?_
              refine PW.ex rfl rfl rfl rfl (by first | exact Ex.pick_yes rfl rfl | exact Ex.pick_no rfl rfl) ?_
              refine PW.ex rfl rfl rfl rfl (Ex.move rfl) ?_
              refine PW.skip rfl rfl rfl rfl ?_
              refine PW.skip rfl rfl rfl rfl ?_
              refine PW.skip1 rfl rfl rfl rfl ?_
              refine PW.skip rfl rfl rfl rfl ?_
              refine PW.ex rfl rfl rfl rfl (by first | exact Ex.pick_yes rfl rfl | exact Ex.pick_no rfl rfl) ?_
              refine PW.ex rfl rfl rfl rfl (Ex.move rfl) ?_
              refine PW.skip rfl rfl rfl rfl ?_
              refine PW.skip rfl rfl rfl rfl ?_
              refine PW.skip rfl rfl rfl rfl ?_
              refine PW.skip rfl rfl rfl rfl ?_
              refine PW.skip rfl rfl rfl rfl ?_
              refine PW.skip rfl rfl rfl rfl ?_
              refine PW.skip rfl rfl rfl rfl ?_
              refine PW.skip rfl rfl rfl rfl ?_
              refine PW.skip rfl rfl rfl rfl ?_
              refine PW.skip rfl rfl rfl rfl ?_
              refine PW.skip1 rfl rfl rfl rfl ?_
              refine PW.skip rfl rfl rfl rfl ?_
              refine PW.skip rfl rfl rfl rfl ?_
              refine PW.ex rfl rfl rfl rfl (by first | exact Ex.pick_yes rfl rfl | exact Ex.pick_no rfl rfl) ?_
              refine PW.nil ?_
              refine LW.nil fun aa ha => hK11 _ _ _ ?_ aa ha
              refine CW.yes rfl ?_
              refine CW.seq fun K14 hK14 => ?_
              refine CW.region [0] rfl ?_
              refine LW.ex rfl rfl rfl rfl (Ex.assign rfl) hS.rd ?_
              refine LW.nil fun aa ha => hK14 _ _ _ ?_ aa ha
              refine CW.ret fun aa ha => ?_
              refine ret_one ha Try.results59 rfl ?_
              exact hS.retB (okX_no2 (by rw [he, rises_not _ _ _ _ hi2 (by rw [Bool.eq_false_iff, ne_eq, edIn_iff]; omega)])).symm
            · have h7_15 := of_decide_eq_false h7_15
              refine PW.ex rfl rfl rfl rfl (by first | exact Ex.pick_yes rfl rfl | exact Ex.pick_no rfl rfl) ?_
              refine PW.ex rfl rfl rfl rfl (Ex.move rfl) ?_
              refine PW.ex rfl rfl rfl rfl (Ex.fieldO 2 Try.underlying43 rfl rfl ti3 rfl) ?_
              refine PW.ex rfl rfl rfl rfl (Ex.load1 ti3 rfl rfl (by first | exact obT rfl | exact Rd.imm ‹_› | exact slT ‹_›)) ?_
              refine PW.hv rfl rfl rfl rfl (Hv.callS hS rfl rfl rfl cb36 (in_c _ _ _ _)) (fun _ _ h => h.2.rd) fun v w47 ⟨hv, hS⟩ => ?_
              subst hv
              refine PW.splitB (fun h7_20 => ?_) (fun h7_20 => ?_)
              · have h7_20 := inR_iff.1 h7_20
                refine PW.ex rfl rfl rfl rfl (Ex.not rfl rfl) ?_
                refine PW.ex rfl rfl rfl rfl (by first | exact Ex.pick_yes rfl rfl | exact Ex.pick_no rfl rfl) ?_
                refine PW.ex rfl rfl rfl rfl (Ex.move rfl) ?_
                refine PW.ex rfl rfl rfl rfl (Ex.fieldO 3 Try.underlying43 rfl rfl ti3 rfl) ?_
                refine PW.ex rfl rfl rfl rfl (Ex.load1 ti3 rfl rfl (by first | exact obT rfl | exact Rd.imm ‹_› | exact slT ‹_›)) ?_
                refine PW.hv rfl rfl rfl rfl (Hv.callS hS rfl rfl rfl cb36 (in_c _ _ _ _)) (fun _ _ h => h.2.rd) fun v w53 ⟨hv, hS⟩ => ?_
                subst hv
                refine PW.splitB (fun h7_26 => ?_) (fun h7_26 => ?_)
                · have h7_26 := inR_iff.1 h7_26
                  refine PW.ex rfl rfl rfl rfl (Ex.not rfl rfl) ?_
                  refine PW.ex rfl rfl rfl rfl (by first | exact Ex.pick_yes rfl rfl | exact Ex.pick_no rfl rfl) ?_
                  refine PW.ex rfl rfl rfl rfl (Ex.move rfl) ?_
                  refine PW.ex rfl rfl rfl rfl (Ex.move rfl) ?_
                  refine PW.ex rfl rfl rfl rfl (Ex.gtr rfl rfl rfl) ?_
                  refine PW.splitB (fun h7_31 => ?_) (fun h7_31 => ?_)
                  · have h7_31 := of_decide_eq_true h7_31
                    refine PW.ex rfl rfl rfl rfl (Ex.move rfl) ?_
                    refine PW.ex rfl rfl rfl rfl (Ex.fieldO 1 Try.underlying38 rfl rfl ti36 rfl) ?_
                    refine PW.ex rfl rfl rfl rfl (Ex.load1 ti36 rfl rfl (by first | exact obT rfl | exact Rd.imm ‹_› | exact slT ‹_›)) ?_
                    refine PW.ex rfl rfl rfl rfl (Ex.move rfl) ?_
                    refine PW.ex rfl rfl rfl rfl (Ex.sub rfl rfl (by first | exact dec64 (by omega) (by omega) | exact subN (by omega) (by omega) | exact w64 (by omega) (by omega))) ?_
                    refine PW.ex rfl rfl rfl rfl (Ex.indexSl Try.underlying36 ti43 rfl rfl rfl (by omega)) ?_
                    refine PW.ex rfl rfl rfl rfl (Ex.load4c ti43 rfl rfl (by first | exact obT rfl | exact Rd.imm ‹_› | exact slT ‹_›) (by first | exact obT rfl | exact Rd.imm ‹_› | exact slT ‹_›) (by first | exact obT rfl | exact Rd.imm ‹_› | exact slT ‹_›) (by first | exact obT rfl | exact Rd.imm ‹_› | exact slT ‹_›)) ?_
                    refine PW.ex rfl rfl rfl rfl (Ex.load4c ti43 rfl rfl (by first | exact obT rfl | exact Rd.imm ‹_› | exact slT ‹_›) (by first | exact obT rfl | exact Rd.imm ‹_› | exact slT ‹_›) (by first | exact obT rfl | exact Rd.imm ‹_› | exact slT ‹_›) (by first | exact obT rfl | exact Rd.imm ‹_› | exact slT ‹_›)) ?_
                    refine PW.hv rfl rfl rfl rfl (Hv.callS hS rfl rfl rfl cb54 (edLess_c x.Edges[i - 1] x.Edges[i] _)) (fun _ _ h => h.2.rd) fun v w67 ⟨hv, hS⟩ => ?_
                    subst hv
                    refine PW.splitB (fun h7_40 => ?_) (fun h7_40 => ?_)
                    · skip
                      refine PW.ex rfl rfl rfl rfl (Ex.not rfl rfl) ?_
                      refine PW.ex rfl rfl rfl rfl (by first | exact Ex.pick_yes rfl rfl | exact Ex.pick_no rfl rfl) ?_
                      refine PW.ex rfl rfl rfl rfl (by first | exact Ex.pick_yes rfl rfl | exact Ex.pick_no rfl rfl) ?_
                      refine PW.nil ?_
                      refine LW.nil fun aa ha => hK11 _ _ _ ?_ aa ha
                      refine CW.no rfl ?_
                      refine CW.skip fun aa ha => hK9 _ _ _ ?_ aa ha
                      refine CW.region [0, 1, 2] rfl ?_
                      refine LW.ex rfl rfl rfl rfl (Ex.move rfl) hS.rd ?_
                      refine LW.ex rfl rfl rfl rfl (Ex.add rfl rfl (by first | exact inc64 (by omega) | exact addN (by omega) | exact w64 (by omega) (by omega))) hS.rd ?_
                      refine LW.ex rfl rfl rfl rfl (Ex.assign rfl) hS.rd ?_
                      refine LW.nil fun aa ha => ?_
                      have hS := hS.drop 0 rfl
                      dsimp only [List.eraseIdx] at hS
                      refine ⟨_, _, ?m4, ⟨i + 1, (by first | omega | (simp; done) | (simp; omega)), rfl, rfl, hS, ?_⟩, ha.sub ⟨rfl, rfl, trivial⟩⟩
                      case m4 => omega
                      rw [he]; exact rises_step _ _ _ _ hi2 (edIn_iff.2 (by omega)) (fun _ => h7_40)
                    · skip
                      refine PW.ex rfl rfl rfl rfl (Ex.not rfl rfl) ?_
                      refine PW.ex rfl rfl rfl rfl (by first | exact Ex.pick_yes rfl rfl | exact Ex.pick_no rfl rfl) ?_
                      refine PW.ex rfl rfl rfl rfl (by first | exact Ex.pick_yes rfl rfl | exact Ex.pick_no rfl rfl) ?_
                      refine PW.nil ?_
                      refine LW.nil fun aa ha => hK11 _ _ _ ?_ aa ha
                      refine CW.yes rfl ?_
                      refine CW.seq fun K15 hK15 => ?_
                      refine CW.region [0] rfl ?_
                      refine LW.ex rfl rfl rfl rfl (Ex.assign rfl) hS.rd ?_
                      refine LW.nil fun aa ha => hK15 _ _ _ ?_ aa ha
                      refine CW.ret fun aa ha => ?_
                      refine ret_one ha Try.results59 rfl ?_
                      exact hS.retB (okX_no2 (by rw [he, rises_not2 _ _ _ _ hi2 (by omega) h7_40])).symm
                  · have h7_31 := of_decide_eq_false h7_31
                    refine PW.ex rfl rfl rfl rfl (Ex.move rfl) ?_
                    refine PW.skip rfl rfl rfl rfl ?_
                    refine PW.skip rfl rfl rfl rfl ?_
                    refine PW.skip rfl rfl rfl rfl ?_
                    refine PW.skip rfl rfl rfl rfl ?_
                    refine PW.skip rfl rfl rfl rfl ?_
                    refine PW.skip rfl rfl rfl rfl ?_
                    refine PW.skip rfl rfl rfl rfl ?_
                    refine PW.skip1 rfl rfl rfl rfl ?_
                    refine PW.skip rfl rfl rfl rfl ?_
                    refine PW.ex rfl rfl rfl rfl (by first | exact Ex.pick_yes rfl rfl | exact Ex.pick_no rfl rfl) ?_
                    refine PW.ex rfl rfl rfl rfl (by first | exact Ex.pick_yes rfl rfl | exact Ex.pick_no rfl rfl) ?_
                    refine PW.nil ?_
                    refine LW.nil fun aa ha => hK11 _ _ _ ?_ aa ha
                    refine CW.no rfl ?_
                    refine CW.skip fun aa ha => hK9 _ _ _ ?_ aa ha
                    refine CW.region [0, 1, 2] rfl ?_
                    refine LW.ex rfl rfl rfl rfl (Ex.move rfl) hS.rd ?_
                    refine LW.ex rfl rfl rfl rfl (Ex.add rfl rfl (by first | exact inc64 (by omega) | exact addN (by omega) | exact w64 (by omega) (by omega))) hS.rd ?_
                    refine LW.ex rfl rfl rfl rfl (Ex.assign rfl) hS.rd ?_
                    refine LW.nil fun aa ha => ?_
                    have hS := hS.drop 0 rfl
                    dsimp only [List.eraseIdx] at hS
                    refine ⟨_, _, ?m4, ⟨i + 1, (by first | omega | (simp; done) | (simp; omega)), rfl, rfl, hS, ?_⟩, ha.sub ⟨rfl, rfl, trivial⟩⟩
                    case m4 => omega
                    rw [he]; exact rises_step _ _ _ _ hi2 (edIn_iff.2 (by omega)) (fun h0 => by omega)
                · have h7_26 := inR_no h7_26
                  refine PW.ex rfl rfl rfl rfl (Ex.not rfl rfl) ?_
                  refine PW.ex rfl rfl rfl rfl (by first | exact Ex.pick_yes rfl rfl | exact Ex.pick_no rfl rfl) ?_
                  refine PW.ex rfl rfl rfl rfl (Ex.move rfl) ?_
                  refine PW.skip rfl rfl rfl rfl ?_
                  refine PW.skip rfl rfl rfl rfl ?_
                  refine PW.skip rfl rfl rfl rfl ?_
                  refine PW.skip rfl rfl rfl rfl ?_
                  refine PW.skip rfl rfl rfl rfl ?_
                  refine PW.skip rfl rfl rfl rfl ?_
                  refine PW.skip rfl rfl rfl rfl ?_
                  refine PW.skip rfl rfl rfl rfl ?_
                  refine PW.skip rfl rfl rfl rfl ?_
                  refine PW.skip rfl rfl rfl rfl ?_
                  refine PW.skip1 rfl rfl rfl rfl ?_
                  refine PW.skip rfl rfl rfl rfl ?_
                  refine PW.skip rfl rfl rfl rfl ?_
                  refine PW.ex rfl rfl rfl rfl (by first | exact Ex.pick_yes rfl rfl | exact Ex.pick_no rfl rfl) ?_
                  refine PW.nil ?_
                  refine LW.nil fun aa ha => hK11 _ _ _ ?_ aa ha
                  refine CW.yes rfl ?_
                  refine CW.seq fun K16 hK16 => ?_
                  refine CW.region [0] rfl ?_
                  refine LW.ex rfl rfl rfl rfl (Ex.assign rfl) hS.rd ?_
                  refine LW.nil fun aa ha => hK16 _ _ _ ?_ aa ha
                  refine CW.ret fun aa ha => ?_
                  refine ret_one ha Try.results59 rfl ?_
                  exact hS.retB (okX_no2 (by rw [he, rises_not _ _ _ _ hi2 (by rw [Bool.eq_false_iff, ne_eq, edIn_iff]; omega)])).symm
              · have h7_20 := inR_no h7_20
                refine PW.ex rfl rfl rfl rfl (Ex.not rfl rfl) ?_
                refine PW.ex rfl rfl rfl rfl (by first | exact Ex.pick_yes rfl rfl | exact Ex.pick_no rfl rfl) ?_
                refine PW.ex rfl rfl rfl rfl (Ex.move rfl) ?_
                refine PW.skip rfl rfl rfl rfl ?_
                refine PW.skip rfl rfl rfl rfl ?_
                refine PW.skip1 rfl rfl rfl rfl ?_
                refine PW.skip rfl rfl rfl rfl ?_
                refine PW.ex rfl rfl rfl rfl (by first | exact Ex.pick_yes rfl rfl | exact Ex.pick_no rfl rfl) ?_
                refine PW.ex rfl rfl rfl rfl (Ex.move rfl) ?_
                refine PW.skip rfl rfl rfl rfl ?_
                refine PW.skip rfl rfl rfl rfl ?_
                refine PW.skip rfl rfl rfl rfl ?_
                refine PW.skip rfl rfl rfl rfl ?_
                refine PW.skip rfl rfl rfl rfl ?_
                refine PW.skip rfl rfl rfl rfl ?_
                refine PW.skip rfl rfl rfl rfl ?_
                refine PW.skip rfl rfl rfl rfl ?_
                refine PW.skip rfl rfl rfl rfl ?_
                refine PW.skip rfl rfl rfl rfl ?_
                refine PW.skip1 rfl rfl rfl rfl ?_
                refine PW.skip rfl rfl rfl rfl ?_
                refine PW.skip rfl rfl rfl rfl ?_
                refine PW.ex rfl rfl rfl rfl (by first | exact Ex.pick_yes rfl rfl | exact Ex.pick_no rfl rfl) ?_
                refine PW.nil ?_
                refine LW.nil fun aa ha => hK11 _ _ _ ?_ aa ha
                refine CW.yes rfl ?_
                refine CW.seq fun K17 hK17 => ?_
                refine CW.region [0] rfl ?_
                refine LW.ex rfl rfl rfl rfl (Ex.assign rfl) hS.rd ?_
                refine LW.nil fun aa ha => hK17 _ _ _ ?_ aa ha
                refine CW.ret fun aa ha => ?_
                refine ret_one ha Try.results59 rfl ?_
                exact hS.retB (okX_no2 (by rw [he, rises_not _ _ _ _ hi2 (by rw [Bool.eq_false_iff, ne_eq, edIn_iff]; omega)])).symm
      · have h4_4 := of_decide_eq_false h4_4
        refine LW.nil fun aa ha => hK8 _ _ _ ?_ aa ha
        refine CW.no rfl ?_
        refine CW.exit fun aa ha => hK5 _ _ _ ?_ aa ha
        refine CW.seq fun K18 hK18 => ?_
        refine CW.region [0] rfl ?_
        refine LW.ex rfl rfl rfl rfl (Ex.assign rfl) hS.rd ?_
        refine LW.nil fun aa ha => hK18 _ _ _ ?_ aa ha
        refine CW.ret fun aa ha => ?_
        refine ret_one ha Try.results59 rfl ?_
        have hdr : okX x = true := by unfold okX; rw [he, rises_end _ _ _ _ (by omega), decide_eq_true (by omega)]; rfl
        rw [hdr]; exact hS.retS
  · have h1_2 := inR_no h1_2
    refine LW.ex rfl rfl rfl rfl (Ex.not rfl rfl) hS.rd ?_
    refine LW.ex rfl rfl rfl rfl (Ex.move rfl) hS.rd ?_
    refine LW.skip rfl rfl rfl rfl ?_
    refine LW.skip rfl rfl rfl rfl ?_
    refine LW.skip rfl rfl rfl rfl ?_
    refine LW.skip rfl rfl rfl rfl ?_
    refine LW.ex rfl rfl rfl rfl (by first | exact Ex.pick_yes rfl rfl | exact Ex.pick_no rfl rfl) hS.rd ?_
    refine LW.nil fun aa ha => hK3 _ _ _ ?_ aa ha
    refine CW.yes rfl ?_
    refine CW.seq fun K19 hK19 => ?_
    refine CW.region [0] rfl ?_
    refine LW.ex rfl rfl rfl rfl (Ex.assign rfl) hS.rd ?_
    refine LW.nil fun aa ha => hK19 _ _ _ ?_ aa ha
    refine CW.ret fun aa ha => ?_
    refine ret_one ha Try.results59 rfl ?_
    exact hS.retB (okX_no1 (by omega)).symm
def wordsIn (x : Lat) (n : Nat) : Bool := x.Edges.all fun e => decide (e.Word < n)
noncomputable def fitsB (x : Lat) (m : Mdl) : Bool := okX x && wordsIn x m.Words.length && okM m
theorem wordsIn_no {x : Lat} {n i : Nat} (h : i < x.Edges.length) (h1 : ¬ x.Edges[i].Word < n) : wordsIn x n = false := by
  unfold wordsIn; rw [List.all_eq_false]; exact ⟨_, List.getElem_mem h, by simpa using h1⟩
theorem wordsIn_yes {x : Lat} {n : Nat} (h : ∀ j (hj : j < x.Edges.length), x.Edges[j].Word < n) : wordsIn x n = true := by
  unfold wordsIn; rw [List.all_eq_true]; intro e he; obtain ⟨j, hj, rfl⟩ := List.getElem_of_mem he; exact decide_eq_true (h j hj)
set_option maxRecDepth 100000 in
theorem rfits_c (x : Lat) (m : Mdl) (hws : ∀ s ∈ m.Words, s.size ≤ 9223372036854775807) (hN : NSmall m.Pairs) (a0 a1 a2 : Option Addr) (c0 c1 c2 : Nat) (a3 : Option Addr) (c3 : Nat) (μ : Mem) (w : World) (hμ : Imm μ w) (hx : Sl μ a3 c3 x.Edges) (hm0 : Sl μ a0 c0 m.Words) (hm1 : Sl μ a1 c1 m.Counts) (hm2 : Sl μ a2 c2 m.Pairs) :
    Calls Try.prog 35 #[.agg #[.int .i64 x.N, .slice a3 x.Edges.length c3], .agg #[.slice a0 m.Words.length c0, .slice a1 m.Counts.length c1, .slice a2 m.Pairs.length c2, .int .i64 m.Back]] w (RetS w (.bool (fitsB x m))) := by
  have hm0l := hm0.1
  have hm0c := hm0.2.1
  simp only [maxLen] at hm0c
  have hS := St.start w μ hμ
  refine calls_start 31 [.agg #[.int .i64 x.N, .slice a3 x.Edges.length c3], .agg #[.slice a0 m.Words.length c0, .slice a1 m.Counts.length c1, .slice a2 m.Pairs.length c2, .int .i64 m.Back]] Try.func35 rfl Try.ntmps35 rfl rfl ?_
  refine CW.seq fun K20 hK20 => ?_
  refine CW.region [0, 1, 2] rfl ?_
  refine LW.hv rfl rfl rfl rfl (Hv.boxS hS rfl rfl) fun v w2 ⟨b2, hv, hb2, hS⟩ => ?_
  subst hv
  refine LW.hv rfl rfl rfl rfl (Hv.boxS hS rfl rfl) fun v w3 ⟨b3, hv, hb3, hS⟩ => ?_
  subst hv
  refine LW.ex rfl rfl rfl rfl (Ex.assign rfl) hS.rd ?_
  refine LW.nil fun aa ha => hK20 _ _ _ ?_ aa ha
  refine CW.seq fun K21 hK21 => ?_
  refine CW.seq fun K22 hK22 => ?_
  refine CW.region [0, 1, 2, 3, 4, 5, 6, 7] rfl ?_
  refine LW.ex rfl rfl rfl rfl (Ex.load2c ti38 rfl rfl (by first | exact obT rfl | exact Rd.imm ‹_› | exact slT ‹_›) (by first | exact obT rfl | exact Rd.imm ‹_› | exact slT ‹_›)) hS.rd ?_
  refine LW.hv rfl rfl rfl rfl (Hv.callS hS rfl rfl rfl cb59 (rxvalid_c x _ _ μ _ hS.imm hx)) fun v w7 ⟨hv, hS⟩ => ?_
  subst hv
  refine LW.splitB (fun h1_1 => ?_) (fun h1_1 => ?_)
  · skip
    refine LW.ex rfl rfl rfl rfl (Ex.not rfl rfl) hS.rd ?_
    refine LW.ex rfl rfl rfl rfl (Ex.move rfl) hS.rd ?_
    refine LW.ex rfl rfl rfl rfl (Ex.load4c ti34 rfl rfl (by first | exact obT rfl | exact Rd.imm ‹_› | exact slT ‹_›) (by first | exact obT rfl | exact Rd.imm ‹_› | exact slT ‹_›) (by first | exact obT rfl | exact Rd.imm ‹_› | exact slT ‹_›) (by first | exact obT rfl | exact Rd.imm ‹_› | exact slT ‹_›)) hS.rd ?_
    refine LW.hv rfl rfl rfl rfl (Hv.callS hS rfl rfl rfl cb34 (rvalid_c m hws hN _ _ _ _ _ _ μ _ hS.imm hm0 hm1 hm2)) fun v w11 ⟨hv, hS⟩ => ?_
    subst hv
    refine LW.splitB (fun h1_5 => ?_) (fun h1_5 => ?_)
    · skip
      refine LW.ex rfl rfl rfl rfl (Ex.not rfl rfl) hS.rd ?_
      refine LW.ex rfl rfl rfl rfl (by first | exact Ex.pick_yes rfl rfl | exact Ex.pick_no rfl rfl) hS.rd ?_
      refine LW.nil fun aa ha => hK22 _ _ _ ?_ aa ha
      refine CW.no rfl ?_
      refine CW.skip fun aa ha => hK21 _ _ _ ?_ aa ha
      refine CW.seq fun K23 hK23 => ?_
      refine CW.seq fun K24 hK24 => ?_
      refine CW.region [0] rfl ?_
      refine LW.ex rfl rfl rfl rfl (Ex.assign rfl) hS.rd ?_
      refine LW.nil fun aa ha => hK24 _ _ _ ?_ aa ha
      refine CW.block ?_
      refine CW.loop (fun qq frm wl4 => ∃ (i : Nat), i ≤ x.Edges.length ∧ qq = x.Edges.length - i ∧ frm = [(2, .pointer (some ⟨b2, 0, none⟩)), (3, .pointer (some ⟨b3, 0, none⟩)), (5, .int .i64 i)] ∧ St w wl4 μ [Own.obj b3 [.slice a0 m.Words.length c0, .slice a1 m.Counts.length c1, .slice a2 m.Pairs.length c2, .int .i64 m.Back] 34, Own.obj b2 [.int .i64 x.N, .slice a3 x.Edges.length c3] 38] ∧ (∀ j (hj : j < x.Edges.length), j < i → x.Edges[j].Word < m.Words.length)) _ ⟨0, (by first | omega | (simp; done) | (simp; omega)), rfl, rfl, hS, fun j _ hj => by omega⟩ ⟨rfl, rfl, rfl, trivial⟩ ?_
      clear hS
      rintro qq frm wl4 ⟨i, hi, hq, rfl, hS, he⟩
      refine CW.seq fun K25 hK25 => ?_
      refine CW.seq fun K26 hK26 => ?_
      refine CW.region [0, 1, 2, 3, 4] rfl ?_
      refine LW.ex rfl rfl rfl rfl (Ex.move rfl) hS.rd ?_
      refine LW.ex rfl rfl rfl rfl (Ex.fieldO 1 Try.underlying38 rfl rfl ti36 rfl) hS.rd ?_
      refine LW.ex rfl rfl rfl rfl (Ex.load1 ti36 rfl rfl (by first | exact obT rfl | exact Rd.imm ‹_› | exact slT ‹_›)) hS.rd ?_
      refine LW.ex rfl rfl rfl rfl (Ex.lenSl rfl Try.underlying36 rfl) hS.rd ?_
      refine LW.ex rfl rfl rfl rfl (Ex.lss rfl rfl rfl) hS.rd ?_
      refine LW.splitB (fun h4_4 => ?_) (fun h4_4 => ?_)
      · have h4_4 := of_decide_eq_true h4_4
        refine LW.nil fun aa ha => hK26 _ _ _ ?_ aa ha
        refine CW.yes rfl ?_
        refine CW.skip fun aa ha => hK25 _ _ _ ?_ aa ha
        refine CW.seq fun K27 hK27 => ?_
        refine CW.block ?_
        refine CW.seq fun K28 hK28 => ?_
        have hi2 : i < x.Edges.length := by omega
        have hxl := hx.1
        have hxc := hx.2.1
        simp only [maxLen] at hxc
        obtain ⟨bl, ol, rfl, k0, k1, k2, k3⟩ := hx.at hi2
        have hS := hS.drew
        refine CW.draw 10 (.ex 0 <| .ex 1 <| .ex 2 <| .ex 3 <| .ex 4 <| .ex 5 <| .ex 6 <| .ex 7 <| .ex 8 <| .ex 9 <| .done) [] (Rd _ _) mixed (by kernel_rfl) rfl rfl hS.rd ?_
        refine PW.ex rfl rfl rfl rfl (Ex.fieldO 1 Try.underlying38 rfl rfl ti36 rfl) ?_
        refine PW.ex rfl rfl rfl rfl (Ex.load1 ti36 rfl rfl (by first | exact obT rfl | exact Rd.imm ‹_› | exact slT ‹_›)) ?_
        refine PW.ex rfl rfl rfl rfl (Ex.move rfl) ?_
        refine PW.ex rfl rfl rfl rfl (Ex.indexSl Try.underlying36 ti43 rfl rfl rfl (by omega)) ?_
        refine PW.ex rfl rfl rfl rfl (Ex.fieldO 2 Try.underlying43 rfl rfl ti3 rfl) ?_
        refine PW.ex rfl rfl rfl rfl (Ex.load1 ti3 rfl rfl (by first | exact obT rfl | exact Rd.imm ‹_› | exact slT ‹_›)) ?_
        refine PW.ex rfl rfl rfl rfl (Ex.fieldO 0 Try.underlying34 rfl rfl ti30 rfl) ?_
        refine PW.ex rfl rfl rfl rfl (Ex.load1 ti30 rfl rfl (by first | exact obT rfl | exact Rd.imm ‹_› | exact slT ‹_›)) ?_
        refine PW.ex rfl rfl rfl rfl (Ex.lenSl rfl Try.underlying30 rfl) ?_
        refine PW.ex rfl rfl rfl rfl (Ex.geq rfl rfl rfl) ?_
        refine PW.splitB (fun h6_9 => ?_) (fun h6_9 => ?_)
        · have h6_9 := of_decide_eq_true h6_9
          refine PW.nil ?_
          refine LW.nil fun aa ha => hK28 _ _ _ ?_ aa ha
          refine CW.yes rfl ?_
          refine CW.seq fun K29 hK29 => ?_
          refine CW.region [0] rfl ?_
          refine LW.ex rfl rfl rfl rfl (Ex.assign rfl) hS.rd ?_
          refine LW.nil fun aa ha => hK29 _ _ _ ?_ aa ha
          refine CW.ret fun aa ha => ?_
          refine ret_one ha Try.results35 rfl ?_
          exact hS.retB (by unfold fitsB; rw [wordsIn_no hi2 (by omega), Bool.and_false]; rfl)
        · have h6_9 := of_decide_eq_false h6_9
          refine PW.nil ?_
          refine LW.nil fun aa ha => hK28 _ _ _ ?_ aa ha
          refine CW.no rfl ?_
          refine CW.skip fun aa ha => hK27 _ _ _ ?_ aa ha
          refine CW.region [0, 1, 2] rfl ?_
          refine LW.ex rfl rfl rfl rfl (Ex.move rfl) hS.rd ?_
          refine LW.ex rfl rfl rfl rfl (Ex.add rfl rfl (by first | exact inc64 (by omega) | exact addN (by omega) | exact w64 (by omega) (by omega))) hS.rd ?_
          refine LW.ex rfl rfl rfl rfl (Ex.assign rfl) hS.rd ?_
          refine LW.nil fun aa ha => ?_
          refine ⟨_, _, ?m4, ⟨i + 1, (by first | omega | (simp; done) | (simp; omega)), rfl, rfl, hS, ?_⟩, ha.sub ⟨rfl, rfl, rfl, trivial⟩⟩
          case m4 => omega
          intro j hj hji
          by_cases hj2 : j = i
          · subst hj2; omega
          · exact he j hj (by omega)
      · have h4_4 := of_decide_eq_false h4_4
        refine LW.nil fun aa ha => hK26 _ _ _ ?_ aa ha
        refine CW.no rfl ?_
        refine CW.exit fun aa ha => hK23 _ _ _ ?_ aa ha
        refine CW.seq fun K30 hK30 => ?_
        refine CW.region [0] rfl ?_
        refine LW.ex rfl rfl rfl rfl (Ex.assign rfl) hS.rd ?_
        refine LW.nil fun aa ha => hK30 _ _ _ ?_ aa ha
        refine CW.ret fun aa ha => ?_
        refine ret_one ha Try.results35 rfl ?_
        refine hS.retB ?_
        unfold fitsB
        rw [wordsIn_yes fun j hj => he j hj (by omega)]
        simp_all
    · skip
      refine LW.ex rfl rfl rfl rfl (Ex.not rfl rfl) hS.rd ?_
      refine LW.ex rfl rfl rfl rfl (by first | exact Ex.pick_yes rfl rfl | exact Ex.pick_no rfl rfl) hS.rd ?_
      refine LW.nil fun aa ha => hK22 _ _ _ ?_ aa ha
      refine CW.yes rfl ?_
      refine CW.seq fun K31 hK31 => ?_
      refine CW.region [0] rfl ?_
      refine LW.ex rfl rfl rfl rfl (Ex.assign rfl) hS.rd ?_
      refine LW.nil fun aa ha => hK31 _ _ _ ?_ aa ha
      refine CW.ret fun aa ha => ?_
      refine ret_one ha Try.results35 rfl ?_
      exact hS.retB (by unfold fitsB; rw [show okM m = false by assumption, Bool.and_false])
  · skip
    refine LW.ex rfl rfl rfl rfl (Ex.not rfl rfl) hS.rd ?_
    refine LW.ex rfl rfl rfl rfl (Ex.move rfl) hS.rd ?_
    refine LW.skip rfl rfl rfl rfl ?_
    refine LW.skip rfl rfl rfl rfl ?_
    refine LW.skip rfl rfl rfl rfl ?_
    refine LW.ex rfl rfl rfl rfl (by first | exact Ex.pick_yes rfl rfl | exact Ex.pick_no rfl rfl) hS.rd ?_
    refine LW.nil fun aa ha => hK22 _ _ _ ?_ aa ha
    refine CW.yes rfl ?_
    refine CW.seq fun K32 hK32 => ?_
    refine CW.region [0] rfl ?_
    refine LW.ex rfl rfl rfl rfl (Ex.assign rfl) hS.rd ?_
    refine LW.nil fun aa ha => hK32 _ _ _ ?_ aa ha
    refine CW.ret fun aa ha => ?_
    refine ret_one ha Try.results35 rfl ?_
    exact hS.retB (by unfold fitsB; rw [h1_1]; rfl)
theorem fits1_c (e : Edge) (b4 : Nat) (m : Mdl) (a0 a1 a2 : Option Addr) (c0 c1 c2 : Nat) (μ : Mem) (w : World) (hμ : Imm μ w) (h0 : μ.cell b4 (0 + 0) = some (.slice a0 m.Words.length c0)) :
    Calls Try.prog 66 #[edgeV e, .pointer (some ⟨b4, 0, none⟩)] w (RetS w (.bool (decide ((m.Words.length : Int) ≤ e.Word)))) := by
  have hS := St.start w μ hμ
  refine calls_start 10 [edgeV e, .pointer (some ⟨b4, 0, none⟩)] Try.func66 rfl Try.ntmps66 rfl rfl ?_
  refine CW.seq fun K33 hK33 => ?_
  refine CW.region [0, 1] rfl ?_
  refine LW.hv rfl rfl rfl rfl (Hv.boxS hS rfl rfl) fun v w2 ⟨b2, hv, hb2, hS⟩ => ?_
  subst hv
  refine LW.ex rfl rfl rfl rfl (Ex.assign rfl) hS.rd ?_
  refine LW.nil fun aa ha => hK33 _ _ _ ?_ aa ha
  refine CW.seq fun K34 hK34 => ?_
  refine CW.region [0, 1, 2, 3, 4, 5, 6] rfl ?_
  refine LW.ex rfl rfl rfl rfl (Ex.fieldO 2 Try.underlying43 rfl rfl ti3 rfl) hS.rd ?_
  refine LW.ex rfl rfl rfl rfl (Ex.load1 ti3 rfl rfl (by first | exact obT rfl | exact Rd.imm ‹_› | exact slT ‹_›)) hS.rd ?_
  refine LW.ex rfl rfl rfl rfl (Ex.fieldO 0 Try.underlying34 rfl rfl ti30 rfl) hS.rd ?_
  refine LW.ex rfl rfl rfl rfl (Ex.load1 ti30 rfl rfl (by first | exact obT rfl | exact Rd.imm ‹_› | exact slT ‹_›)) hS.rd ?_
  refine LW.ex rfl rfl rfl rfl (Ex.lenSl rfl Try.underlying30 rfl) hS.rd ?_
  refine LW.ex rfl rfl rfl rfl (Ex.geq rfl rfl (by first | exact decide_eq_true (by omega) | exact decide_eq_false (by omega) | rfl)) hS.rd ?_
  refine LW.ex rfl rfl rfl rfl (Ex.assign rfl) hS.rd ?_
  refine LW.nil fun aa ha => hK34 _ _ _ ?_ aa ha
  refine CW.ret fun aa ha => ?_
  refine ret_one ha Try.results66 rfl ?_
  exact hS.retS
def firstI {α : Type} (p : α → Bool) (xs : List α) : Int := if xs.findIdx p < xs.length then (xs.findIdx p : Nat) else -1
theorem indexEd_c (xs : List Edge) (p : Edge → Bool) (f : Nat) (cap : Array Value) (hf : Callable Try.prog f) (ad : Option Addr) (c : Nat) (μ : Mem) (w : World) (hμ : Imm μ w) (hl : Sl μ ad c xs)
    (hp : ∀ x ∈ xs, ∀ w', Imm μ w' → Calls Try.prog f ([edgeV x] ++ cap.toList).toArray w' (RetS w' (.bool (p x)))) :
    Calls Try.prog 84 #[.slice ad xs.length c, .func (.func f) #[] cap] w (RetS w (.int .i64 (firstI p xs))) := by
  have hll := hl.1
  have hlc := hl.2.1
  simp only [maxLen] at hlc
  have hS := St.start w μ hμ
  refine calls_start 19 [.slice ad xs.length c, .func (.func f) #[] cap] Try.func84 rfl Try.ntmps84 rfl rfl ?_
  refine CW.seq fun K35 hK35 => ?_
  refine CW.region [0] rfl ?_
  refine LW.ex rfl rfl rfl rfl (Ex.assign rfl) hS.rd ?_
  refine LW.nil fun aa ha => hK35 _ _ _ ?_ aa ha
  refine CW.seq fun K36 hK36 => ?_
  refine CW.seq fun K37 hK37 => ?_
  refine CW.region [0, 1, 2] rfl ?_
  refine LW.ex rfl rfl rfl rfl (Ex.move rfl) hS.rd ?_
  refine LW.ex rfl rfl rfl rfl (Ex.lenSl rfl Try.underlying36 rfl) hS.rd ?_
  refine LW.ex rfl rfl rfl rfl (Ex.move rfl) hS.rd ?_
  refine LW.nil fun aa ha => hK37 _ _ _ ?_ aa ha
  refine CW.block ?_
  refine CW.loop (fun qq frm wl2 => ∃ (i : Nat), i ≤ xs.length ∧ qq = xs.length - i ∧ frm = [(0, .slice ad xs.length c), (1, .func (.func f) #[] cap), (7, .int .i64 ((xs.length : Nat) : Int)), (8, .int .i64 i)] ∧ St w wl2 μ [] ∧ (∀ j (hj : j < xs.length), j < i → p xs[j] = false)) _ ⟨0, (by first | omega | (simp; done) | (simp; omega)), rfl, rfl, hS, fun j _ hj => by omega⟩ ⟨rfl, rfl, rfl, rfl, trivial⟩ ?_
  clear hS
  rintro qq frm wl2 ⟨i, hi, hq, rfl, hS, he⟩
  refine CW.seq fun K38 hK38 => ?_
  refine CW.region [0] rfl ?_
  refine LW.ex rfl rfl rfl rfl (Ex.lss rfl rfl rfl) hS.rd ?_
  refine LW.splitB (fun h2_0 => ?_) (fun h2_0 => ?_)
  · have h2_0 := of_decide_eq_true h2_0
    refine LW.nil fun aa ha => hK38 _ _ _ ?_ aa ha
    refine CW.seq fun K39 hK39 => ?_
    refine CW.yes rfl ?_
    refine CW.skip fun aa ha => hK39 _ _ _ ?_ aa ha
    refine CW.seq fun K40 hK40 => ?_
    refine CW.block ?_
    refine CW.seq fun K41 hK41 => ?_
    have hi2 : i < xs.length := by omega
    obtain ⟨bl, ol, rfl, k0, k1, k2, k3⟩ := hl.at hi2
    refine CW.region [0, 1] rfl ?_
    refine LW.ex rfl rfl rfl rfl (Ex.move rfl) hS.rd ?_
    refine LW.ex rfl rfl rfl rfl (Ex.assign rfl) hS.rd ?_
    refine LW.nil fun aa ha => hK41 _ _ _ ?_ aa ha
    refine CW.seq fun K42 hK42 => ?_
    refine CW.region [0, 1, 2, 3, 4, 5] rfl ?_
    refine LW.ex rfl rfl rfl rfl (Ex.move rfl) hS.rd ?_
    refine LW.ex rfl rfl rfl rfl (Ex.move rfl) hS.rd ?_
    refine LW.ex rfl rfl rfl rfl (Ex.move rfl) hS.rd ?_
    refine LW.ex rfl rfl rfl rfl (Ex.indexSl Try.underlying36 ti43 rfl rfl rfl (by omega)) hS.rd ?_
    refine LW.ex rfl rfl rfl rfl (Ex.load4c ti43 rfl rfl (by first | exact obT rfl | exact Rd.imm ‹_› | exact slT ‹_›) (by first | exact obT rfl | exact Rd.imm ‹_› | exact slT ‹_›) (by first | exact obT rfl | exact Rd.imm ‹_› | exact slT ‹_›) (by first | exact obT rfl | exact Rd.imm ‹_› | exact slT ‹_›)) hS.rd ?_
    refine LW.hv rfl rfl rfl rfl (Hv.callS hS rfl rfl rfl hf (hp xs[i] (List.getElem_mem hi2) _ hS.imm)) fun v w16 ⟨hv, hS⟩ => ?_
    subst hv
    refine LW.splitB (fun h4_5 => ?_) (fun h4_5 => ?_)
    · skip
      refine LW.nil fun aa ha => hK42 _ _ _ ?_ aa ha
      refine CW.yes rfl ?_
      refine CW.seq fun K43 hK43 => ?_
      refine CW.region [0, 1] rfl ?_
      refine LW.ex rfl rfl rfl rfl (Ex.move rfl) hS.rd ?_
      refine LW.ex rfl rfl rfl rfl (Ex.assign rfl) hS.rd ?_
      refine LW.nil fun aa ha => hK43 _ _ _ ?_ aa ha
      refine CW.ret fun aa ha => ?_
      refine ret_one ha Try.results84 rfl ?_
      exact hS.retE (by unfold firstI; rw [(List.findIdx_eq hi2).2 ⟨h4_5, fun j hj => he j (by omega) hj⟩, if_pos hi2])
    · skip
      refine LW.nil fun aa ha => hK42 _ _ _ ?_ aa ha
      refine CW.no rfl ?_
      refine CW.skip fun aa ha => hK40 _ _ _ ?_ aa ha
      refine CW.region [0, 1] rfl ?_
      refine LW.ex rfl rfl rfl rfl (Ex.add rfl rfl (by first | exact inc64 (by omega) | exact addN (by omega) | exact w64 (by omega) (by omega))) hS.rd ?_
      refine LW.ex rfl rfl rfl rfl (Ex.move rfl) hS.rd ?_
      refine LW.nil fun aa ha => ?_
      refine ⟨_, _, ?m2, ⟨i + 1, (by first | omega | (simp; done) | (simp; omega)), rfl, rfl, hS, ?_⟩, ha.sub ⟨rfl, rfl, rfl, rfl, trivial⟩⟩
      case m2 => omega
      intro j hj hji
      by_cases hj2 : j = i
      · subst hj2; exact h4_5
      · exact he j hj (by omega)
  · have h2_0 := of_decide_eq_false h2_0
    refine LW.nil fun aa ha => hK38 _ _ _ ?_ aa ha
    refine CW.seq fun K44 hK44 => ?_
    refine CW.no rfl ?_
    refine CW.exit fun aa ha => hK36 _ _ _ ?_ aa ha
    refine CW.seq fun K45 hK45 => ?_
    refine CW.region [0] rfl ?_
    refine LW.ex rfl rfl rfl rfl (Ex.assign rfl) hS.rd ?_
    refine LW.nil fun aa ha => hK45 _ _ _ ?_ aa ha
    refine CW.ret fun aa ha => ?_
    refine ret_one ha Try.results84 rfl ?_
    exact hS.retE (by unfold firstI; rw [List.findIdx_eq_length.2 fun y hy => (by obtain ⟨j, hj, rfl⟩ := List.getElem_of_mem hy; exact he j hj (by omega)), if_neg (by omega)])
theorem firstI_any {α : Type} (p : α → Bool) (xs : List α) : decide (0 ≤ firstI p xs) = xs.any p := by
  unfold firstI
  by_cases h : xs.findIdx p < xs.length
  · rw [if_pos h, decide_eq_true (by omega)]
    symm; rw [List.any_eq_true]
    exact ⟨_, List.getElem_mem h, List.findIdx_getElem⟩
  · rw [if_neg h, decide_eq_false (by omega)]
    symm; rw [List.any_eq_false]
    intro x hx hp
    exact h (List.findIdx_lt_length_of_exists ⟨x, hx, hp⟩)
theorem containsEd_c (xs : List Edge) (p : Edge → Bool) (f : Nat) (cap : Array Value) (hf : Callable Try.prog f) (ad : Option Addr) (c : Nat) (μ : Mem) (w : World) (hμ : Imm μ w) (hl : Sl μ ad c xs)
    (hp : ∀ x ∈ xs, ∀ w', Imm μ w' → Calls Try.prog f ([edgeV x] ++ cap.toList).toArray w' (RetS w' (.bool (p x)))) :
    Calls Try.prog 68 #[.slice ad xs.length c, .func (.func f) #[] cap] w (RetS w (.bool (xs.any p))) := by
  have hS := St.start w μ hμ
  refine calls_start 9 [.slice ad xs.length c, .func (.func f) #[] cap] Try.func68 rfl Try.ntmps68 rfl rfl ?_
  refine CW.seq fun K46 hK46 => ?_
  refine CW.region [0] rfl ?_
  refine LW.ex rfl rfl rfl rfl (Ex.assign rfl) hS.rd ?_
  refine LW.nil fun aa ha => hK46 _ _ _ ?_ aa ha
  refine CW.seq fun K47 hK47 => ?_
  refine CW.region [0, 1, 2, 3, 4] rfl ?_
  refine LW.ex rfl rfl rfl rfl (Ex.move rfl) hS.rd ?_
  refine LW.ex rfl rfl rfl rfl (Ex.move rfl) hS.rd ?_
  refine LW.hv rfl rfl rfl rfl (Hv.callS hS rfl rfl rfl cb84 (indexEd_c xs p f cap hf _ _ _ _ hS.imm hl hp)) fun v w7 ⟨hv, hS⟩ => ?_
  subst hv
  refine LW.ex rfl rfl rfl rfl (Ex.geq rfl rfl (firstI_any p xs)) hS.rd ?_
  refine LW.ex rfl rfl rfl rfl (Ex.assign rfl) hS.rd ?_
  refine LW.nil fun aa ha => hK47 _ _ _ ?_ aa ha
  refine CW.ret fun aa ha => ?_
  refine ret_one ha Try.results68 rfl ?_
  exact hS.retS
end Go.Proofs.Ytgnpjhellmfhoaa

