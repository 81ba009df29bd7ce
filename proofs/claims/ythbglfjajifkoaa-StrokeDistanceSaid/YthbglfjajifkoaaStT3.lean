/-
  Strokes: the walk of StrokeDistance.
-/
import Derived.Test.YthbglfjajifkoaaStW
namespace Go.Proofs.Ythbglfjajifkoaa
open Go.RowKit Sy Go.Sort

theorem Dm_ends {a b : List Pt} (ha : Fine a) (hb : Fine b) (ha2 : 2 ≤ a.length) (hb2 : 2 ≤ b.length) : gap a[0] b[0] + gap a[a.length - 1] b[b.length - 1] ≤ Dm a b := by
  have h := P_ends (fun i k => (gapsOf_small ha hb i k).1) (a.length - 1) (b.length - 1) ⟨by omega, by omega⟩
  rw [gapsOf_at (by omega) (by omega), gapsOf_at (by omega) (by omega)] at h
  rw [Dm_P ha hb]; exact h

set_option maxRecDepth 100000 in
theorem law3_c (q0 q1 : List B2) (ad0 ad1 : Option Addr) (c0 c1 : Nat) (μ : Mem) (w : World) (hμ : Imm μ w) (hw0 : Sl μ ad0 c0 q0) (hw1 : Sl μ ad1 c1 q1) :
    Calls Try.prog 5 #[.agg #[.slice ad0 q0.length c0, .slice ad1 q1.length c1]] w (RetS w (.bool true)) := by
  have hS := St.start w μ hμ
  refine calls_start 58 [.agg #[.slice ad0 q0.length c0, .slice ad1 q1.length c1]] Try.func5 rfl Try.ntmps5 rfl rfl ?_
  refine CW.seq fun K0 hK0 => ?_
  refine CW.region [0, 1] rfl ?_
  refine LW.hv rfl rfl rfl rfl (Hv.box hS rfl) fun v w1 ⟨b1, hv, hb1, hS⟩ => ?_
  subst hv
  refine LW.ex rfl rfl rfl rfl (Ex.assign rfl) hS.rd ?_
  refine LW.nil fun aa ha => hK0 _ _ _ ?_ aa ha
  refine CW.seq fun K1 hK1 => ?_
  refine CW.region [0, 1] rfl ?_
  refine LW.hv rfl rfl rfl rfl (Hv.callS hS rfl rfl rfl cb10 (sanity_c _)) fun v w8 ⟨hv, hS⟩ => ?_
  subst hv
  refine LW.ex rfl rfl rfl rfl (Ex.assign rfl) hS.rd ?_
  refine LW.nil fun aa ha => hK1 _ _ _ ?_ aa ha
  refine CW.seq fun K2 hK2 => ?_
  refine CW.region [0, 1, 2, 3] rfl ?_
  refine LW.ex rfl rfl rfl rfl (Ex.indexArr (j := 0) Try.underlying24 ti23 rfl rfl rfl (by omega)) hS.rd ?_
  refine LW.ex rfl rfl rfl rfl (Ex.load1 ti23 rfl rfl (by first | exact Rd.obj (k := 0) rfl rfl | exact Rd.obj (k := 1) rfl rfl | exact Rd.obj (k := 2) rfl rfl | exact Rd.obj (k := 3) rfl rfl | exact Rd.obj (k := 4) rfl rfl | exact Rd.imm (by assumption) | exact Rd.sl (k := 0) rfl (by assumption) | exact Rd.sl (k := 1) rfl (by assumption) | exact Rd.sl (k := 2) rfl (by assumption) | exact Rd.sl (k := 3) rfl (by assumption))) hS.rd ?_
  refine LW.hv rfl rfl rfl rfl (Hv.callV hS rfl rfl rfl cb11 (points_c q0 _ _ 12 4 _ _ hS.imm hw0 (by omega) (by omega) (by omega))) fun v w11 ⟨μ11, hv11, hm11, hS⟩ => ?_
  obtain ⟨ad11, c11, rfl, hpa⟩ := hv11
  refine LW.ex rfl rfl rfl rfl (Ex.assign rfl) hS.rd ?_
  refine LW.nil fun aa ha => hK2 _ _ _ ?_ aa ha
  have hw1 := hw1.mono hm11
  refine CW.seq fun K3 hK3 => ?_
  refine CW.region [0, 1, 2, 3] rfl ?_
  refine LW.ex rfl rfl rfl rfl (Ex.indexArr (j := 1) Try.underlying24 ti23 rfl rfl rfl (by omega)) hS.rd ?_
  refine LW.ex rfl rfl rfl rfl (Ex.load1 ti23 rfl rfl (by first | exact Rd.obj (k := 0) rfl rfl | exact Rd.obj (k := 1) rfl rfl | exact Rd.obj (k := 2) rfl rfl | exact Rd.obj (k := 3) rfl rfl | exact Rd.obj (k := 4) rfl rfl | exact Rd.imm (by assumption) | exact Rd.sl (k := 0) rfl (by assumption) | exact Rd.sl (k := 1) rfl (by assumption) | exact Rd.sl (k := 2) rfl (by assumption) | exact Rd.sl (k := 3) rfl (by assumption))) hS.rd ?_
  refine LW.hv rfl rfl rfl rfl (Hv.callV hS rfl rfl rfl cb11 (points_c q1 _ _ 12 4 _ _ hS.imm hw1 (by omega) (by omega) (by omega))) fun v w14 ⟨μ14, hv14, hm14, hS⟩ => ?_
  obtain ⟨ad14, c14, rfl, hpb⟩ := hv14
  refine LW.ex rfl rfl rfl rfl (Ex.assign rfl) hS.rd ?_
  refine LW.nil fun aa ha => hK3 _ _ _ ?_ aa ha
  have hpa := hpa.mono hm14
  have fa := points_fine q0 (n := 12) (k := 4) (by omega) (by omega) (by omega)
  have fb := points_fine q1 (n := 12) (k := 4) (by omega) (by omega) (by omega)
  have la : 2 ≤ (points q0 12 4).length := by rw [points_len]; omega
  have lb : 2 ≤ (points q1 12 4).length := by rw [points_len]; omega
  generalize points q0 12 4 = a at *
  generalize points q1 12 4 = b at *
  have la2 := fa.len
  have lb2 := fb.len
  refine CW.seq fun K4 hK4 => ?_
  refine CW.region [0, 1, 2, 3] rfl ?_
  refine LW.ex rfl rfl rfl rfl (Ex.move rfl) hS.rd ?_
  refine LW.ex rfl rfl rfl rfl (Ex.move rfl) hS.rd ?_
  refine LW.hv rfl rfl rfl rfl (Hv.callS hS rfl rfl rfl cb15 (distance_c a b _ _ _ _ _ _ hS.imm hpa hpb fa.good.bd fb.good.bd fa.good.len fb.good.len)) fun v w17 ⟨hv, hS⟩ => ?_
  subst hv
  refine LW.ex rfl rfl rfl rfl (Ex.assign rfl) hS.rd ?_
  refine LW.nil fun aa ha => hK4 _ _ _ ?_ aa ha
  have hends := Dm_ends fa fb la lb
  obtain ⟨ba, oa, rfl, hax, hay⟩ := hpa.at (i := 0) (by omega)
  obtain ⟨bb, ob, rfl, hbx, hby⟩ := hpb.at (i := 0) (by omega)
  obtain ⟨_, _, e1, hcx, hcy⟩ := hpa.at (i := a.length - 1) (by omega)
  cases e1
  obtain ⟨_, _, e1, hdx, hdy⟩ := hpb.at (i := b.length - 1) (by omega)
  cases e1
  have g1 := gap_small (fa.bd a[0] (List.getElem_mem _)) (fb.bd b[0] (List.getElem_mem _))
  have g2 := gap_small (fa.bd a[a.length - 1] (List.getElem_mem _)) (fb.bd b[b.length - 1] (List.getElem_mem _))
  refine CW.seq fun K5 hK5 => ?_
  have hS := hS.drew
  refine CW.draw 22 (.ex 0 <| .ex 1 <| .ex 2 <| .ex 3 <| .ex 4 <| .ex 5 <| .ex 7 <| .ex 8 <| .ex 9 <| .ex 10 <| .ex 11 <| .ex 12 <| .ex 13 <| .ex 14 <| .ex 15 <| .ex 16 <| .ex 17 <| .ex 18 <| .one 6 <| .one 19 <| .ex 20 <| .ex 21 <| .done) [] (Rd _ _) mixed (by kernel_rfl) rfl rfl hS.rd ?_
  refine PW.ex rfl rfl rfl rfl (Ex.move rfl) ?_
  refine PW.ex rfl rfl rfl rfl (Ex.indexSl (j := 0) Try.underlying26 ti46 rfl rfl rfl (by omega)) ?_
  refine PW.ex rfl rfl rfl rfl (Ex.load2c ti46 rfl rfl (by first | exact Rd.obj (k := 0) rfl rfl | exact Rd.obj (k := 1) rfl rfl | exact Rd.obj (k := 2) rfl rfl | exact Rd.obj (k := 3) rfl rfl | exact Rd.obj (k := 4) rfl rfl | exact Rd.imm (by assumption) | exact Rd.sl (k := 0) rfl (by assumption) | exact Rd.sl (k := 1) rfl (by assumption) | exact Rd.sl (k := 2) rfl (by assumption) | exact Rd.sl (k := 3) rfl (by assumption)) (by first | exact Rd.obj (k := 0) rfl rfl | exact Rd.obj (k := 1) rfl rfl | exact Rd.obj (k := 2) rfl rfl | exact Rd.obj (k := 3) rfl rfl | exact Rd.obj (k := 4) rfl rfl | exact Rd.imm (by assumption) | exact Rd.sl (k := 0) rfl (by assumption) | exact Rd.sl (k := 1) rfl (by assumption) | exact Rd.sl (k := 2) rfl (by assumption) | exact Rd.sl (k := 3) rfl (by assumption))) ?_
  refine PW.ex rfl rfl rfl rfl (Ex.move rfl) ?_
  refine PW.ex rfl rfl rfl rfl (Ex.indexSl (j := 0) Try.underlying26 ti46 rfl rfl rfl (by omega)) ?_
  refine PW.ex rfl rfl rfl rfl (Ex.load2c ti46 rfl rfl (by first | exact Rd.obj (k := 0) rfl rfl | exact Rd.obj (k := 1) rfl rfl | exact Rd.obj (k := 2) rfl rfl | exact Rd.obj (k := 3) rfl rfl | exact Rd.obj (k := 4) rfl rfl | exact Rd.imm (by assumption) | exact Rd.sl (k := 0) rfl (by assumption) | exact Rd.sl (k := 1) rfl (by assumption) | exact Rd.sl (k := 2) rfl (by assumption) | exact Rd.sl (k := 3) rfl (by assumption)) (by first | exact Rd.obj (k := 0) rfl rfl | exact Rd.obj (k := 1) rfl rfl | exact Rd.obj (k := 2) rfl rfl | exact Rd.obj (k := 3) rfl rfl | exact Rd.obj (k := 4) rfl rfl | exact Rd.imm (by assumption) | exact Rd.sl (k := 0) rfl (by assumption) | exact Rd.sl (k := 1) rfl (by assumption) | exact Rd.sl (k := 2) rfl (by assumption) | exact Rd.sl (k := 3) rfl (by assumption))) ?_
  refine PW.ex rfl rfl rfl rfl (Ex.move rfl) ?_
  refine PW.ex rfl rfl rfl rfl (Ex.move rfl) ?_
  refine PW.ex rfl rfl rfl rfl (Ex.lenSl rfl Try.underlying26 rfl) ?_
  refine PW.ex rfl rfl rfl rfl (Ex.sub rfl rfl (by first | exact dec64 (by omega) (by omega) | exact subN (by omega) (by omega) | exact w64 (by omega) (by omega))) ?_
  refine PW.ex rfl rfl rfl rfl (Ex.indexSl Try.underlying26 ti46 rfl rfl rfl (by omega)) ?_
  refine PW.ex rfl rfl rfl rfl (Ex.load2c ti46 rfl rfl (by first | exact Rd.obj (k := 0) rfl rfl | exact Rd.obj (k := 1) rfl rfl | exact Rd.obj (k := 2) rfl rfl | exact Rd.obj (k := 3) rfl rfl | exact Rd.obj (k := 4) rfl rfl | exact Rd.imm (by assumption) | exact Rd.sl (k := 0) rfl (by assumption) | exact Rd.sl (k := 1) rfl (by assumption) | exact Rd.sl (k := 2) rfl (by assumption) | exact Rd.sl (k := 3) rfl (by assumption)) (by first | exact Rd.obj (k := 0) rfl rfl | exact Rd.obj (k := 1) rfl rfl | exact Rd.obj (k := 2) rfl rfl | exact Rd.obj (k := 3) rfl rfl | exact Rd.obj (k := 4) rfl rfl | exact Rd.imm (by assumption) | exact Rd.sl (k := 0) rfl (by assumption) | exact Rd.sl (k := 1) rfl (by assumption) | exact Rd.sl (k := 2) rfl (by assumption) | exact Rd.sl (k := 3) rfl (by assumption))) ?_
  refine PW.ex rfl rfl rfl rfl (Ex.move rfl) ?_
  refine PW.ex rfl rfl rfl rfl (Ex.move rfl) ?_
  refine PW.ex rfl rfl rfl rfl (Ex.lenSl rfl Try.underlying26 rfl) ?_
  refine PW.ex rfl rfl rfl rfl (Ex.sub rfl rfl (by first | exact dec64 (by omega) (by omega) | exact subN (by omega) (by omega) | exact w64 (by omega) (by omega))) ?_
  refine PW.ex rfl rfl rfl rfl (Ex.indexSl Try.underlying26 ti46 rfl rfl rfl (by omega)) ?_
  refine PW.ex rfl rfl rfl rfl (Ex.load2c ti46 rfl rfl (by first | exact Rd.obj (k := 0) rfl rfl | exact Rd.obj (k := 1) rfl rfl | exact Rd.obj (k := 2) rfl rfl | exact Rd.obj (k := 3) rfl rfl | exact Rd.obj (k := 4) rfl rfl | exact Rd.imm (by assumption) | exact Rd.sl (k := 0) rfl (by assumption) | exact Rd.sl (k := 1) rfl (by assumption) | exact Rd.sl (k := 2) rfl (by assumption) | exact Rd.sl (k := 3) rfl (by assumption)) (by first | exact Rd.obj (k := 0) rfl rfl | exact Rd.obj (k := 1) rfl rfl | exact Rd.obj (k := 2) rfl rfl | exact Rd.obj (k := 3) rfl rfl | exact Rd.obj (k := 4) rfl rfl | exact Rd.imm (by assumption) | exact Rd.sl (k := 0) rfl (by assumption) | exact Rd.sl (k := 1) rfl (by assumption) | exact Rd.sl (k := 2) rfl (by assumption) | exact Rd.sl (k := 3) rfl (by assumption))) ?_
  refine PW.hv rfl rfl rfl rfl (Hv.callS hS rfl rfl rfl cb20 (gap_c a[0] b[0] _ (fa.good.bd _ (List.getElem_mem _)) (fb.good.bd _ (List.getElem_mem _)))) (fun _ _ h => h.2.rd) fun v w24 ⟨hv, hS⟩ => ?_
  subst hv
  refine PW.hv rfl rfl rfl rfl (Hv.callS hS rfl rfl rfl cb20 (gap_c a[a.length - 1] b[b.length - 1] _ (fa.good.bd _ (List.getElem_mem _)) (fb.good.bd _ (List.getElem_mem _)))) (fun _ _ h => h.2.rd) fun v w37 ⟨hv, hS⟩ => ?_
  subst hv
  refine PW.ex rfl rfl rfl rfl (Ex.add rfl rfl (by first | exact inc64 (by omega) | exact addN (by omega) | exact w64 (by omega) (by omega))) ?_
  refine PW.ex rfl rfl rfl rfl (Ex.assign rfl) ?_
  refine PW.nil ?_
  refine LW.nil fun aa ha => hK5 _ _ _ ?_ aa ha
  refine CW.seq fun K6 hK6 => ?_
  refine CW.region [0, 1, 2, 3, 4, 5, 6, 7, 8, 9, 10, 11, 12, 13, 14, 15, 16, 17, 18, 19] rfl ?_
  refine LW.ex rfl rfl rfl rfl (Ex.move rfl) hS.rd ?_
  refine LW.ex rfl rfl rfl rfl (Ex.move rfl) hS.rd ?_
  refine LW.ex rfl rfl rfl rfl (Ex.move rfl) hS.rd ?_
  refine LW.ex rfl rfl rfl rfl (Ex.move rfl) hS.rd ?_
  refine LW.ex rfl rfl rfl rfl (Ex.geq rfl rfl (decide_eq_true hends)) hS.rd ?_
  refine LW.ex rfl rfl rfl rfl (by first | exact Ex.pick_yes rfl rfl | exact Ex.pick_no rfl rfl) hS.rd ?_
  refine LW.ex rfl rfl rfl rfl (Ex.move rfl) hS.rd ?_
  refine LW.ex rfl rfl rfl rfl (Ex.move rfl) hS.rd ?_
  refine LW.ex rfl rfl rfl rfl (Ex.move rfl) hS.rd ?_
  refine LW.ex rfl rfl rfl rfl (Ex.move rfl) hS.rd ?_
  refine LW.hv rfl rfl rfl rfl (Hv.callS hS rfl rfl rfl cb15 (distance_c b a _ _ _ _ _ _ hS.imm hpb hpa fb.good.bd fa.good.bd fb.good.len fa.good.len)) fun v w49 ⟨hv, hS⟩ => ?_
  subst hv
  refine LW.ex rfl rfl rfl rfl (Ex.eql rfl rfl (decide_eq_true (Dm_symm fa fb))) hS.rd ?_
  refine LW.ex rfl rfl rfl rfl (by first | exact Ex.pick_yes rfl rfl | exact Ex.pick_no rfl rfl) hS.rd ?_
  refine LW.ex rfl rfl rfl rfl (Ex.move rfl) hS.rd ?_
  refine LW.ex rfl rfl rfl rfl (Ex.move rfl) hS.rd ?_
  refine LW.ex rfl rfl rfl rfl (Ex.move rfl) hS.rd ?_
  refine LW.hv rfl rfl rfl rfl (Hv.callS hS rfl rfl rfl cb15 (distance_c a a _ _ _ _ _ _ hS.imm hpa hpa fa.good.bd fa.good.bd fa.good.len fa.good.len)) fun v w55 ⟨hv, hS⟩ => ?_
  subst hv
  refine LW.ex rfl rfl rfl rfl (Ex.eql rfl rfl (decide_eq_true (Dm_self fa))) hS.rd ?_
  refine LW.ex rfl rfl rfl rfl (by first | exact Ex.pick_yes rfl rfl | exact Ex.pick_no rfl rfl) hS.rd ?_
  refine LW.ex rfl rfl rfl rfl (Ex.assign rfl) hS.rd ?_
  refine LW.nil fun aa ha => hK6 _ _ _ ?_ aa ha
  refine CW.ret fun aa ha => ?_
  exact ret_one ha Try.results5 rfl hS.retS
end Go.Proofs.Ythbglfjajifkoaa
