/-
  Areas: the walk of AreaMatchesReference.
-/
import Derived.Test.YtphgjongflkolaaArU
namespace Go.Proofs.Ytphgjongflkolaa
open Go.RowKit Sy Go.Sort

set_option maxRecDepth 100000 in
set_option maxHeartbeats 2000000 in
theorem law1_c (l : List B2) (t : List I3) (x : J3) (hx : x.ok) (adl adt : Option Addr) (cl ct : Nat) (μ : Mem) (w : World) (hμ : Imm μ w) (sl : Sl μ adl cl l) (st : Sl μ adt ct t) :
    Calls Try.prog 3 #[.slice adl l.length cl, .slice adt t.length ct, j3V x] w (RetS w (.bool true)) := by
  obtain ⟨x1, x2, x3⟩ := hx
  have hfine : Fine3 t := i3_fine st
  have hml := made_len l
  have htl := tapsM_len t
  have hS := St.start w μ hμ
  refine calls_start 100 [.slice adl l.length cl, .slice adt t.length ct, j3V x] Try.func3 rfl Try.ntmps3 rfl rfl ?_
  refine CW.seq fun K1 hK1 => ?_
  refine CW.region [0, 1] rfl ?_
  refine LW.hv rfl rfl rfl rfl (Hv.boxS hS rfl rfl) fun v w5 ⟨b5, hv, hb5, hS⟩ => ?_
  subst hv
  refine LW.ex rfl rfl rfl rfl (Ex.assign rfl) hS.rd ?_
  refine LW.nil fun aa ha => hK1 _ _ _ ?_ aa ha
  refine CW.seq fun K2 hK2 => ?_
  refine CW.region [0, 1] rfl ?_
  refine LW.hv rfl rfl rfl rfl (Hv.callS hS rfl rfl rfl cb11 (sanity_c _)) fun v w20 ⟨hv, hS⟩ => ?_
  subst hv
  refine LW.ex rfl rfl rfl rfl (Ex.assign rfl) hS.rd ?_
  refine LW.nil fun aa ha => hK2 _ _ _ ?_ aa ha
  refine CW.seq fun K3 hK3 => ?_
  refine CW.region [0, 1, 2, 3, 4, 5, 6] rfl ?_
  refine LW.ex rfl rfl rfl rfl (Ex.move rfl) hS.rd ?_
  refine LW.hv rfl rfl rfl rfl (Hv.callV hS rfl rfl rfl cb12 (made_c l _ _ _ _ hS.imm sl)) fun v w22 ⟨μ22, hv22, hm22, hS⟩ => ?_
  obtain ⟨a0, c0, a1, c1, a2, c2, hv, hd0, hd1, hd2⟩ := hv22
  subst hv
  have st := st.mono hm22
  refine LW.ex rfl rfl rfl rfl (Ex.move rfl) hS.rd ?_
  refine LW.hv rfl rfl rfl rfl (Hv.callV hS rfl rfl rfl cb13 (taps_made_c t _ _ _ _ hS.imm st)) fun v w24 ⟨μ24, hv24, hm24, hS⟩ => ?_
  obtain ⟨ad24, c24, hv, hs24⟩ := hv24
  subst hv
  have hd0 := hd0.mono hm24
  refine LW.hv rfl rfl rfl rfl (Hv.alloc ti31 hS) fun v w8 ⟨b8, hv, hb8, hS⟩ => ?_
  subst hv
  refine LW.hu rfl rfl rfl (Hv.storeN (k := 0) ti31 hS rfl rfl rfl rfl (by simp [Value.oneCell'])) fun _ w_5 hS => ?_
  dsimp only [List.set] at hS
  refine LW.ex rfl rfl rfl rfl (Ex.assign rfl) hS.rd ?_
  refine LW.nil fun aa ha => hK3 _ _ _ ?_ aa ha
  refine CW.seq fun K4 hK4 => ?_
  have hS := hS.drew
  refine CW.drawP 15 [7, 8, 9, 10, 11, 12, 13] (.ex 0 <| .ex 1 <| .ex 2 <| .ex 3 <| .ex 4 <| .ex 5 <| .pu 7 <| .pu 8 <| .pu 9 <| .pu 10 <| .pu 11 <| .pu 12 <| .pu 13 <| .two 6 (.one 14 <| .done) 14 (.one 6 <| .done)) [15, 16] (Rd _ _) (Rd _ _) mixed (by kernel_rfl) rfl rfl hS.rd hS.rd ?_
  refine QW.ex rfl rfl rfl rfl (Ex.indexArr (j := 0) Try.underlying25 ti24 rfl rfl rfl (by omega)) ?_
  refine QW.ex rfl rfl rfl rfl (Ex.load1 ti24 rfl rfl (by first | exact Rd.obj (k := 0) rfl rfl | exact Rd.obj (k := 1) rfl rfl | exact Rd.obj (k := 2) rfl rfl | exact Rd.obj (k := 3) rfl rfl | exact Rd.obj (k := 4) rfl rfl | exact Rd.imm (by assumption) | exact Rd.sl (k := 0) rfl (by assumption) | exact Rd.sl (k := 1) rfl (by assumption) | exact Rd.sl (k := 2) rfl (by assumption) | exact Rd.sl (k := 3) rfl (by assumption))) ?_
  refine QW.ex rfl rfl rfl rfl (Ex.conv Try.underlying24 Try.underlying3 rfl (by first | exact w64 (by omega) (by omega) | exact wu8 (by omega) (by omega))) ?_
  refine QW.ex rfl rfl rfl rfl (Ex.indexArr (j := 1) Try.underlying25 ti24 rfl rfl rfl (by omega)) ?_
  refine QW.ex rfl rfl rfl rfl (Ex.load1 ti24 rfl rfl (by first | exact Rd.obj (k := 0) rfl rfl | exact Rd.obj (k := 1) rfl rfl | exact Rd.obj (k := 2) rfl rfl | exact Rd.obj (k := 3) rfl rfl | exact Rd.obj (k := 4) rfl rfl | exact Rd.imm (by assumption) | exact Rd.sl (k := 0) rfl (by assumption) | exact Rd.sl (k := 1) rfl (by assumption) | exact Rd.sl (k := 2) rfl (by assumption) | exact Rd.sl (k := 3) rfl (by assumption))) ?_
  refine QW.ex rfl rfl rfl rfl (Ex.conv Try.underlying24 Try.underlying3 rfl (by first | exact w64 (by omega) (by omega) | exact wu8 (by omega) (by omega))) ?_
  refine QW.pu rfl rfl rfl rfl (Ex.indexArr (j := 2) Try.underlying25 ti24 rfl rfl rfl (by omega)) ?_
  refine QW.pu rfl rfl rfl rfl (Ex.load1 ti24 rfl rfl (by first | exact Rd.obj (k := 0) rfl rfl | exact Rd.obj (k := 1) rfl rfl | exact Rd.obj (k := 2) rfl rfl | exact Rd.obj (k := 3) rfl rfl | exact Rd.obj (k := 4) rfl rfl | exact Rd.imm (by assumption) | exact Rd.sl (k := 0) rfl (by assumption) | exact Rd.sl (k := 1) rfl (by assumption) | exact Rd.sl (k := 2) rfl (by assumption) | exact Rd.sl (k := 3) rfl (by assumption))) ?_
  refine QW.pu rfl rfl rfl rfl (Ex.conv Try.underlying24 Try.underlying5 rfl (wu8m _)) ?_
  refine QW.pu rfl rfl rfl rfl (Ex.conv Try.underlying5 Try.underlying3 rfl (by first | exact w64 (by omega) (by omega) | exact wu8 (by omega) (by omega))) ?_
  refine QW.pu rfl rfl rfl rfl (Ex.rem rfl rfl (by omega) (tmod_pos (by omega))) ?_
  refine QW.pu rfl rfl rfl rfl (Ex.add rfl rfl (w64 (by omega) (by omega))) ?_
  refine QW.pu rfl rfl rfl rfl (Ex.conv Try.underlying3 Try.underlying5 rfl (keyw (by omega))) ?_
  refine QW.two rfl rfl rfl rfl rfl rfl rfl rfl (Hv.callS hS rfl rfl rfl cb14 (point_c x.a x.b _)) (fun _ _ h => h.2.rd) (fun _ _ h => h.2.rd) (Hv.alloc ti36 hS) (fun _ _ ⟨_, _, _, h⟩ => h.rd.tail) (fun _ _ ⟨_, _, _, h⟩ => h.rd.tail) (fun v w31 ⟨hv, hS⟩ => ?_) (fun v w10 ⟨b10, hv, hb10, hS⟩ => ?_)
  · skip
    subst hv
    refine QW.hv rfl rfl rfl rfl (Hv.alloc ti36 hS) (fun _ _ ⟨_, _, _, h⟩ => h.rd.tail) (fun _ _ ⟨_, _, _, h⟩ => h.rd.tail) fun v w10 ⟨b10, hv, hb10, hS⟩ => ?_
    subst hv
    refine QW.nil ?_
    refine TW.hu rfl rfl rfl (Hv.storeN (k := 0) ti36 hS rfl rfl rfl rfl (by simp [Value.oneCell'])) (fun _ _ h => (h.rd.erase 0)) fun _ w_15 hS => ?_
    dsimp only [List.set] at hS
    refine TW.ex rfl rfl rfl rfl (Ex.assign rfl) hS.rd ?_
    refine TW.nil fun aa ha => hK4 _ _ _ ?_ aa ha
    refine CW.seq fun K5 hK5 => ?_
    refine CW.region [0, 1, 2, 3, 4, 5, 6, 7, 8] rfl ?_
    refine LW.ex rfl rfl rfl rfl (Ex.load3c ti31 rfl rfl (by first | exact Rd.obj (k := 0) rfl rfl | exact Rd.obj (k := 1) rfl rfl | exact Rd.obj (k := 2) rfl rfl | exact Rd.obj (k := 3) rfl rfl | exact Rd.obj (k := 4) rfl rfl | exact Rd.imm (by assumption) | exact Rd.sl (k := 0) rfl (by assumption) | exact Rd.sl (k := 1) rfl (by assumption) | exact Rd.sl (k := 2) rfl (by assumption) | exact Rd.sl (k := 3) rfl (by assumption)) (by first | exact Rd.obj (k := 0) rfl rfl | exact Rd.obj (k := 1) rfl rfl | exact Rd.obj (k := 2) rfl rfl | exact Rd.obj (k := 3) rfl rfl | exact Rd.obj (k := 4) rfl rfl | exact Rd.imm (by assumption) | exact Rd.sl (k := 0) rfl (by assumption) | exact Rd.sl (k := 1) rfl (by assumption) | exact Rd.sl (k := 2) rfl (by assumption) | exact Rd.sl (k := 3) rfl (by assumption)) (by first | exact Rd.obj (k := 0) rfl rfl | exact Rd.obj (k := 1) rfl rfl | exact Rd.obj (k := 2) rfl rfl | exact Rd.obj (k := 3) rfl rfl | exact Rd.obj (k := 4) rfl rfl | exact Rd.imm (by assumption) | exact Rd.sl (k := 0) rfl (by assumption) | exact Rd.sl (k := 1) rfl (by assumption) | exact Rd.sl (k := 2) rfl (by assumption) | exact Rd.sl (k := 3) rfl (by assumption))) hS.rd ?_
    refine LW.ex rfl rfl rfl rfl (Ex.move rfl) hS.rd ?_
    refine LW.ex rfl rfl rfl rfl (Ex.load2c ti36 rfl rfl (by first | exact Rd.obj (k := 0) rfl rfl | exact Rd.obj (k := 1) rfl rfl | exact Rd.obj (k := 2) rfl rfl | exact Rd.obj (k := 3) rfl rfl | exact Rd.obj (k := 4) rfl rfl | exact Rd.imm (by assumption) | exact Rd.sl (k := 0) rfl (by assumption) | exact Rd.sl (k := 1) rfl (by assumption) | exact Rd.sl (k := 2) rfl (by assumption) | exact Rd.sl (k := 3) rfl (by assumption)) (by first | exact Rd.obj (k := 0) rfl rfl | exact Rd.obj (k := 1) rfl rfl | exact Rd.obj (k := 2) rfl rfl | exact Rd.obj (k := 3) rfl rfl | exact Rd.obj (k := 4) rfl rfl | exact Rd.imm (by assumption) | exact Rd.sl (k := 0) rfl (by assumption) | exact Rd.sl (k := 1) rfl (by assumption) | exact Rd.sl (k := 2) rfl (by assumption) | exact Rd.sl (k := 3) rfl (by assumption))) hS.rd ?_
    refine LW.hv rfl rfl rfl rfl (Hv.callV hS rfl rfl rfl cb15 (touchF_c (l := made l) (taps := tapsM t) (p := ⟨x.a, x.b⟩) hS.imm hd0 hs24 made_b (tapsM_b hfine) (tapsM_r t) (made_k l) (by omega) (by omega))) fun v w43 ⟨μ43, hv43, hm43, hS⟩ => ?_
    obtain ⟨ad43, c43, hv, hs43⟩ := hv43
    subst hv
    have hd0 := hd0.mono hm43
    have hs24 := hs24.mono hm43
    refine LW.ex rfl rfl rfl rfl (Ex.move rfl) hS.rd ?_
    refine LW.ex rfl rfl rfl rfl (Ex.extract rfl rfl) hS.rd ?_
    refine LW.ex rfl rfl rfl rfl (Ex.extract rfl rfl) hS.rd ?_
    refine LW.ex rfl rfl rfl rfl (Ex.assign rfl) hS.rd ?_
    refine LW.ex rfl rfl rfl rfl (Ex.assign rfl) hS.rd ?_
    refine LW.nil fun aa ha => hK5 _ _ _ ?_ aa ha
    refine CW.seq fun K6 hK6 => ?_
    refine CW.region [0, 1, 2, 3, 4, 5, 6, 7, 8] rfl ?_
    refine LW.ex rfl rfl rfl rfl (Ex.load3c ti31 rfl rfl (by first | exact Rd.obj (k := 0) rfl rfl | exact Rd.obj (k := 1) rfl rfl | exact Rd.obj (k := 2) rfl rfl | exact Rd.obj (k := 3) rfl rfl | exact Rd.obj (k := 4) rfl rfl | exact Rd.imm (by assumption) | exact Rd.sl (k := 0) rfl (by assumption) | exact Rd.sl (k := 1) rfl (by assumption) | exact Rd.sl (k := 2) rfl (by assumption) | exact Rd.sl (k := 3) rfl (by assumption)) (by first | exact Rd.obj (k := 0) rfl rfl | exact Rd.obj (k := 1) rfl rfl | exact Rd.obj (k := 2) rfl rfl | exact Rd.obj (k := 3) rfl rfl | exact Rd.obj (k := 4) rfl rfl | exact Rd.imm (by assumption) | exact Rd.sl (k := 0) rfl (by assumption) | exact Rd.sl (k := 1) rfl (by assumption) | exact Rd.sl (k := 2) rfl (by assumption) | exact Rd.sl (k := 3) rfl (by assumption)) (by first | exact Rd.obj (k := 0) rfl rfl | exact Rd.obj (k := 1) rfl rfl | exact Rd.obj (k := 2) rfl rfl | exact Rd.obj (k := 3) rfl rfl | exact Rd.obj (k := 4) rfl rfl | exact Rd.imm (by assumption) | exact Rd.sl (k := 0) rfl (by assumption) | exact Rd.sl (k := 1) rfl (by assumption) | exact Rd.sl (k := 2) rfl (by assumption) | exact Rd.sl (k := 3) rfl (by assumption))) hS.rd ?_
    refine LW.ex rfl rfl rfl rfl (Ex.move rfl) hS.rd ?_
    refine LW.ex rfl rfl rfl rfl (Ex.load2c ti36 rfl rfl (by first | exact Rd.obj (k := 0) rfl rfl | exact Rd.obj (k := 1) rfl rfl | exact Rd.obj (k := 2) rfl rfl | exact Rd.obj (k := 3) rfl rfl | exact Rd.obj (k := 4) rfl rfl | exact Rd.imm (by assumption) | exact Rd.sl (k := 0) rfl (by assumption) | exact Rd.sl (k := 1) rfl (by assumption) | exact Rd.sl (k := 2) rfl (by assumption) | exact Rd.sl (k := 3) rfl (by assumption)) (by first | exact Rd.obj (k := 0) rfl rfl | exact Rd.obj (k := 1) rfl rfl | exact Rd.obj (k := 2) rfl rfl | exact Rd.obj (k := 3) rfl rfl | exact Rd.obj (k := 4) rfl rfl | exact Rd.imm (by assumption) | exact Rd.sl (k := 0) rfl (by assumption) | exact Rd.sl (k := 1) rfl (by assumption) | exact Rd.sl (k := 2) rfl (by assumption) | exact Rd.sl (k := 3) rfl (by assumption))) hS.rd ?_
    refine LW.hv rfl rfl rfl rfl (Hv.callV hS rfl rfl rfl cb16 (reftouchF_c (l := made l) (taps := tapsM t) (p := ⟨x.a, x.b⟩) hS.imm hd0 hs24 made_b (tapsM_b hfine) (by omega))) fun v w50 ⟨μ50, hv50, hm50, hS⟩ => ?_
    obtain ⟨ad50, c50, hv, hs50⟩ := hv50
    subst hv
    have hd0 := hd0.mono hm50
    have hs24 := hs24.mono hm50
    have hs43 := hs43.mono hm50
    refine LW.ex rfl rfl rfl rfl (Ex.move rfl) hS.rd ?_
    refine LW.ex rfl rfl rfl rfl (Ex.extract rfl rfl) hS.rd ?_
    refine LW.ex rfl rfl rfl rfl (Ex.extract rfl rfl) hS.rd ?_
    refine LW.ex rfl rfl rfl rfl (Ex.assign rfl) hS.rd ?_
    refine LW.ex rfl rfl rfl rfl (Ex.assign rfl) hS.rd ?_
    refine LW.nil fun aa ha => hK6 _ _ _ ?_ aa ha
    refine CW.seq fun K7 hK7 => ?_
    refine CW.region [0, 1, 2, 3, 4, 5, 6, 7, 8, 9] rfl ?_
    refine LW.ex rfl rfl rfl rfl (Ex.load3c ti31 rfl rfl (by first | exact Rd.obj (k := 0) rfl rfl | exact Rd.obj (k := 1) rfl rfl | exact Rd.obj (k := 2) rfl rfl | exact Rd.obj (k := 3) rfl rfl | exact Rd.obj (k := 4) rfl rfl | exact Rd.imm (by assumption) | exact Rd.sl (k := 0) rfl (by assumption) | exact Rd.sl (k := 1) rfl (by assumption) | exact Rd.sl (k := 2) rfl (by assumption) | exact Rd.sl (k := 3) rfl (by assumption)) (by first | exact Rd.obj (k := 0) rfl rfl | exact Rd.obj (k := 1) rfl rfl | exact Rd.obj (k := 2) rfl rfl | exact Rd.obj (k := 3) rfl rfl | exact Rd.obj (k := 4) rfl rfl | exact Rd.imm (by assumption) | exact Rd.sl (k := 0) rfl (by assumption) | exact Rd.sl (k := 1) rfl (by assumption) | exact Rd.sl (k := 2) rfl (by assumption) | exact Rd.sl (k := 3) rfl (by assumption)) (by first | exact Rd.obj (k := 0) rfl rfl | exact Rd.obj (k := 1) rfl rfl | exact Rd.obj (k := 2) rfl rfl | exact Rd.obj (k := 3) rfl rfl | exact Rd.obj (k := 4) rfl rfl | exact Rd.imm (by assumption) | exact Rd.sl (k := 0) rfl (by assumption) | exact Rd.sl (k := 1) rfl (by assumption) | exact Rd.sl (k := 2) rfl (by assumption) | exact Rd.sl (k := 3) rfl (by assumption))) hS.rd ?_
    refine LW.ex rfl rfl rfl rfl (Ex.move rfl) hS.rd ?_
    refine LW.ex rfl rfl rfl rfl (Ex.move rfl) hS.rd ?_
    refine LW.ex rfl rfl rfl rfl (Ex.load2c ti36 rfl rfl (by first | exact Rd.obj (k := 0) rfl rfl | exact Rd.obj (k := 1) rfl rfl | exact Rd.obj (k := 2) rfl rfl | exact Rd.obj (k := 3) rfl rfl | exact Rd.obj (k := 4) rfl rfl | exact Rd.imm (by assumption) | exact Rd.sl (k := 0) rfl (by assumption) | exact Rd.sl (k := 1) rfl (by assumption) | exact Rd.sl (k := 2) rfl (by assumption) | exact Rd.sl (k := 3) rfl (by assumption)) (by first | exact Rd.obj (k := 0) rfl rfl | exact Rd.obj (k := 1) rfl rfl | exact Rd.obj (k := 2) rfl rfl | exact Rd.obj (k := 3) rfl rfl | exact Rd.obj (k := 4) rfl rfl | exact Rd.imm (by assumption) | exact Rd.sl (k := 0) rfl (by assumption) | exact Rd.sl (k := 1) rfl (by assumption) | exact Rd.sl (k := 2) rfl (by assumption) | exact Rd.sl (k := 3) rfl (by assumption))) hS.rd ?_
    refine LW.hv rfl rfl rfl rfl (Hv.callV hS rfl rfl rfl cb17 (adaptF_c (l := made l) (taps := tapsM t) (key := C97 (x.c % 256 % 20).toNat) (p := ⟨x.a, x.b⟩) hS.imm hd0 hs24 made_b (tapsM_b hfine) (tapsM_r t) (tapsM_N hfine) (by omega) (by omega))) fun v w58 ⟨μ58, hv58, hm58, hS⟩ => ?_
    obtain ⟨ad58, c58, hv, hs58⟩ := hv58
    subst hv
    have hd0 := hd0.mono hm58
    have hs24 := hs24.mono hm58
    have hs43 := hs43.mono hm58
    have hs50 := hs50.mono hm58
    refine LW.ex rfl rfl rfl rfl (Ex.move rfl) hS.rd ?_
    refine LW.ex rfl rfl rfl rfl (Ex.extract rfl rfl) hS.rd ?_
    refine LW.ex rfl rfl rfl rfl (Ex.extract rfl rfl) hS.rd ?_
    refine LW.ex rfl rfl rfl rfl (Ex.assign rfl) hS.rd ?_
    refine LW.ex rfl rfl rfl rfl (Ex.assign rfl) hS.rd ?_
    refine LW.nil fun aa ha => hK7 _ _ _ ?_ aa ha
    refine CW.seq fun K8 hK8 => ?_
    refine CW.region [0, 1, 2, 3, 4, 5, 6, 7, 8, 9, 10] rfl ?_
    refine LW.ex rfl rfl rfl rfl (Ex.load3c ti31 rfl rfl (by first | exact Rd.obj (k := 0) rfl rfl | exact Rd.obj (k := 1) rfl rfl | exact Rd.obj (k := 2) rfl rfl | exact Rd.obj (k := 3) rfl rfl | exact Rd.obj (k := 4) rfl rfl | exact Rd.imm (by assumption) | exact Rd.sl (k := 0) rfl (by assumption) | exact Rd.sl (k := 1) rfl (by assumption) | exact Rd.sl (k := 2) rfl (by assumption) | exact Rd.sl (k := 3) rfl (by assumption)) (by first | exact Rd.obj (k := 0) rfl rfl | exact Rd.obj (k := 1) rfl rfl | exact Rd.obj (k := 2) rfl rfl | exact Rd.obj (k := 3) rfl rfl | exact Rd.obj (k := 4) rfl rfl | exact Rd.imm (by assumption) | exact Rd.sl (k := 0) rfl (by assumption) | exact Rd.sl (k := 1) rfl (by assumption) | exact Rd.sl (k := 2) rfl (by assumption) | exact Rd.sl (k := 3) rfl (by assumption)) (by first | exact Rd.obj (k := 0) rfl rfl | exact Rd.obj (k := 1) rfl rfl | exact Rd.obj (k := 2) rfl rfl | exact Rd.obj (k := 3) rfl rfl | exact Rd.obj (k := 4) rfl rfl | exact Rd.imm (by assumption) | exact Rd.sl (k := 0) rfl (by assumption) | exact Rd.sl (k := 1) rfl (by assumption) | exact Rd.sl (k := 2) rfl (by assumption) | exact Rd.sl (k := 3) rfl (by assumption))) hS.rd ?_
    refine LW.ex rfl rfl rfl rfl (Ex.move rfl) hS.rd ?_
    refine LW.ex rfl rfl rfl rfl (Ex.move rfl) hS.rd ?_
    refine LW.ex rfl rfl rfl rfl (Ex.load2c ti36 rfl rfl (by first | exact Rd.obj (k := 0) rfl rfl | exact Rd.obj (k := 1) rfl rfl | exact Rd.obj (k := 2) rfl rfl | exact Rd.obj (k := 3) rfl rfl | exact Rd.obj (k := 4) rfl rfl | exact Rd.imm (by assumption) | exact Rd.sl (k := 0) rfl (by assumption) | exact Rd.sl (k := 1) rfl (by assumption) | exact Rd.sl (k := 2) rfl (by assumption) | exact Rd.sl (k := 3) rfl (by assumption)) (by first | exact Rd.obj (k := 0) rfl rfl | exact Rd.obj (k := 1) rfl rfl | exact Rd.obj (k := 2) rfl rfl | exact Rd.obj (k := 3) rfl rfl | exact Rd.obj (k := 4) rfl rfl | exact Rd.imm (by assumption) | exact Rd.sl (k := 0) rfl (by assumption) | exact Rd.sl (k := 1) rfl (by assumption) | exact Rd.sl (k := 2) rfl (by assumption) | exact Rd.sl (k := 3) rfl (by assumption))) hS.rd ?_
    refine LW.ex rfl rfl rfl rfl (Ex.buildS st47 rfl rfl rfl) hS.rd ?_
    refine LW.hv rfl rfl rfl rfl (Hv.callV hS rfl rfl rfl cb18 (refadapt_c (made l) (tapsM t) (C97 (x.c % 256 % 20).toNat) ⟨x.a, x.b⟩ _ _ _ _ _ _ _ _ hS.imm hd0 hs24 made_b (tapsM_b hfine) (by omega) (by omega))) fun v w67 ⟨μ67, hv67, hm67, hS⟩ => ?_
    obtain ⟨ad67, c67, hv, hs67⟩ := hv67
    subst hv
    have hs24 := hs24.mono hm67
    have hs43 := hs43.mono hm67
    have hs50 := hs50.mono hm67
    have hs58 := hs58.mono hm67
    refine LW.ex rfl rfl rfl rfl (Ex.move rfl) hS.rd ?_
    refine LW.ex rfl rfl rfl rfl (Ex.extract rfl rfl) hS.rd ?_
    refine LW.ex rfl rfl rfl rfl (Ex.extract rfl rfl) hS.rd ?_
    refine LW.ex rfl rfl rfl rfl (Ex.assign rfl) hS.rd ?_
    refine LW.ex rfl rfl rfl rfl (Ex.assign rfl) hS.rd ?_
    refine LW.nil fun aa ha => hK8 _ _ _ ?_ aa ha
    refine CW.seq fun K9 hK9 => ?_
    refine CW.region [0, 1, 2, 3, 4, 5, 6, 7, 8, 9, 10, 11, 12, 13, 14, 15, 16, 17, 18, 19, 20, 21, 22, 23, 24, 25, 26, 27, 28, 29, 30] rfl ?_
    refine LW.ex rfl rfl rfl rfl (Ex.move rfl) hS.rd ?_
    refine LW.ex rfl rfl rfl rfl (Ex.move rfl) hS.rd ?_
    refine LW.hv rfl rfl rfl rfl (Hv.callS hS rfl rfl rfl cb19 (sameS_c (touchR (made l) (tapsM t) ⟨x.a, x.b⟩).1 (touchR (made l) (tapsM t) ⟨x.a, x.b⟩).1 _ _ _ _ _ _ hS.imm hs43 hs50)) fun v w72 ⟨hv, hS⟩ => ?_
    subst hv
    refine LW.splitB (fun h8_2 => ?_) (fun h8_2 => ?_)
    · skip
      refine LW.ex rfl rfl rfl rfl (Ex.move rfl) hS.rd ?_
      refine LW.ex rfl rfl rfl rfl (Ex.move rfl) hS.rd ?_
      refine LW.ex rfl rfl rfl rfl (Ex.move rfl) hS.rd ?_
      refine LW.ex rfl rfl rfl rfl (Ex.eql rfl rfl rfl) hS.rd ?_
      refine LW.splitB (fun h8_6 => ?_) (fun h8_6 => ?_)
      · have h8_6 := of_decide_eq_true h8_6
        refine LW.ex rfl rfl rfl rfl (by first | exact Ex.pick_yes rfl rfl | exact Ex.pick_no rfl rfl) hS.rd ?_
        refine LW.ex rfl rfl rfl rfl (Ex.move rfl) hS.rd ?_
        refine LW.ex rfl rfl rfl rfl (Ex.move rfl) hS.rd ?_
        refine LW.ex rfl rfl rfl rfl (Ex.move rfl) hS.rd ?_
        refine LW.hv rfl rfl rfl rfl (Hv.callS hS rfl rfl rfl cb20 (sameT_c (adaptR (made l) (tapsM t) (C97 (x.c % 256 % 20).toNat) ⟨x.a, x.b⟩).1 (adaptR (made l) (tapsM t) (C97 (x.c % 256 % 20).toNat) ⟨x.a, x.b⟩).1 _ _ _ _ _ _ hS.imm hs58 hs67)) fun v w81 ⟨hv, hS⟩ => ?_
        subst hv
        refine LW.splitB (fun h8_11 => ?_) (fun h8_11 => ?_)
        · skip
          refine LW.ex rfl rfl rfl rfl (by first | exact Ex.pick_yes rfl rfl | exact Ex.pick_no rfl rfl) hS.rd ?_
          refine LW.ex rfl rfl rfl rfl (Ex.move rfl) hS.rd ?_
          refine LW.ex rfl rfl rfl rfl (Ex.move rfl) hS.rd ?_
          refine LW.ex rfl rfl rfl rfl (Ex.move rfl) hS.rd ?_
          refine LW.ex rfl rfl rfl rfl (Ex.eql rfl rfl rfl) hS.rd ?_
          refine LW.splitB (fun h8_16 => ?_) (fun h8_16 => ?_)
          · have h8_16 := of_decide_eq_true h8_16
            refine LW.ex rfl rfl rfl rfl (by first | exact Ex.pick_yes rfl rfl | exact Ex.pick_no rfl rfl) hS.rd ?_
            refine LW.ex rfl rfl rfl rfl (Ex.move rfl) hS.rd ?_
            refine LW.ex rfl rfl rfl rfl (Ex.move rfl) hS.rd ?_
            refine LW.ex rfl rfl rfl rfl (Ex.move rfl) hS.rd ?_
            refine LW.hv rfl rfl rfl rfl (Hv.callS hS rfl rfl rfl cb21 (shiftR_c (tapsM t) (C97 (x.c % 256 % 20).toNat) _ _ _ _ hS.imm hs24 (tapsM_b hfine) (tapsM_r t) (by omega))) fun v w91 ⟨hv, hS⟩ => ?_
            subst hv
            refine LW.ex rfl rfl rfl rfl (Ex.move rfl) hS.rd ?_
            refine LW.ex rfl rfl rfl rfl (Ex.move rfl) hS.rd ?_
            refine LW.hv rfl rfl rfl rfl (Hv.callS hS rfl rfl rfl cb22 (refshift_c (tapsM t) (C97 (x.c % 256 % 20).toNat) _ _ _ _ hS.imm hs24 (tapsM_b hfine))) fun v w94 ⟨hv, hS⟩ => ?_
            subst hv
            refine LW.ex rfl rfl rfl rfl (Ex.eqlSt (by kernel_rfl) rfl rfl (ptEq (shiftOf (tapsM t) (C97 (x.c % 256 % 20).toNat)) (shiftOf (tapsM t) (C97 (x.c % 256 % 20).toNat)))) hS.rd ?_
            refine LW.splitB (fun h8_25 => ?_) (fun h8_25 => ?_)
            · skip
              refine LW.ex rfl rfl rfl rfl (by first | exact Ex.pick_yes rfl rfl | exact Ex.pick_no rfl rfl) hS.rd ?_
              refine LW.ex rfl rfl rfl rfl (Ex.move rfl) hS.rd ?_
              refine LW.ex rfl rfl rfl rfl (Ex.move rfl) hS.rd ?_
              refine LW.ex rfl rfl rfl rfl (by first | exact Ex.pick_yes rfl rfl | exact Ex.pick_no rfl rfl) hS.rd ?_
              refine LW.ex rfl rfl rfl rfl (Ex.assign rfl) hS.rd ?_
              refine LW.nil fun aa ha => hK9 _ _ _ ?_ aa ha
              refine CW.ret fun aa ha => ?_
              refine ret_one ha Try.results3 rfl ?_
              exact hS.retS
            · simp at h8_25
          · have h8_16 := of_decide_eq_false h8_16
            exact absurd rfl h8_16
        · simp at h8_11
      · have h8_6 := of_decide_eq_false h8_6
        exact absurd rfl h8_6
    · simp at h8_2
  · skip
    subst hv
    refine QW.hv rfl rfl rfl rfl (Hv.callS hS rfl rfl rfl cb14 (point_c x.a x.b _)) (fun _ _ h => h.2.rd.tail) (fun _ _ h => h.2.rd.tail) fun v w31 ⟨hv, hS⟩ => ?_
    subst hv
    refine QW.nil ?_
    refine TW.hu rfl rfl rfl (Hv.storeN (k := 0) ti36 hS rfl rfl rfl rfl (by simp [Value.oneCell'])) (fun _ _ h => (h.rd.erase 0)) fun _ w_15 hS => ?_
    dsimp only [List.set] at hS
    refine TW.ex rfl rfl rfl rfl (Ex.assign rfl) hS.rd ?_
    refine TW.nil fun aa ha => hK4 _ _ _ ?_ aa ha
    refine CW.seq fun K10 hK10 => ?_
    refine CW.region [0, 1, 2, 3, 4, 5, 6, 7, 8] rfl ?_
    refine LW.ex rfl rfl rfl rfl (Ex.load3c ti31 rfl rfl (by first | exact Rd.obj (k := 0) rfl rfl | exact Rd.obj (k := 1) rfl rfl | exact Rd.obj (k := 2) rfl rfl | exact Rd.obj (k := 3) rfl rfl | exact Rd.obj (k := 4) rfl rfl | exact Rd.imm (by assumption) | exact Rd.sl (k := 0) rfl (by assumption) | exact Rd.sl (k := 1) rfl (by assumption) | exact Rd.sl (k := 2) rfl (by assumption) | exact Rd.sl (k := 3) rfl (by assumption)) (by first | exact Rd.obj (k := 0) rfl rfl | exact Rd.obj (k := 1) rfl rfl | exact Rd.obj (k := 2) rfl rfl | exact Rd.obj (k := 3) rfl rfl | exact Rd.obj (k := 4) rfl rfl | exact Rd.imm (by assumption) | exact Rd.sl (k := 0) rfl (by assumption) | exact Rd.sl (k := 1) rfl (by assumption) | exact Rd.sl (k := 2) rfl (by assumption) | exact Rd.sl (k := 3) rfl (by assumption)) (by first | exact Rd.obj (k := 0) rfl rfl | exact Rd.obj (k := 1) rfl rfl | exact Rd.obj (k := 2) rfl rfl | exact Rd.obj (k := 3) rfl rfl | exact Rd.obj (k := 4) rfl rfl | exact Rd.imm (by assumption) | exact Rd.sl (k := 0) rfl (by assumption) | exact Rd.sl (k := 1) rfl (by assumption) | exact Rd.sl (k := 2) rfl (by assumption) | exact Rd.sl (k := 3) rfl (by assumption))) hS.rd ?_
    refine LW.ex rfl rfl rfl rfl (Ex.move rfl) hS.rd ?_
    refine LW.ex rfl rfl rfl rfl (Ex.load2c ti36 rfl rfl (by first | exact Rd.obj (k := 0) rfl rfl | exact Rd.obj (k := 1) rfl rfl | exact Rd.obj (k := 2) rfl rfl | exact Rd.obj (k := 3) rfl rfl | exact Rd.obj (k := 4) rfl rfl | exact Rd.imm (by assumption) | exact Rd.sl (k := 0) rfl (by assumption) | exact Rd.sl (k := 1) rfl (by assumption) | exact Rd.sl (k := 2) rfl (by assumption) | exact Rd.sl (k := 3) rfl (by assumption)) (by first | exact Rd.obj (k := 0) rfl rfl | exact Rd.obj (k := 1) rfl rfl | exact Rd.obj (k := 2) rfl rfl | exact Rd.obj (k := 3) rfl rfl | exact Rd.obj (k := 4) rfl rfl | exact Rd.imm (by assumption) | exact Rd.sl (k := 0) rfl (by assumption) | exact Rd.sl (k := 1) rfl (by assumption) | exact Rd.sl (k := 2) rfl (by assumption) | exact Rd.sl (k := 3) rfl (by assumption))) hS.rd ?_
    refine LW.hv rfl rfl rfl rfl (Hv.callV hS rfl rfl rfl cb15 (touchF_c (l := made l) (taps := tapsM t) (p := ⟨x.a, x.b⟩) hS.imm hd0 hs24 made_b (tapsM_b hfine) (tapsM_r t) (made_k l) (by omega) (by omega))) fun v w43 ⟨μ43, hv43, hm43, hS⟩ => ?_
    obtain ⟨ad43, c43, hv, hs43⟩ := hv43
    subst hv
    have hd0 := hd0.mono hm43
    have hs24 := hs24.mono hm43
    refine LW.ex rfl rfl rfl rfl (Ex.move rfl) hS.rd ?_
    refine LW.ex rfl rfl rfl rfl (Ex.extract rfl rfl) hS.rd ?_
    refine LW.ex rfl rfl rfl rfl (Ex.extract rfl rfl) hS.rd ?_
    refine LW.ex rfl rfl rfl rfl (Ex.assign rfl) hS.rd ?_
    refine LW.ex rfl rfl rfl rfl (Ex.assign rfl) hS.rd ?_
    refine LW.nil fun aa ha => hK10 _ _ _ ?_ aa ha
    refine CW.seq fun K11 hK11 => ?_
    refine CW.region [0, 1, 2, 3, 4, 5, 6, 7, 8] rfl ?_
    refine LW.ex rfl rfl rfl rfl (Ex.load3c ti31 rfl rfl (by first | exact Rd.obj (k := 0) rfl rfl | exact Rd.obj (k := 1) rfl rfl | exact Rd.obj (k := 2) rfl rfl | exact Rd.obj (k := 3) rfl rfl | exact Rd.obj (k := 4) rfl rfl | exact Rd.imm (by assumption) | exact Rd.sl (k := 0) rfl (by assumption) | exact Rd.sl (k := 1) rfl (by assumption) | exact Rd.sl (k := 2) rfl (by assumption) | exact Rd.sl (k := 3) rfl (by assumption)) (by first | exact Rd.obj (k := 0) rfl rfl | exact Rd.obj (k := 1) rfl rfl | exact Rd.obj (k := 2) rfl rfl | exact Rd.obj (k := 3) rfl rfl | exact Rd.obj (k := 4) rfl rfl | exact Rd.imm (by assumption) | exact Rd.sl (k := 0) rfl (by assumption) | exact Rd.sl (k := 1) rfl (by assumption) | exact Rd.sl (k := 2) rfl (by assumption) | exact Rd.sl (k := 3) rfl (by assumption)) (by first | exact Rd.obj (k := 0) rfl rfl | exact Rd.obj (k := 1) rfl rfl | exact Rd.obj (k := 2) rfl rfl | exact Rd.obj (k := 3) rfl rfl | exact Rd.obj (k := 4) rfl rfl | exact Rd.imm (by assumption) | exact Rd.sl (k := 0) rfl (by assumption) | exact Rd.sl (k := 1) rfl (by assumption) | exact Rd.sl (k := 2) rfl (by assumption) | exact Rd.sl (k := 3) rfl (by assumption))) hS.rd ?_
    refine LW.ex rfl rfl rfl rfl (Ex.move rfl) hS.rd ?_
    refine LW.ex rfl rfl rfl rfl (Ex.load2c ti36 rfl rfl (by first | exact Rd.obj (k := 0) rfl rfl | exact Rd.obj (k := 1) rfl rfl | exact Rd.obj (k := 2) rfl rfl | exact Rd.obj (k := 3) rfl rfl | exact Rd.obj (k := 4) rfl rfl | exact Rd.imm (by assumption) | exact Rd.sl (k := 0) rfl (by assumption) | exact Rd.sl (k := 1) rfl (by assumption) | exact Rd.sl (k := 2) rfl (by assumption) | exact Rd.sl (k := 3) rfl (by assumption)) (by first | exact Rd.obj (k := 0) rfl rfl | exact Rd.obj (k := 1) rfl rfl | exact Rd.obj (k := 2) rfl rfl | exact Rd.obj (k := 3) rfl rfl | exact Rd.obj (k := 4) rfl rfl | exact Rd.imm (by assumption) | exact Rd.sl (k := 0) rfl (by assumption) | exact Rd.sl (k := 1) rfl (by assumption) | exact Rd.sl (k := 2) rfl (by assumption) | exact Rd.sl (k := 3) rfl (by assumption))) hS.rd ?_
    refine LW.hv rfl rfl rfl rfl (Hv.callV hS rfl rfl rfl cb16 (reftouchF_c (l := made l) (taps := tapsM t) (p := ⟨x.a, x.b⟩) hS.imm hd0 hs24 made_b (tapsM_b hfine) (by omega))) fun v w50 ⟨μ50, hv50, hm50, hS⟩ => ?_
    obtain ⟨ad50, c50, hv, hs50⟩ := hv50
    subst hv
    have hd0 := hd0.mono hm50
    have hs24 := hs24.mono hm50
    have hs43 := hs43.mono hm50
    refine LW.ex rfl rfl rfl rfl (Ex.move rfl) hS.rd ?_
    refine LW.ex rfl rfl rfl rfl (Ex.extract rfl rfl) hS.rd ?_
    refine LW.ex rfl rfl rfl rfl (Ex.extract rfl rfl) hS.rd ?_
    refine LW.ex rfl rfl rfl rfl (Ex.assign rfl) hS.rd ?_
    refine LW.ex rfl rfl rfl rfl (Ex.assign rfl) hS.rd ?_
    refine LW.nil fun aa ha => hK11 _ _ _ ?_ aa ha
    refine CW.seq fun K12 hK12 => ?_
    refine CW.region [0, 1, 2, 3, 4, 5, 6, 7, 8, 9] rfl ?_
    refine LW.ex rfl rfl rfl rfl (Ex.load3c ti31 rfl rfl (by first | exact Rd.obj (k := 0) rfl rfl | exact Rd.obj (k := 1) rfl rfl | exact Rd.obj (k := 2) rfl rfl | exact Rd.obj (k := 3) rfl rfl | exact Rd.obj (k := 4) rfl rfl | exact Rd.imm (by assumption) | exact Rd.sl (k := 0) rfl (by assumption) | exact Rd.sl (k := 1) rfl (by assumption) | exact Rd.sl (k := 2) rfl (by assumption) | exact Rd.sl (k := 3) rfl (by assumption)) (by first | exact Rd.obj (k := 0) rfl rfl | exact Rd.obj (k := 1) rfl rfl | exact Rd.obj (k := 2) rfl rfl | exact Rd.obj (k := 3) rfl rfl | exact Rd.obj (k := 4) rfl rfl | exact Rd.imm (by assumption) | exact Rd.sl (k := 0) rfl (by assumption) | exact Rd.sl (k := 1) rfl (by assumption) | exact Rd.sl (k := 2) rfl (by assumption) | exact Rd.sl (k := 3) rfl (by assumption)) (by first | exact Rd.obj (k := 0) rfl rfl | exact Rd.obj (k := 1) rfl rfl | exact Rd.obj (k := 2) rfl rfl | exact Rd.obj (k := 3) rfl rfl | exact Rd.obj (k := 4) rfl rfl | exact Rd.imm (by assumption) | exact Rd.sl (k := 0) rfl (by assumption) | exact Rd.sl (k := 1) rfl (by assumption) | exact Rd.sl (k := 2) rfl (by assumption) | exact Rd.sl (k := 3) rfl (by assumption))) hS.rd ?_
    refine LW.ex rfl rfl rfl rfl (Ex.move rfl) hS.rd ?_
    refine LW.ex rfl rfl rfl rfl (Ex.move rfl) hS.rd ?_
    refine LW.ex rfl rfl rfl rfl (Ex.load2c ti36 rfl rfl (by first | exact Rd.obj (k := 0) rfl rfl | exact Rd.obj (k := 1) rfl rfl | exact Rd.obj (k := 2) rfl rfl | exact Rd.obj (k := 3) rfl rfl | exact Rd.obj (k := 4) rfl rfl | exact Rd.imm (by assumption) | exact Rd.sl (k := 0) rfl (by assumption) | exact Rd.sl (k := 1) rfl (by assumption) | exact Rd.sl (k := 2) rfl (by assumption) | exact Rd.sl (k := 3) rfl (by assumption)) (by first | exact Rd.obj (k := 0) rfl rfl | exact Rd.obj (k := 1) rfl rfl | exact Rd.obj (k := 2) rfl rfl | exact Rd.obj (k := 3) rfl rfl | exact Rd.obj (k := 4) rfl rfl | exact Rd.imm (by assumption) | exact Rd.sl (k := 0) rfl (by assumption) | exact Rd.sl (k := 1) rfl (by assumption) | exact Rd.sl (k := 2) rfl (by assumption) | exact Rd.sl (k := 3) rfl (by assumption))) hS.rd ?_
    refine LW.hv rfl rfl rfl rfl (Hv.callV hS rfl rfl rfl cb17 (adaptF_c (l := made l) (taps := tapsM t) (key := C97 (x.c % 256 % 20).toNat) (p := ⟨x.a, x.b⟩) hS.imm hd0 hs24 made_b (tapsM_b hfine) (tapsM_r t) (tapsM_N hfine) (by omega) (by omega))) fun v w58 ⟨μ58, hv58, hm58, hS⟩ => ?_
    obtain ⟨ad58, c58, hv, hs58⟩ := hv58
    subst hv
    have hd0 := hd0.mono hm58
    have hs24 := hs24.mono hm58
    have hs43 := hs43.mono hm58
    have hs50 := hs50.mono hm58
    refine LW.ex rfl rfl rfl rfl (Ex.move rfl) hS.rd ?_
    refine LW.ex rfl rfl rfl rfl (Ex.extract rfl rfl) hS.rd ?_
    refine LW.ex rfl rfl rfl rfl (Ex.extract rfl rfl) hS.rd ?_
    refine LW.ex rfl rfl rfl rfl (Ex.assign rfl) hS.rd ?_
    refine LW.ex rfl rfl rfl rfl (Ex.assign rfl) hS.rd ?_
    refine LW.nil fun aa ha => hK12 _ _ _ ?_ aa ha
    refine CW.seq fun K13 hK13 => ?_
    refine CW.region [0, 1, 2, 3, 4, 5, 6, 7, 8, 9, 10] rfl ?_
    refine LW.ex rfl rfl rfl rfl (Ex.load3c ti31 rfl rfl (by first | exact Rd.obj (k := 0) rfl rfl | exact Rd.obj (k := 1) rfl rfl | exact Rd.obj (k := 2) rfl rfl | exact Rd.obj (k := 3) rfl rfl | exact Rd.obj (k := 4) rfl rfl | exact Rd.imm (by assumption) | exact Rd.sl (k := 0) rfl (by assumption) | exact Rd.sl (k := 1) rfl (by assumption) | exact Rd.sl (k := 2) rfl (by assumption) | exact Rd.sl (k := 3) rfl (by assumption)) (by first | exact Rd.obj (k := 0) rfl rfl | exact Rd.obj (k := 1) rfl rfl | exact Rd.obj (k := 2) rfl rfl | exact Rd.obj (k := 3) rfl rfl | exact Rd.obj (k := 4) rfl rfl | exact Rd.imm (by assumption) | exact Rd.sl (k := 0) rfl (by assumption) | exact Rd.sl (k := 1) rfl (by assumption) | exact Rd.sl (k := 2) rfl (by assumption) | exact Rd.sl (k := 3) rfl (by assumption)) (by first | exact Rd.obj (k := 0) rfl rfl | exact Rd.obj (k := 1) rfl rfl | exact Rd.obj (k := 2) rfl rfl | exact Rd.obj (k := 3) rfl rfl | exact Rd.obj (k := 4) rfl rfl | exact Rd.imm (by assumption) | exact Rd.sl (k := 0) rfl (by assumption) | exact Rd.sl (k := 1) rfl (by assumption) | exact Rd.sl (k := 2) rfl (by assumption) | exact Rd.sl (k := 3) rfl (by assumption))) hS.rd ?_
    refine LW.ex rfl rfl rfl rfl (Ex.move rfl) hS.rd ?_
    refine LW.ex rfl rfl rfl rfl (Ex.move rfl) hS.rd ?_
    refine LW.ex rfl rfl rfl rfl (Ex.load2c ti36 rfl rfl (by first | exact Rd.obj (k := 0) rfl rfl | exact Rd.obj (k := 1) rfl rfl | exact Rd.obj (k := 2) rfl rfl | exact Rd.obj (k := 3) rfl rfl | exact Rd.obj (k := 4) rfl rfl | exact Rd.imm (by assumption) | exact Rd.sl (k := 0) rfl (by assumption) | exact Rd.sl (k := 1) rfl (by assumption) | exact Rd.sl (k := 2) rfl (by assumption) | exact Rd.sl (k := 3) rfl (by assumption)) (by first | exact Rd.obj (k := 0) rfl rfl | exact Rd.obj (k := 1) rfl rfl | exact Rd.obj (k := 2) rfl rfl | exact Rd.obj (k := 3) rfl rfl | exact Rd.obj (k := 4) rfl rfl | exact Rd.imm (by assumption) | exact Rd.sl (k := 0) rfl (by assumption) | exact Rd.sl (k := 1) rfl (by assumption) | exact Rd.sl (k := 2) rfl (by assumption) | exact Rd.sl (k := 3) rfl (by assumption))) hS.rd ?_
    refine LW.ex rfl rfl rfl rfl (Ex.buildS st47 rfl rfl rfl) hS.rd ?_
    refine LW.hv rfl rfl rfl rfl (Hv.callV hS rfl rfl rfl cb18 (refadapt_c (made l) (tapsM t) (C97 (x.c % 256 % 20).toNat) ⟨x.a, x.b⟩ _ _ _ _ _ _ _ _ hS.imm hd0 hs24 made_b (tapsM_b hfine) (by omega) (by omega))) fun v w67 ⟨μ67, hv67, hm67, hS⟩ => ?_
    obtain ⟨ad67, c67, hv, hs67⟩ := hv67
    subst hv
    have hs24 := hs24.mono hm67
    have hs43 := hs43.mono hm67
    have hs50 := hs50.mono hm67
    have hs58 := hs58.mono hm67
    refine LW.ex rfl rfl rfl rfl (Ex.move rfl) hS.rd ?_
    refine LW.ex rfl rfl rfl rfl (Ex.extract rfl rfl) hS.rd ?_
    refine LW.ex rfl rfl rfl rfl (Ex.extract rfl rfl) hS.rd ?_
    refine LW.ex rfl rfl rfl rfl (Ex.assign rfl) hS.rd ?_
    refine LW.ex rfl rfl rfl rfl (Ex.assign rfl) hS.rd ?_
    refine LW.nil fun aa ha => hK13 _ _ _ ?_ aa ha
    refine CW.seq fun K14 hK14 => ?_
    refine CW.region [0, 1, 2, 3, 4, 5, 6, 7, 8, 9, 10, 11, 12, 13, 14, 15, 16, 17, 18, 19, 20, 21, 22, 23, 24, 25, 26, 27, 28, 29, 30] rfl ?_
    refine LW.ex rfl rfl rfl rfl (Ex.move rfl) hS.rd ?_
    refine LW.ex rfl rfl rfl rfl (Ex.move rfl) hS.rd ?_
    refine LW.hv rfl rfl rfl rfl (Hv.callS hS rfl rfl rfl cb19 (sameS_c (touchR (made l) (tapsM t) ⟨x.a, x.b⟩).1 (touchR (made l) (tapsM t) ⟨x.a, x.b⟩).1 _ _ _ _ _ _ hS.imm hs43 hs50)) fun v w72 ⟨hv, hS⟩ => ?_
    subst hv
    refine LW.splitB (fun h8_2 => ?_) (fun h8_2 => ?_)
    · skip
      refine LW.ex rfl rfl rfl rfl (Ex.move rfl) hS.rd ?_
      refine LW.ex rfl rfl rfl rfl (Ex.move rfl) hS.rd ?_
      refine LW.ex rfl rfl rfl rfl (Ex.move rfl) hS.rd ?_
      refine LW.ex rfl rfl rfl rfl (Ex.eql rfl rfl rfl) hS.rd ?_
      refine LW.splitB (fun h8_6 => ?_) (fun h8_6 => ?_)
      · have h8_6 := of_decide_eq_true h8_6
        refine LW.ex rfl rfl rfl rfl (by first | exact Ex.pick_yes rfl rfl | exact Ex.pick_no rfl rfl) hS.rd ?_
        refine LW.ex rfl rfl rfl rfl (Ex.move rfl) hS.rd ?_
        refine LW.ex rfl rfl rfl rfl (Ex.move rfl) hS.rd ?_
        refine LW.ex rfl rfl rfl rfl (Ex.move rfl) hS.rd ?_
        refine LW.hv rfl rfl rfl rfl (Hv.callS hS rfl rfl rfl cb20 (sameT_c (adaptR (made l) (tapsM t) (C97 (x.c % 256 % 20).toNat) ⟨x.a, x.b⟩).1 (adaptR (made l) (tapsM t) (C97 (x.c % 256 % 20).toNat) ⟨x.a, x.b⟩).1 _ _ _ _ _ _ hS.imm hs58 hs67)) fun v w81 ⟨hv, hS⟩ => ?_
        subst hv
        refine LW.splitB (fun h8_11 => ?_) (fun h8_11 => ?_)
        · skip
          refine LW.ex rfl rfl rfl rfl (by first | exact Ex.pick_yes rfl rfl | exact Ex.pick_no rfl rfl) hS.rd ?_
          refine LW.ex rfl rfl rfl rfl (Ex.move rfl) hS.rd ?_
          refine LW.ex rfl rfl rfl rfl (Ex.move rfl) hS.rd ?_
          refine LW.ex rfl rfl rfl rfl (Ex.move rfl) hS.rd ?_
          refine LW.ex rfl rfl rfl rfl (Ex.eql rfl rfl rfl) hS.rd ?_
          refine LW.splitB (fun h8_16 => ?_) (fun h8_16 => ?_)
          · have h8_16 := of_decide_eq_true h8_16
            refine LW.ex rfl rfl rfl rfl (by first | exact Ex.pick_yes rfl rfl | exact Ex.pick_no rfl rfl) hS.rd ?_
            refine LW.ex rfl rfl rfl rfl (Ex.move rfl) hS.rd ?_
            refine LW.ex rfl rfl rfl rfl (Ex.move rfl) hS.rd ?_
            refine LW.ex rfl rfl rfl rfl (Ex.move rfl) hS.rd ?_
            refine LW.hv rfl rfl rfl rfl (Hv.callS hS rfl rfl rfl cb21 (shiftR_c (tapsM t) (C97 (x.c % 256 % 20).toNat) _ _ _ _ hS.imm hs24 (tapsM_b hfine) (tapsM_r t) (by omega))) fun v w91 ⟨hv, hS⟩ => ?_
            subst hv
            refine LW.ex rfl rfl rfl rfl (Ex.move rfl) hS.rd ?_
            refine LW.ex rfl rfl rfl rfl (Ex.move rfl) hS.rd ?_
            refine LW.hv rfl rfl rfl rfl (Hv.callS hS rfl rfl rfl cb22 (refshift_c (tapsM t) (C97 (x.c % 256 % 20).toNat) _ _ _ _ hS.imm hs24 (tapsM_b hfine))) fun v w94 ⟨hv, hS⟩ => ?_
            subst hv
            refine LW.ex rfl rfl rfl rfl (Ex.eqlSt (by kernel_rfl) rfl rfl (ptEq (shiftOf (tapsM t) (C97 (x.c % 256 % 20).toNat)) (shiftOf (tapsM t) (C97 (x.c % 256 % 20).toNat)))) hS.rd ?_
            refine LW.splitB (fun h8_25 => ?_) (fun h8_25 => ?_)
            · skip
              refine LW.ex rfl rfl rfl rfl (by first | exact Ex.pick_yes rfl rfl | exact Ex.pick_no rfl rfl) hS.rd ?_
              refine LW.ex rfl rfl rfl rfl (Ex.move rfl) hS.rd ?_
              refine LW.ex rfl rfl rfl rfl (Ex.move rfl) hS.rd ?_
              refine LW.ex rfl rfl rfl rfl (by first | exact Ex.pick_yes rfl rfl | exact Ex.pick_no rfl rfl) hS.rd ?_
              refine LW.ex rfl rfl rfl rfl (Ex.assign rfl) hS.rd ?_
              refine LW.nil fun aa ha => hK14 _ _ _ ?_ aa ha
              refine CW.ret fun aa ha => ?_
              refine ret_one ha Try.results3 rfl ?_
              exact hS.retS
            · simp at h8_25
          · have h8_16 := of_decide_eq_false h8_16
            exact absurd rfl h8_16
        · simp at h8_11
      · have h8_6 := of_decide_eq_false h8_6
        exact absurd rfl h8_6
    · simp at h8_2
end Go.Proofs.Ytphgjongflkolaa

