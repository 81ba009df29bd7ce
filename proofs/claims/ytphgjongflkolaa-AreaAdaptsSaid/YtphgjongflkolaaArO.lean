/-
  Areas: the walks of ValidTaps, Few and the reference's Touch.
-/
import Derived.Test.YtphgjongflkolaaArN
namespace Go.Proofs.Ytphgjongflkolaa
open Go.RowKit Sy Go.Sort

def okTap (t : Tap) : Bool := isLet t.Key && decide (1 ≤ t.N ∧ t.N ≤ 63) && decide (-63000 ≤ t.DX ∧ t.DX ≤ 63000) && decide (-63000 ≤ t.DY ∧ t.DY ≤ 63000)
def tapsR (l : List Tap) : Bool := rises okTap (fun x y => keyLt x.Key y.Key) none l
set_option maxRecDepth 100000 in
set_option maxHeartbeats 1000000 in
theorem taps_c (l : List Tap) (ad : Option Addr) (c : Nat) (μ : Mem) (w : World) (hμ : Imm μ w) (hl : Sl μ ad c l) :
    Calls Try.prog 29 #[.slice ad l.length c] w (RetS w (.bool (tapsR l))) := by
  have hll : l.length ≤ 9223372036854775807 := by have := hl.1; have := hl.2.1; simp only [maxLen] at this; omega
  have hS := St.start w μ hμ
  refine calls_start 64 [.slice ad l.length c] Try.func29 rfl Try.ntmps29 rfl rfl ?_
  refine CW.seq fun K1 hK1 => ?_
  refine CW.region [0] rfl ?_
  refine LW.ex rfl rfl rfl rfl (Ex.assign rfl) hS.rd ?_
  refine LW.nil fun aa ha => hK1 _ _ _ ?_ aa ha
  refine CW.seq fun K2 hK2 => ?_
  refine CW.seq fun K3 hK3 => ?_
  refine CW.region [0] rfl ?_
  refine LW.ex rfl rfl rfl rfl (Ex.assign rfl) hS.rd ?_
  refine LW.nil fun aa ha => hK3 _ _ _ ?_ aa ha
  refine CW.block ?_
  refine CW.loop (fun q m wl2 => ∃ (i : Nat), i ≤ l.length ∧ q = l.length - i ∧ m = [(0, .slice ad l.length c), (3, .int .i64 i)] ∧ St w wl2 μ [] ∧ (tapsR l = rises okTap (fun x y => keyLt x.Key y.Key) (prevOf l i) (l.drop i))) _ ⟨0, (by first | omega | (simp; done) | (simp; omega)), rfl, rfl, hS, rfl⟩ ⟨rfl, rfl, trivial⟩ ?_
  clear hS
  rintro q m wl2 ⟨i, hi, hq, rfl, hS, he⟩
  refine CW.seq fun K4 hK4 => ?_
  refine CW.seq fun K5 hK5 => ?_
  refine CW.region [0, 1, 2, 3] rfl ?_
  refine LW.ex rfl rfl rfl rfl (Ex.move rfl) hS.rd ?_
  refine LW.ex rfl rfl rfl rfl (Ex.move rfl) hS.rd ?_
  refine LW.ex rfl rfl rfl rfl (Ex.lenSl rfl Try.underlying33 rfl) hS.rd ?_
  refine LW.ex rfl rfl rfl rfl (Ex.lss rfl rfl rfl) hS.rd ?_
  refine LW.splitB (fun h2_3 => ?_) (fun h2_3 => ?_)
  · have h2_3 := of_decide_eq_true h2_3
    refine LW.nil fun aa ha => hK5 _ _ _ ?_ aa ha
    refine CW.yes rfl ?_
    refine CW.skip fun aa ha => hK4 _ _ _ ?_ aa ha
    refine CW.seq fun K6 hK6 => ?_
    refine CW.block ?_
    refine CW.seq fun K7 hK7 => ?_
    have hi2 : i < l.length := by omega
    have hnn : i - 1 < l.length := by omega
    obtain ⟨bl, ol, rfl, k0, k1, k2, k3⟩ := hl.at hi2
    obtain ⟨bl', ol', e', j0, j1, j2, j3⟩ := hl.at hnn
    cases e'
    refine CW.region [0, 1, 2, 3, 4, 5] rfl ?_
    refine LW.ex rfl rfl rfl rfl (Ex.move rfl) hS.rd ?_
    refine LW.ex rfl rfl rfl rfl (Ex.move rfl) hS.rd ?_
    refine LW.ex rfl rfl rfl rfl (Ex.indexSl Try.underlying33 ti82 rfl rfl rfl (by omega)) hS.rd ?_
    refine LW.ex rfl rfl rfl rfl (Ex.load4c ti82 rfl rfl (by first | exact Rd.obj (k := 0) rfl rfl | exact Rd.obj (k := 1) rfl rfl | exact Rd.obj (k := 2) rfl rfl | exact Rd.obj (k := 3) rfl rfl | exact Rd.obj (k := 4) rfl rfl | exact Rd.imm (by assumption) | exact Rd.sl (k := 0) rfl (by assumption) | exact Rd.sl (k := 1) rfl (by assumption) | exact Rd.sl (k := 2) rfl (by assumption) | exact Rd.sl (k := 3) rfl (by assumption)) (by first | exact Rd.obj (k := 0) rfl rfl | exact Rd.obj (k := 1) rfl rfl | exact Rd.obj (k := 2) rfl rfl | exact Rd.obj (k := 3) rfl rfl | exact Rd.obj (k := 4) rfl rfl | exact Rd.imm (by assumption) | exact Rd.sl (k := 0) rfl (by assumption) | exact Rd.sl (k := 1) rfl (by assumption) | exact Rd.sl (k := 2) rfl (by assumption) | exact Rd.sl (k := 3) rfl (by assumption)) (by first | exact Rd.obj (k := 0) rfl rfl | exact Rd.obj (k := 1) rfl rfl | exact Rd.obj (k := 2) rfl rfl | exact Rd.obj (k := 3) rfl rfl | exact Rd.obj (k := 4) rfl rfl | exact Rd.imm (by assumption) | exact Rd.sl (k := 0) rfl (by assumption) | exact Rd.sl (k := 1) rfl (by assumption) | exact Rd.sl (k := 2) rfl (by assumption) | exact Rd.sl (k := 3) rfl (by assumption)) (by first | exact Rd.obj (k := 0) rfl rfl | exact Rd.obj (k := 1) rfl rfl | exact Rd.obj (k := 2) rfl rfl | exact Rd.obj (k := 3) rfl rfl | exact Rd.obj (k := 4) rfl rfl | exact Rd.imm (by assumption) | exact Rd.sl (k := 0) rfl (by assumption) | exact Rd.sl (k := 1) rfl (by assumption) | exact Rd.sl (k := 2) rfl (by assumption) | exact Rd.sl (k := 3) rfl (by assumption))) hS.rd ?_
    refine LW.hv rfl rfl rfl rfl (Hv.alloc ti82 hS) fun v w4 ⟨b4, hv, hb4, hS⟩ => ?_
    subst hv
    refine LW.hu rfl rfl rfl (Hv.storeN (k := 0) ti82 hS rfl rfl rfl rfl (by simp [Value.oneCell'])) fun _ w_5 hS => ?_
    dsimp only [List.set] at hS
    refine LW.nil fun aa ha => hK7 _ _ _ ?_ aa ha
    refine CW.seq fun K8 hK8 => ?_
    have hS := hS.drew
    refine CW.draw 49 (.ex 0 <| .ex 1 <| .one 2 <| .ex 3 <| .ex 4 <| .ex 5 <| .ex 6 <| .ex 7 <| .ex 8 <| .ex 9 <| .ex 10 <| .ex 11 <| .ex 12 <| .ex 13 <| .ex 14 <| .ex 15 <| .ex 16 <| .ex 17 <| .ex 18 <| .ex 19 <| .ex 20 <| .ex 21 <| .ex 22 <| .ex 23 <| .ex 24 <| .ex 25 <| .ex 26 <| .ex 27 <| .ex 28 <| .ex 29 <| .ex 30 <| .ex 31 <| .ex 32 <| .ex 33 <| .ex 34 <| .ex 35 <| .ex 36 <| .ex 37 <| .ex 38 <| .ex 39 <| .ex 40 <| .ex 41 <| .ex 42 <| .ex 43 <| .ex 44 <| .ex 45 <| .ex 46 <| .ex 47 <| .ex 48 <| .done) [] (Rd _ _) mixed (by kernel_rfl) rfl rfl hS.rd ?_
    refine PW.ex rfl rfl rfl rfl (Ex.fieldO 0 Try.underlying82 rfl rfl ti5 rfl) ?_
    refine PW.ex rfl rfl rfl rfl (Ex.load1 ti5 rfl rfl (by first | exact Rd.obj (k := 0) rfl rfl | exact Rd.obj (k := 1) rfl rfl | exact Rd.obj (k := 2) rfl rfl | exact Rd.obj (k := 3) rfl rfl | exact Rd.obj (k := 4) rfl rfl | exact Rd.imm (by assumption) | exact Rd.sl (k := 0) rfl (by assumption) | exact Rd.sl (k := 1) rfl (by assumption) | exact Rd.sl (k := 2) rfl (by assumption) | exact Rd.sl (k := 3) rfl (by assumption))) ?_
    refine PW.hv rfl rfl rfl rfl (Hv.callS hS rfl rfl rfl cb61 (refletter_c _ _)) (fun _ _ h => h.2.rd) fun v w17 ⟨hv, hS⟩ => ?_
    subst hv
    refine PW.splitB (fun h5_2 => ?_) (fun h5_2 => ?_)
    · skip
      refine PW.ex rfl rfl rfl rfl (Ex.not rfl rfl) ?_
      refine PW.ex rfl rfl rfl rfl (Ex.move rfl) ?_
      refine PW.ex rfl rfl rfl rfl (Ex.move rfl) ?_
      refine PW.ex rfl rfl rfl rfl (Ex.gtr rfl rfl rfl) ?_
      refine PW.splitB (fun h5_6 => ?_) (fun h5_6 => ?_)
      · have h5_6 := of_decide_eq_true h5_6
        refine PW.ex rfl rfl rfl rfl (Ex.move rfl) ?_
        refine PW.ex rfl rfl rfl rfl (Ex.fieldO 0 Try.underlying82 rfl rfl ti5 rfl) ?_
        refine PW.ex rfl rfl rfl rfl (Ex.load1 ti5 rfl rfl (by first | exact Rd.obj (k := 0) rfl rfl | exact Rd.obj (k := 1) rfl rfl | exact Rd.obj (k := 2) rfl rfl | exact Rd.obj (k := 3) rfl rfl | exact Rd.obj (k := 4) rfl rfl | exact Rd.imm (by assumption) | exact Rd.sl (k := 0) rfl (by assumption) | exact Rd.sl (k := 1) rfl (by assumption) | exact Rd.sl (k := 2) rfl (by assumption) | exact Rd.sl (k := 3) rfl (by assumption))) ?_
        refine PW.ex rfl rfl rfl rfl (Ex.move rfl) ?_
        refine PW.ex rfl rfl rfl rfl (Ex.move rfl) ?_
        refine PW.ex rfl rfl rfl rfl (Ex.sub rfl rfl (by first | exact dec64 (by omega) (by omega) | exact subN (by omega) (by omega) | exact w64 (by omega) (by omega))) ?_
        refine PW.ex rfl rfl rfl rfl (Ex.indexSl Try.underlying33 ti82 rfl rfl rfl (by omega)) ?_
        refine PW.ex rfl rfl rfl rfl (Ex.fieldO 0 Try.underlying82 rfl rfl ti5 rfl) ?_
        refine PW.ex rfl rfl rfl rfl (Ex.load1 ti5 rfl rfl (by first | exact Rd.obj (k := 0) rfl rfl | exact Rd.obj (k := 1) rfl rfl | exact Rd.obj (k := 2) rfl rfl | exact Rd.obj (k := 3) rfl rfl | exact Rd.obj (k := 4) rfl rfl | exact Rd.imm (by assumption) | exact Rd.sl (k := 0) rfl (by assumption) | exact Rd.sl (k := 1) rfl (by assumption) | exact Rd.sl (k := 2) rfl (by assumption) | exact Rd.sl (k := 3) rfl (by assumption))) ?_
        refine PW.ex rfl rfl rfl rfl (Ex.leq rfl rfl rfl) ?_
        refine PW.splitB (fun h5_16 => ?_) (fun h5_16 => ?_)
        · have h5_16 := of_decide_eq_true h5_16
          refine PW.ex rfl rfl rfl rfl (by first | exact Ex.pick_yes rfl rfl | exact Ex.pick_no rfl rfl) ?_
          refine PW.ex rfl rfl rfl rfl (by first | exact Ex.pick_yes rfl rfl | exact Ex.pick_no rfl rfl) ?_
          refine PW.ex rfl rfl rfl rfl (Ex.move rfl) ?_
          refine PW.skip rfl rfl rfl rfl ?_
          refine PW.skip rfl rfl rfl rfl ?_
          refine PW.skip rfl rfl rfl rfl ?_
          refine PW.ex rfl rfl rfl rfl (by first | exact Ex.pick_yes rfl rfl | exact Ex.pick_no rfl rfl) ?_
          refine PW.ex rfl rfl rfl rfl (Ex.move rfl) ?_
          refine PW.skip rfl rfl rfl rfl ?_
          refine PW.skip rfl rfl rfl rfl ?_
          refine PW.skip rfl rfl rfl rfl ?_
          refine PW.ex rfl rfl rfl rfl (by first | exact Ex.pick_yes rfl rfl | exact Ex.pick_no rfl rfl) ?_
          refine PW.ex rfl rfl rfl rfl (Ex.move rfl) ?_
          refine PW.skip rfl rfl rfl rfl ?_
          refine PW.skip rfl rfl rfl rfl ?_
          refine PW.skip rfl rfl rfl rfl ?_
          refine PW.ex rfl rfl rfl rfl (by first | exact Ex.pick_yes rfl rfl | exact Ex.pick_no rfl rfl) ?_
          refine PW.ex rfl rfl rfl rfl (Ex.move rfl) ?_
          refine PW.skip rfl rfl rfl rfl ?_
          refine PW.skip rfl rfl rfl rfl ?_
          refine PW.skip rfl rfl rfl rfl ?_
          refine PW.ex rfl rfl rfl rfl (by first | exact Ex.pick_yes rfl rfl | exact Ex.pick_no rfl rfl) ?_
          refine PW.ex rfl rfl rfl rfl (Ex.move rfl) ?_
          refine PW.skip rfl rfl rfl rfl ?_
          refine PW.skip rfl rfl rfl rfl ?_
          refine PW.skip rfl rfl rfl rfl ?_
          refine PW.ex rfl rfl rfl rfl (by first | exact Ex.pick_yes rfl rfl | exact Ex.pick_no rfl rfl) ?_
          refine PW.ex rfl rfl rfl rfl (Ex.move rfl) ?_
          refine PW.skip rfl rfl rfl rfl ?_
          refine PW.skip rfl rfl rfl rfl ?_
          refine PW.skip rfl rfl rfl rfl ?_
          refine PW.ex rfl rfl rfl rfl (by first | exact Ex.pick_yes rfl rfl | exact Ex.pick_no rfl rfl) ?_
          refine PW.nil ?_
          refine LW.nil fun aa ha => hK8 _ _ _ ?_ aa ha
          refine CW.yes rfl ?_
          refine CW.seq fun K9 hK9 => ?_
          refine CW.region [0] rfl ?_
          refine LW.ex rfl rfl rfl rfl (Ex.assign rfl) hS.rd ?_
          refine LW.nil fun aa ha => hK9 _ _ _ ?_ aa ha
          refine CW.ret fun aa ha => ?_
          refine ret_one ha Try.results29 rfl ?_
          rw [he, rises_not2 _ _ _ _ hi2 (by omega) (decide_eq_false (by omega))]; exact hS.retS
        · have h5_16 := of_decide_eq_false h5_16
          refine PW.ex rfl rfl rfl rfl (by first | exact Ex.pick_yes rfl rfl | exact Ex.pick_no rfl rfl) ?_
          refine PW.ex rfl rfl rfl rfl (by first | exact Ex.pick_yes rfl rfl | exact Ex.pick_no rfl rfl) ?_
          refine PW.ex rfl rfl rfl rfl (Ex.move rfl) ?_
          refine PW.ex rfl rfl rfl rfl (Ex.fieldO 3 Try.underlying82 rfl rfl ti3 rfl) ?_
          refine PW.ex rfl rfl rfl rfl (Ex.load1 ti3 rfl rfl (by first | exact Rd.obj (k := 0) rfl rfl | exact Rd.obj (k := 1) rfl rfl | exact Rd.obj (k := 2) rfl rfl | exact Rd.obj (k := 3) rfl rfl | exact Rd.obj (k := 4) rfl rfl | exact Rd.imm (by assumption) | exact Rd.sl (k := 0) rfl (by assumption) | exact Rd.sl (k := 1) rfl (by assumption) | exact Rd.sl (k := 2) rfl (by assumption) | exact Rd.sl (k := 3) rfl (by assumption))) ?_
          refine PW.ex rfl rfl rfl rfl (Ex.lss rfl rfl rfl) ?_
          refine PW.splitB (fun h5_22 => ?_) (fun h5_22 => ?_)
          · have h5_22 := of_decide_eq_true h5_22
            refine PW.ex rfl rfl rfl rfl (by first | exact Ex.pick_yes rfl rfl | exact Ex.pick_no rfl rfl) ?_
            refine PW.ex rfl rfl rfl rfl (Ex.move rfl) ?_
            refine PW.skip rfl rfl rfl rfl ?_
            refine PW.skip rfl rfl rfl rfl ?_
            refine PW.skip rfl rfl rfl rfl ?_
            refine PW.ex rfl rfl rfl rfl (by first | exact Ex.pick_yes rfl rfl | exact Ex.pick_no rfl rfl) ?_
            refine PW.ex rfl rfl rfl rfl (Ex.move rfl) ?_
            refine PW.skip rfl rfl rfl rfl ?_
            refine PW.skip rfl rfl rfl rfl ?_
            refine PW.skip rfl rfl rfl rfl ?_
            refine PW.ex rfl rfl rfl rfl (by first | exact Ex.pick_yes rfl rfl | exact Ex.pick_no rfl rfl) ?_
            refine PW.ex rfl rfl rfl rfl (Ex.move rfl) ?_
            refine PW.skip rfl rfl rfl rfl ?_
            refine PW.skip rfl rfl rfl rfl ?_
            refine PW.skip rfl rfl rfl rfl ?_
            refine PW.ex rfl rfl rfl rfl (by first | exact Ex.pick_yes rfl rfl | exact Ex.pick_no rfl rfl) ?_
            refine PW.ex rfl rfl rfl rfl (Ex.move rfl) ?_
            refine PW.skip rfl rfl rfl rfl ?_
            refine PW.skip rfl rfl rfl rfl ?_
            refine PW.skip rfl rfl rfl rfl ?_
            refine PW.ex rfl rfl rfl rfl (by first | exact Ex.pick_yes rfl rfl | exact Ex.pick_no rfl rfl) ?_
            refine PW.ex rfl rfl rfl rfl (Ex.move rfl) ?_
            refine PW.skip rfl rfl rfl rfl ?_
            refine PW.skip rfl rfl rfl rfl ?_
            refine PW.skip rfl rfl rfl rfl ?_
            refine PW.ex rfl rfl rfl rfl (by first | exact Ex.pick_yes rfl rfl | exact Ex.pick_no rfl rfl) ?_
            refine PW.nil ?_
            refine LW.nil fun aa ha => hK8 _ _ _ ?_ aa ha
            refine CW.yes rfl ?_
            refine CW.seq fun K10 hK10 => ?_
            refine CW.region [0] rfl ?_
            refine LW.ex rfl rfl rfl rfl (Ex.assign rfl) hS.rd ?_
            refine LW.nil fun aa ha => hK10 _ _ _ ?_ aa ha
            refine CW.ret fun aa ha => ?_
            refine ret_one ha Try.results29 rfl ?_
            rw [he, rises_not _ _ _ _ hi2 (by simp_all [okTap]; try omega)]; exact hS.retS
          · have h5_22 := of_decide_eq_false h5_22
            refine PW.ex rfl rfl rfl rfl (by first | exact Ex.pick_yes rfl rfl | exact Ex.pick_no rfl rfl) ?_
            refine PW.ex rfl rfl rfl rfl (Ex.move rfl) ?_
            refine PW.ex rfl rfl rfl rfl (Ex.fieldO 3 Try.underlying82 rfl rfl ti3 rfl) ?_
            refine PW.ex rfl rfl rfl rfl (Ex.load1 ti3 rfl rfl (by first | exact Rd.obj (k := 0) rfl rfl | exact Rd.obj (k := 1) rfl rfl | exact Rd.obj (k := 2) rfl rfl | exact Rd.obj (k := 3) rfl rfl | exact Rd.obj (k := 4) rfl rfl | exact Rd.imm (by assumption) | exact Rd.sl (k := 0) rfl (by assumption) | exact Rd.sl (k := 1) rfl (by assumption) | exact Rd.sl (k := 2) rfl (by assumption) | exact Rd.sl (k := 3) rfl (by assumption))) ?_
            refine PW.ex rfl rfl rfl rfl (Ex.gtr rfl rfl rfl) ?_
            refine PW.splitB (fun h5_27 => ?_) (fun h5_27 => ?_)
            · have h5_27 := of_decide_eq_true h5_27
              refine PW.ex rfl rfl rfl rfl (by first | exact Ex.pick_yes rfl rfl | exact Ex.pick_no rfl rfl) ?_
              refine PW.ex rfl rfl rfl rfl (Ex.move rfl) ?_
              refine PW.skip rfl rfl rfl rfl ?_
              refine PW.skip rfl rfl rfl rfl ?_
              refine PW.skip rfl rfl rfl rfl ?_
              refine PW.ex rfl rfl rfl rfl (by first | exact Ex.pick_yes rfl rfl | exact Ex.pick_no rfl rfl) ?_
              refine PW.ex rfl rfl rfl rfl (Ex.move rfl) ?_
              refine PW.skip rfl rfl rfl rfl ?_
              refine PW.skip rfl rfl rfl rfl ?_
              refine PW.skip rfl rfl rfl rfl ?_
              refine PW.ex rfl rfl rfl rfl (by first | exact Ex.pick_yes rfl rfl | exact Ex.pick_no rfl rfl) ?_
              refine PW.ex rfl rfl rfl rfl (Ex.move rfl) ?_
              refine PW.skip rfl rfl rfl rfl ?_
              refine PW.skip rfl rfl rfl rfl ?_
              refine PW.skip rfl rfl rfl rfl ?_
              refine PW.ex rfl rfl rfl rfl (by first | exact Ex.pick_yes rfl rfl | exact Ex.pick_no rfl rfl) ?_
              refine PW.ex rfl rfl rfl rfl (Ex.move rfl) ?_
              refine PW.skip rfl rfl rfl rfl ?_
              refine PW.skip rfl rfl rfl rfl ?_
              refine PW.skip rfl rfl rfl rfl ?_
              refine PW.ex rfl rfl rfl rfl (by first | exact Ex.pick_yes rfl rfl | exact Ex.pick_no rfl rfl) ?_
              refine PW.nil ?_
              refine LW.nil fun aa ha => hK8 _ _ _ ?_ aa ha
              refine CW.yes rfl ?_
              refine CW.seq fun K11 hK11 => ?_
              refine CW.region [0] rfl ?_
              refine LW.ex rfl rfl rfl rfl (Ex.assign rfl) hS.rd ?_
              refine LW.nil fun aa ha => hK11 _ _ _ ?_ aa ha
              refine CW.ret fun aa ha => ?_
              refine ret_one ha Try.results29 rfl ?_
              rw [he, rises_not _ _ _ _ hi2 (by simp_all [okTap]; try omega)]; exact hS.retS
            · have h5_27 := of_decide_eq_false h5_27
              refine PW.ex rfl rfl rfl rfl (by first | exact Ex.pick_yes rfl rfl | exact Ex.pick_no rfl rfl) ?_
              refine PW.ex rfl rfl rfl rfl (Ex.move rfl) ?_
              refine PW.ex rfl rfl rfl rfl (Ex.fieldO 1 Try.underlying82 rfl rfl ti3 rfl) ?_
              refine PW.ex rfl rfl rfl rfl (Ex.load1 ti3 rfl rfl (by first | exact Rd.obj (k := 0) rfl rfl | exact Rd.obj (k := 1) rfl rfl | exact Rd.obj (k := 2) rfl rfl | exact Rd.obj (k := 3) rfl rfl | exact Rd.obj (k := 4) rfl rfl | exact Rd.imm (by assumption) | exact Rd.sl (k := 0) rfl (by assumption) | exact Rd.sl (k := 1) rfl (by assumption) | exact Rd.sl (k := 2) rfl (by assumption) | exact Rd.sl (k := 3) rfl (by assumption))) ?_
              refine PW.ex rfl rfl rfl rfl (Ex.lss rfl rfl rfl) ?_
              refine PW.splitB (fun h5_32 => ?_) (fun h5_32 => ?_)
              · have h5_32 := of_decide_eq_true h5_32
                refine PW.ex rfl rfl rfl rfl (by first | exact Ex.pick_yes rfl rfl | exact Ex.pick_no rfl rfl) ?_
                refine PW.ex rfl rfl rfl rfl (Ex.move rfl) ?_
                refine PW.skip rfl rfl rfl rfl ?_
                refine PW.skip rfl rfl rfl rfl ?_
                refine PW.skip rfl rfl rfl rfl ?_
                refine PW.ex rfl rfl rfl rfl (by first | exact Ex.pick_yes rfl rfl | exact Ex.pick_no rfl rfl) ?_
                refine PW.ex rfl rfl rfl rfl (Ex.move rfl) ?_
                refine PW.skip rfl rfl rfl rfl ?_
                refine PW.skip rfl rfl rfl rfl ?_
                refine PW.skip rfl rfl rfl rfl ?_
                refine PW.ex rfl rfl rfl rfl (by first | exact Ex.pick_yes rfl rfl | exact Ex.pick_no rfl rfl) ?_
                refine PW.ex rfl rfl rfl rfl (Ex.move rfl) ?_
                refine PW.skip rfl rfl rfl rfl ?_
                refine PW.skip rfl rfl rfl rfl ?_
                refine PW.skip rfl rfl rfl rfl ?_
                refine PW.ex rfl rfl rfl rfl (by first | exact Ex.pick_yes rfl rfl | exact Ex.pick_no rfl rfl) ?_
                refine PW.nil ?_
                refine LW.nil fun aa ha => hK8 _ _ _ ?_ aa ha
                refine CW.yes rfl ?_
                refine CW.seq fun K12 hK12 => ?_
                refine CW.region [0] rfl ?_
                refine LW.ex rfl rfl rfl rfl (Ex.assign rfl) hS.rd ?_
                refine LW.nil fun aa ha => hK12 _ _ _ ?_ aa ha
                refine CW.ret fun aa ha => ?_
                refine ret_one ha Try.results29 rfl ?_
                rw [he, rises_not _ _ _ _ hi2 (by simp_all [okTap]; try omega)]; exact hS.retS
              · have h5_32 := of_decide_eq_false h5_32
                refine PW.ex rfl rfl rfl rfl (by first | exact Ex.pick_yes rfl rfl | exact Ex.pick_no rfl rfl) ?_
                refine PW.ex rfl rfl rfl rfl (Ex.move rfl) ?_
                refine PW.ex rfl rfl rfl rfl (Ex.fieldO 1 Try.underlying82 rfl rfl ti3 rfl) ?_
                refine PW.ex rfl rfl rfl rfl (Ex.load1 ti3 rfl rfl (by first | exact Rd.obj (k := 0) rfl rfl | exact Rd.obj (k := 1) rfl rfl | exact Rd.obj (k := 2) rfl rfl | exact Rd.obj (k := 3) rfl rfl | exact Rd.obj (k := 4) rfl rfl | exact Rd.imm (by assumption) | exact Rd.sl (k := 0) rfl (by assumption) | exact Rd.sl (k := 1) rfl (by assumption) | exact Rd.sl (k := 2) rfl (by assumption) | exact Rd.sl (k := 3) rfl (by assumption))) ?_
                refine PW.ex rfl rfl rfl rfl (Ex.gtr rfl rfl rfl) ?_
                refine PW.splitB (fun h5_37 => ?_) (fun h5_37 => ?_)
                · have h5_37 := of_decide_eq_true h5_37
                  refine PW.ex rfl rfl rfl rfl (by first | exact Ex.pick_yes rfl rfl | exact Ex.pick_no rfl rfl) ?_
                  refine PW.ex rfl rfl rfl rfl (Ex.move rfl) ?_
                  refine PW.skip rfl rfl rfl rfl ?_
                  refine PW.skip rfl rfl rfl rfl ?_
                  refine PW.skip rfl rfl rfl rfl ?_
                  refine PW.ex rfl rfl rfl rfl (by first | exact Ex.pick_yes rfl rfl | exact Ex.pick_no rfl rfl) ?_
                  refine PW.ex rfl rfl rfl rfl (Ex.move rfl) ?_
                  refine PW.skip rfl rfl rfl rfl ?_
                  refine PW.skip rfl rfl rfl rfl ?_
                  refine PW.skip rfl rfl rfl rfl ?_
                  refine PW.ex rfl rfl rfl rfl (by first | exact Ex.pick_yes rfl rfl | exact Ex.pick_no rfl rfl) ?_
                  refine PW.nil ?_
                  refine LW.nil fun aa ha => hK8 _ _ _ ?_ aa ha
                  refine CW.yes rfl ?_
                  refine CW.seq fun K13 hK13 => ?_
                  refine CW.region [0] rfl ?_
                  refine LW.ex rfl rfl rfl rfl (Ex.assign rfl) hS.rd ?_
                  refine LW.nil fun aa ha => hK13 _ _ _ ?_ aa ha
                  refine CW.ret fun aa ha => ?_
                  refine ret_one ha Try.results29 rfl ?_
                  rw [he, rises_not _ _ _ _ hi2 (by simp_all [okTap]; try omega)]; exact hS.retS
                · have h5_37 := of_decide_eq_false h5_37
                  refine PW.ex rfl rfl rfl rfl (by first | exact Ex.pick_yes rfl rfl | exact Ex.pick_no rfl rfl) ?_
                  refine PW.ex rfl rfl rfl rfl (Ex.move rfl) ?_
                  refine PW.ex rfl rfl rfl rfl (Ex.fieldO 2 Try.underlying82 rfl rfl ti3 rfl) ?_
                  refine PW.ex rfl rfl rfl rfl (Ex.load1 ti3 rfl rfl (by first | exact Rd.obj (k := 0) rfl rfl | exact Rd.obj (k := 1) rfl rfl | exact Rd.obj (k := 2) rfl rfl | exact Rd.obj (k := 3) rfl rfl | exact Rd.obj (k := 4) rfl rfl | exact Rd.imm (by assumption) | exact Rd.sl (k := 0) rfl (by assumption) | exact Rd.sl (k := 1) rfl (by assumption) | exact Rd.sl (k := 2) rfl (by assumption) | exact Rd.sl (k := 3) rfl (by assumption))) ?_
                  refine PW.ex rfl rfl rfl rfl (Ex.lss rfl rfl rfl) ?_
                  refine PW.splitB (fun h5_42 => ?_) (fun h5_42 => ?_)
                  · have h5_42 := of_decide_eq_true h5_42
                    refine PW.ex rfl rfl rfl rfl (by first | exact Ex.pick_yes rfl rfl | exact Ex.pick_no rfl rfl) ?_
                    refine PW.ex rfl rfl rfl rfl (Ex.move rfl) ?_
                    refine PW.skip rfl rfl rfl rfl ?_
                    refine PW.skip rfl rfl rfl rfl ?_
                    refine PW.skip rfl rfl rfl rfl ?_
                    refine PW.ex rfl rfl rfl rfl (by first | exact Ex.pick_yes rfl rfl | exact Ex.pick_no rfl rfl) ?_
                    refine PW.nil ?_
                    refine LW.nil fun aa ha => hK8 _ _ _ ?_ aa ha
                    refine CW.yes rfl ?_
                    refine CW.seq fun K14 hK14 => ?_
                    refine CW.region [0] rfl ?_
                    refine LW.ex rfl rfl rfl rfl (Ex.assign rfl) hS.rd ?_
                    refine LW.nil fun aa ha => hK14 _ _ _ ?_ aa ha
                    refine CW.ret fun aa ha => ?_
                    refine ret_one ha Try.results29 rfl ?_
                    rw [he, rises_not _ _ _ _ hi2 (by simp_all [okTap]; try omega)]; exact hS.retS
                  · have h5_42 := of_decide_eq_false h5_42
                    refine PW.ex rfl rfl rfl rfl (by first | exact Ex.pick_yes rfl rfl | exact Ex.pick_no rfl rfl) ?_
                    refine PW.ex rfl rfl rfl rfl (Ex.move rfl) ?_
                    refine PW.ex rfl rfl rfl rfl (Ex.fieldO 2 Try.underlying82 rfl rfl ti3 rfl) ?_
                    refine PW.ex rfl rfl rfl rfl (Ex.load1 ti3 rfl rfl (by first | exact Rd.obj (k := 0) rfl rfl | exact Rd.obj (k := 1) rfl rfl | exact Rd.obj (k := 2) rfl rfl | exact Rd.obj (k := 3) rfl rfl | exact Rd.obj (k := 4) rfl rfl | exact Rd.imm (by assumption) | exact Rd.sl (k := 0) rfl (by assumption) | exact Rd.sl (k := 1) rfl (by assumption) | exact Rd.sl (k := 2) rfl (by assumption) | exact Rd.sl (k := 3) rfl (by assumption))) ?_
                    refine PW.ex rfl rfl rfl rfl (Ex.gtr rfl rfl rfl) ?_
                    refine PW.splitB (fun h5_47 => ?_) (fun h5_47 => ?_)
                    · have h5_47 := of_decide_eq_true h5_47
                      refine PW.ex rfl rfl rfl rfl (by first | exact Ex.pick_yes rfl rfl | exact Ex.pick_no rfl rfl) ?_
                      refine PW.nil ?_
                      refine LW.nil fun aa ha => hK8 _ _ _ ?_ aa ha
                      refine CW.yes rfl ?_
                      refine CW.seq fun K15 hK15 => ?_
                      refine CW.region [0] rfl ?_
                      refine LW.ex rfl rfl rfl rfl (Ex.assign rfl) hS.rd ?_
                      refine LW.nil fun aa ha => hK15 _ _ _ ?_ aa ha
                      refine CW.ret fun aa ha => ?_
                      refine ret_one ha Try.results29 rfl ?_
                      rw [he, rises_not _ _ _ _ hi2 (by simp_all [okTap]; try omega)]; exact hS.retS
                    · have h5_47 := of_decide_eq_false h5_47
                      refine PW.ex rfl rfl rfl rfl (by first | exact Ex.pick_yes rfl rfl | exact Ex.pick_no rfl rfl) ?_
                      refine PW.nil ?_
                      refine LW.nil fun aa ha => hK8 _ _ _ ?_ aa ha
                      refine CW.no rfl ?_
                      refine CW.skip fun aa ha => hK6 _ _ _ ?_ aa ha
                      refine CW.region [0, 1, 2] rfl ?_
                      refine LW.ex rfl rfl rfl rfl (Ex.move rfl) hS.rd ?_
                      refine LW.ex rfl rfl rfl rfl (Ex.add rfl rfl (by first | exact inc64 (by omega) | exact addN (by omega) | exact w64 (by omega) (by omega))) hS.rd ?_
                      refine LW.ex rfl rfl rfl rfl (Ex.assign rfl) hS.rd ?_
                      refine LW.nil fun aa ha => ?_
                      have hS := hS.drop 0 rfl
                      dsimp only [List.eraseIdx] at hS
                      refine ⟨_, _, ?m2, ⟨i + 1, (by first | omega | (simp; done) | (simp; omega)), rfl, rfl, hS, ?_⟩, ha.sub ⟨rfl, rfl, trivial⟩⟩
                      case m2 => omega
                      rw [he]; exact rises_step _ _ _ _ hi2 (by simp_all [okTap]; try omega) (fun _ => decide_eq_true (by omega))
      · have h5_6 := of_decide_eq_false h5_6
        refine PW.ex rfl rfl rfl rfl (Ex.move rfl) ?_
        refine PW.skip rfl rfl rfl rfl ?_
        refine PW.skip rfl rfl rfl rfl ?_
        refine PW.skip rfl rfl rfl rfl ?_
        refine PW.skip rfl rfl rfl rfl ?_
        refine PW.skip rfl rfl rfl rfl ?_
        refine PW.skip rfl rfl rfl rfl ?_
        refine PW.skip rfl rfl rfl rfl ?_
        refine PW.skip rfl rfl rfl rfl ?_
        refine PW.skip rfl rfl rfl rfl ?_
        refine PW.ex rfl rfl rfl rfl (by first | exact Ex.pick_yes rfl rfl | exact Ex.pick_no rfl rfl) ?_
        refine PW.ex rfl rfl rfl rfl (by first | exact Ex.pick_yes rfl rfl | exact Ex.pick_no rfl rfl) ?_
        refine PW.ex rfl rfl rfl rfl (Ex.move rfl) ?_
        refine PW.ex rfl rfl rfl rfl (Ex.fieldO 3 Try.underlying82 rfl rfl ti3 rfl) ?_
        refine PW.ex rfl rfl rfl rfl (Ex.load1 ti3 rfl rfl (by first | exact Rd.obj (k := 0) rfl rfl | exact Rd.obj (k := 1) rfl rfl | exact Rd.obj (k := 2) rfl rfl | exact Rd.obj (k := 3) rfl rfl | exact Rd.obj (k := 4) rfl rfl | exact Rd.imm (by assumption) | exact Rd.sl (k := 0) rfl (by assumption) | exact Rd.sl (k := 1) rfl (by assumption) | exact Rd.sl (k := 2) rfl (by assumption) | exact Rd.sl (k := 3) rfl (by assumption))) ?_
        refine PW.ex rfl rfl rfl rfl (Ex.lss rfl rfl rfl) ?_
        refine PW.splitB (fun h5_22 => ?_) (fun h5_22 => ?_)
        · have h5_22 := of_decide_eq_true h5_22
          refine PW.ex rfl rfl rfl rfl (by first | exact Ex.pick_yes rfl rfl | exact Ex.pick_no rfl rfl) ?_
          refine PW.ex rfl rfl rfl rfl (Ex.move rfl) ?_
          refine PW.skip rfl rfl rfl rfl ?_
          refine PW.skip rfl rfl rfl rfl ?_
          refine PW.skip rfl rfl rfl rfl ?_
          refine PW.ex rfl rfl rfl rfl (by first | exact Ex.pick_yes rfl rfl | exact Ex.pick_no rfl rfl) ?_
          refine PW.ex rfl rfl rfl rfl (Ex.move rfl) ?_
          refine PW.skip rfl rfl rfl rfl ?_
          refine PW.skip rfl rfl rfl rfl ?_
          refine PW.skip rfl rfl rfl rfl ?_
          refine PW.ex rfl rfl rfl rfl (by first | exact Ex.pick_yes rfl rfl | exact Ex.pick_no rfl rfl) ?_
          refine PW.ex rfl rfl rfl rfl (Ex.move rfl) ?_
          refine PW.skip rfl rfl rfl rfl ?_
          refine PW.skip rfl rfl rfl rfl ?_
          refine PW.skip rfl rfl rfl rfl ?_
          refine PW.ex rfl rfl rfl rfl (by first | exact Ex.pick_yes rfl rfl | exact Ex.pick_no rfl rfl) ?_
          refine PW.ex rfl rfl rfl rfl (Ex.move rfl) ?_
          refine PW.skip rfl rfl rfl rfl ?_
          refine PW.skip rfl rfl rfl rfl ?_
          refine PW.skip rfl rfl rfl rfl ?_
          refine PW.ex rfl rfl rfl rfl (by first | exact Ex.pick_yes rfl rfl | exact Ex.pick_no rfl rfl) ?_
          refine PW.ex rfl rfl rfl rfl (Ex.move rfl) ?_
          refine PW.skip rfl rfl rfl rfl ?_
          refine PW.skip rfl rfl rfl rfl ?_
          refine PW.skip rfl rfl rfl rfl ?_
          refine PW.ex rfl rfl rfl rfl (by first | exact Ex.pick_yes rfl rfl | exact Ex.pick_no rfl rfl) ?_
          refine PW.nil ?_
          refine LW.nil fun aa ha => hK8 _ _ _ ?_ aa ha
          refine CW.yes rfl ?_
          refine CW.seq fun K16 hK16 => ?_
          refine CW.region [0] rfl ?_
          refine LW.ex rfl rfl rfl rfl (Ex.assign rfl) hS.rd ?_
          refine LW.nil fun aa ha => hK16 _ _ _ ?_ aa ha
          refine CW.ret fun aa ha => ?_
          refine ret_one ha Try.results29 rfl ?_
          rw [he, rises_not _ _ _ _ hi2 (by simp_all [okTap]; try omega)]; exact hS.retS
        · have h5_22 := of_decide_eq_false h5_22
          refine PW.ex rfl rfl rfl rfl (by first | exact Ex.pick_yes rfl rfl | exact Ex.pick_no rfl rfl) ?_
          refine PW.ex rfl rfl rfl rfl (Ex.move rfl) ?_
          refine PW.ex rfl rfl rfl rfl (Ex.fieldO 3 Try.underlying82 rfl rfl ti3 rfl) ?_
          refine PW.ex rfl rfl rfl rfl (Ex.load1 ti3 rfl rfl (by first | exact Rd.obj (k := 0) rfl rfl | exact Rd.obj (k := 1) rfl rfl | exact Rd.obj (k := 2) rfl rfl | exact Rd.obj (k := 3) rfl rfl | exact Rd.obj (k := 4) rfl rfl | exact Rd.imm (by assumption) | exact Rd.sl (k := 0) rfl (by assumption) | exact Rd.sl (k := 1) rfl (by assumption) | exact Rd.sl (k := 2) rfl (by assumption) | exact Rd.sl (k := 3) rfl (by assumption))) ?_
          refine PW.ex rfl rfl rfl rfl (Ex.gtr rfl rfl rfl) ?_
          refine PW.splitB (fun h5_27 => ?_) (fun h5_27 => ?_)
          · have h5_27 := of_decide_eq_true h5_27
            refine PW.ex rfl rfl rfl rfl (by first | exact Ex.pick_yes rfl rfl | exact Ex.pick_no rfl rfl) ?_
            refine PW.ex rfl rfl rfl rfl (Ex.move rfl) ?_
            refine PW.skip rfl rfl rfl rfl ?_
            refine PW.skip rfl rfl rfl rfl ?_
            refine PW.skip rfl rfl rfl rfl ?_
            refine PW.ex rfl rfl rfl rfl (by first | exact Ex.pick_yes rfl rfl | exact Ex.pick_no rfl rfl) ?_
            refine PW.ex rfl rfl rfl rfl (Ex.move rfl) ?_
            refine PW.skip rfl rfl rfl rfl ?_
            refine PW.skip rfl rfl rfl rfl ?_
            refine PW.skip rfl rfl rfl rfl ?_
            refine PW.ex rfl rfl rfl rfl (by first | exact Ex.pick_yes rfl rfl | exact Ex.pick_no rfl rfl) ?_
            refine PW.ex rfl rfl rfl rfl (Ex.move rfl) ?_
            refine PW.skip rfl rfl rfl rfl ?_
            refine PW.skip rfl rfl rfl rfl ?_
            refine PW.skip rfl rfl rfl rfl ?_
            refine PW.ex rfl rfl rfl rfl (by first | exact Ex.pick_yes rfl rfl | exact Ex.pick_no rfl rfl) ?_
            refine PW.ex rfl rfl rfl rfl (Ex.move rfl) ?_
            refine PW.skip rfl rfl rfl rfl ?_
            refine PW.skip rfl rfl rfl rfl ?_
            refine PW.skip rfl rfl rfl rfl ?_
            refine PW.ex rfl rfl rfl rfl (by first | exact Ex.pick_yes rfl rfl | exact Ex.pick_no rfl rfl) ?_
            refine PW.nil ?_
            refine LW.nil fun aa ha => hK8 _ _ _ ?_ aa ha
            refine CW.yes rfl ?_
            refine CW.seq fun K17 hK17 => ?_
            refine CW.region [0] rfl ?_
            refine LW.ex rfl rfl rfl rfl (Ex.assign rfl) hS.rd ?_
            refine LW.nil fun aa ha => hK17 _ _ _ ?_ aa ha
            refine CW.ret fun aa ha => ?_
            refine ret_one ha Try.results29 rfl ?_
            rw [he, rises_not _ _ _ _ hi2 (by simp_all [okTap]; try omega)]; exact hS.retS
          · have h5_27 := of_decide_eq_false h5_27
            refine PW.ex rfl rfl rfl rfl (by first | exact Ex.pick_yes rfl rfl | exact Ex.pick_no rfl rfl) ?_
            refine PW.ex rfl rfl rfl rfl (Ex.move rfl) ?_
            refine PW.ex rfl rfl rfl rfl (Ex.fieldO 1 Try.underlying82 rfl rfl ti3 rfl) ?_
            refine PW.ex rfl rfl rfl rfl (Ex.load1 ti3 rfl rfl (by first | exact Rd.obj (k := 0) rfl rfl | exact Rd.obj (k := 1) rfl rfl | exact Rd.obj (k := 2) rfl rfl | exact Rd.obj (k := 3) rfl rfl | exact Rd.obj (k := 4) rfl rfl | exact Rd.imm (by assumption) | exact Rd.sl (k := 0) rfl (by assumption) | exact Rd.sl (k := 1) rfl (by assumption) | exact Rd.sl (k := 2) rfl (by assumption) | exact Rd.sl (k := 3) rfl (by assumption))) ?_
            refine PW.ex rfl rfl rfl rfl (Ex.lss rfl rfl rfl) ?_
            refine PW.splitB (fun h5_32 => ?_) (fun h5_32 => ?_)
            · have h5_32 := of_decide_eq_true h5_32
              refine PW.ex rfl rfl rfl rfl (by first | exact Ex.pick_yes rfl rfl | exact Ex.pick_no rfl rfl) ?_
              refine PW.ex rfl rfl rfl rfl (Ex.move rfl) ?_
              refine PW.skip rfl rfl rfl rfl ?_
              refine PW.skip rfl rfl rfl rfl ?_
              refine PW.skip rfl rfl rfl rfl ?_
              refine PW.ex rfl rfl rfl rfl (by first | exact Ex.pick_yes rfl rfl | exact Ex.pick_no rfl rfl) ?_
              refine PW.ex rfl rfl rfl rfl (Ex.move rfl) ?_
              refine PW.skip rfl rfl rfl rfl ?_
              refine PW.skip rfl rfl rfl rfl ?_
              refine PW.skip rfl rfl rfl rfl ?_
              refine PW.ex rfl rfl rfl rfl (by first | exact Ex.pick_yes rfl rfl | exact Ex.pick_no rfl rfl) ?_
              refine PW.ex rfl rfl rfl rfl (Ex.move rfl) ?_
              refine PW.skip rfl rfl rfl rfl ?_
              refine PW.skip rfl rfl rfl rfl ?_
              refine PW.skip rfl rfl rfl rfl ?_
              refine PW.ex rfl rfl rfl rfl (by first | exact Ex.pick_yes rfl rfl | exact Ex.pick_no rfl rfl) ?_
              refine PW.nil ?_
              refine LW.nil fun aa ha => hK8 _ _ _ ?_ aa ha
              refine CW.yes rfl ?_
              refine CW.seq fun K18 hK18 => ?_
              refine CW.region [0] rfl ?_
              refine LW.ex rfl rfl rfl rfl (Ex.assign rfl) hS.rd ?_
              refine LW.nil fun aa ha => hK18 _ _ _ ?_ aa ha
              refine CW.ret fun aa ha => ?_
              refine ret_one ha Try.results29 rfl ?_
              rw [he, rises_not _ _ _ _ hi2 (by simp_all [okTap]; try omega)]; exact hS.retS
            · have h5_32 := of_decide_eq_false h5_32
              refine PW.ex rfl rfl rfl rfl (by first | exact Ex.pick_yes rfl rfl | exact Ex.pick_no rfl rfl) ?_
              refine PW.ex rfl rfl rfl rfl (Ex.move rfl) ?_
              refine PW.ex rfl rfl rfl rfl (Ex.fieldO 1 Try.underlying82 rfl rfl ti3 rfl) ?_
              refine PW.ex rfl rfl rfl rfl (Ex.load1 ti3 rfl rfl (by first | exact Rd.obj (k := 0) rfl rfl | exact Rd.obj (k := 1) rfl rfl | exact Rd.obj (k := 2) rfl rfl | exact Rd.obj (k := 3) rfl rfl | exact Rd.obj (k := 4) rfl rfl | exact Rd.imm (by assumption) | exact Rd.sl (k := 0) rfl (by assumption) | exact Rd.sl (k := 1) rfl (by assumption) | exact Rd.sl (k := 2) rfl (by assumption) | exact Rd.sl (k := 3) rfl (by assumption))) ?_
              refine PW.ex rfl rfl rfl rfl (Ex.gtr rfl rfl rfl) ?_
              refine PW.splitB (fun h5_37 => ?_) (fun h5_37 => ?_)
              · have h5_37 := of_decide_eq_true h5_37
                refine PW.ex rfl rfl rfl rfl (by first | exact Ex.pick_yes rfl rfl | exact Ex.pick_no rfl rfl) ?_
                refine PW.ex rfl rfl rfl rfl (Ex.move rfl) ?_
                refine PW.skip rfl rfl rfl rfl ?_
                refine PW.skip rfl rfl rfl rfl ?_
                refine PW.skip rfl rfl rfl rfl ?_
                refine PW.ex rfl rfl rfl rfl (by first | exact Ex.pick_yes rfl rfl | exact Ex.pick_no rfl rfl) ?_
                refine PW.ex rfl rfl rfl rfl (Ex.move rfl) ?_
                refine PW.skip rfl rfl rfl rfl ?_
                refine PW.skip rfl rfl rfl rfl ?_
                refine PW.skip rfl rfl rfl rfl ?_
                refine PW.ex rfl rfl rfl rfl (by first | exact Ex.pick_yes rfl rfl | exact Ex.pick_no rfl rfl) ?_
                refine PW.nil ?_
                refine LW.nil fun aa ha => hK8 _ _ _ ?_ aa ha
                refine CW.yes rfl ?_
                refine CW.seq fun K19 hK19 => ?_
                refine CW.region [0] rfl ?_
                refine LW.ex rfl rfl rfl rfl (Ex.assign rfl) hS.rd ?_
                refine LW.nil fun aa ha => hK19 _ _ _ ?_ aa ha
                refine CW.ret fun aa ha => ?_
                refine ret_one ha Try.results29 rfl ?_
                rw [he, rises_not _ _ _ _ hi2 (by simp_all [okTap]; try omega)]; exact hS.retS
              · have h5_37 := of_decide_eq_false h5_37
                refine PW.ex rfl rfl rfl rfl (by first | exact Ex.pick_yes rfl rfl | exact Ex.pick_no rfl rfl) ?_
                refine PW.ex rfl rfl rfl rfl (Ex.move rfl) ?_
                refine PW.ex rfl rfl rfl rfl (Ex.fieldO 2 Try.underlying82 rfl rfl ti3 rfl) ?_
                refine PW.ex rfl rfl rfl rfl (Ex.load1 ti3 rfl rfl (by first | exact Rd.obj (k := 0) rfl rfl | exact Rd.obj (k := 1) rfl rfl | exact Rd.obj (k := 2) rfl rfl | exact Rd.obj (k := 3) rfl rfl | exact Rd.obj (k := 4) rfl rfl | exact Rd.imm (by assumption) | exact Rd.sl (k := 0) rfl (by assumption) | exact Rd.sl (k := 1) rfl (by assumption) | exact Rd.sl (k := 2) rfl (by assumption) | exact Rd.sl (k := 3) rfl (by assumption))) ?_
                refine PW.ex rfl rfl rfl rfl (Ex.lss rfl rfl rfl) ?_
                refine PW.splitB (fun h5_42 => ?_) (fun h5_42 => ?_)
                · have h5_42 := of_decide_eq_true h5_42
                  refine PW.ex rfl rfl rfl rfl (by first | exact Ex.pick_yes rfl rfl | exact Ex.pick_no rfl rfl) ?_
                  refine PW.ex rfl rfl rfl rfl (Ex.move rfl) ?_
                  refine PW.skip rfl rfl rfl rfl ?_
                  refine PW.skip rfl rfl rfl rfl ?_
                  refine PW.skip rfl rfl rfl rfl ?_
                  refine PW.ex rfl rfl rfl rfl (by first | exact Ex.pick_yes rfl rfl | exact Ex.pick_no rfl rfl) ?_
                  refine PW.nil ?_
                  refine LW.nil fun aa ha => hK8 _ _ _ ?_ aa ha
                  refine CW.yes rfl ?_
                  refine CW.seq fun K20 hK20 => ?_
                  refine CW.region [0] rfl ?_
                  refine LW.ex rfl rfl rfl rfl (Ex.assign rfl) hS.rd ?_
                  refine LW.nil fun aa ha => hK20 _ _ _ ?_ aa ha
                  refine CW.ret fun aa ha => ?_
                  refine ret_one ha Try.results29 rfl ?_
                  rw [he, rises_not _ _ _ _ hi2 (by simp_all [okTap]; try omega)]; exact hS.retS
                · have h5_42 := of_decide_eq_false h5_42
                  refine PW.ex rfl rfl rfl rfl (by first | exact Ex.pick_yes rfl rfl | exact Ex.pick_no rfl rfl) ?_
                  refine PW.ex rfl rfl rfl rfl (Ex.move rfl) ?_
                  refine PW.ex rfl rfl rfl rfl (Ex.fieldO 2 Try.underlying82 rfl rfl ti3 rfl) ?_
                  refine PW.ex rfl rfl rfl rfl (Ex.load1 ti3 rfl rfl (by first | exact Rd.obj (k := 0) rfl rfl | exact Rd.obj (k := 1) rfl rfl | exact Rd.obj (k := 2) rfl rfl | exact Rd.obj (k := 3) rfl rfl | exact Rd.obj (k := 4) rfl rfl | exact Rd.imm (by assumption) | exact Rd.sl (k := 0) rfl (by assumption) | exact Rd.sl (k := 1) rfl (by assumption) | exact Rd.sl (k := 2) rfl (by assumption) | exact Rd.sl (k := 3) rfl (by assumption))) ?_
                  refine PW.ex rfl rfl rfl rfl (Ex.gtr rfl rfl rfl) ?_
                  refine PW.splitB (fun h5_47 => ?_) (fun h5_47 => ?_)
                  · have h5_47 := of_decide_eq_true h5_47
                    refine PW.ex rfl rfl rfl rfl (by first | exact Ex.pick_yes rfl rfl | exact Ex.pick_no rfl rfl) ?_
                    refine PW.nil ?_
                    refine LW.nil fun aa ha => hK8 _ _ _ ?_ aa ha
                    refine CW.yes rfl ?_
                    refine CW.seq fun K21 hK21 => ?_
                    refine CW.region [0] rfl ?_
                    refine LW.ex rfl rfl rfl rfl (Ex.assign rfl) hS.rd ?_
                    refine LW.nil fun aa ha => hK21 _ _ _ ?_ aa ha
                    refine CW.ret fun aa ha => ?_
                    refine ret_one ha Try.results29 rfl ?_
                    rw [he, rises_not _ _ _ _ hi2 (by simp_all [okTap]; try omega)]; exact hS.retS
                  · have h5_47 := of_decide_eq_false h5_47
                    refine PW.ex rfl rfl rfl rfl (by first | exact Ex.pick_yes rfl rfl | exact Ex.pick_no rfl rfl) ?_
                    refine PW.nil ?_
                    refine LW.nil fun aa ha => hK8 _ _ _ ?_ aa ha
                    refine CW.no rfl ?_
                    refine CW.skip fun aa ha => hK6 _ _ _ ?_ aa ha
                    refine CW.region [0, 1, 2] rfl ?_
                    refine LW.ex rfl rfl rfl rfl (Ex.move rfl) hS.rd ?_
                    refine LW.ex rfl rfl rfl rfl (Ex.add rfl rfl (by first | exact inc64 (by omega) | exact addN (by omega) | exact w64 (by omega) (by omega))) hS.rd ?_
                    refine LW.ex rfl rfl rfl rfl (Ex.assign rfl) hS.rd ?_
                    refine LW.nil fun aa ha => ?_
                    have hS := hS.drop 0 rfl
                    dsimp only [List.eraseIdx] at hS
                    refine ⟨_, _, ?m2, ⟨i + 1, (by first | omega | (simp; done) | (simp; omega)), rfl, rfl, hS, ?_⟩, ha.sub ⟨rfl, rfl, trivial⟩⟩
                    case m2 => omega
                    rw [he]; exact rises_step _ _ _ _ hi2 (by simp_all [okTap]; try omega) (fun h => by omega)
    · skip
      refine PW.ex rfl rfl rfl rfl (Ex.not rfl rfl) ?_
      refine PW.ex rfl rfl rfl rfl (Ex.move rfl) ?_
      refine PW.skip rfl rfl rfl rfl ?_
      refine PW.skip rfl rfl rfl rfl ?_
      refine PW.skip rfl rfl rfl rfl ?_
      refine PW.skip rfl rfl rfl rfl ?_
      refine PW.skip rfl rfl rfl rfl ?_
      refine PW.skip rfl rfl rfl rfl ?_
      refine PW.skip rfl rfl rfl rfl ?_
      refine PW.skip rfl rfl rfl rfl ?_
      refine PW.skip rfl rfl rfl rfl ?_
      refine PW.skip rfl rfl rfl rfl ?_
      refine PW.skip rfl rfl rfl rfl ?_
      refine PW.skip rfl rfl rfl rfl ?_
      refine PW.skip rfl rfl rfl rfl ?_
      refine PW.ex rfl rfl rfl rfl (by first | exact Ex.pick_yes rfl rfl | exact Ex.pick_no rfl rfl) ?_
      refine PW.ex rfl rfl rfl rfl (Ex.move rfl) ?_
      refine PW.skip rfl rfl rfl rfl ?_
      refine PW.skip rfl rfl rfl rfl ?_
      refine PW.skip rfl rfl rfl rfl ?_
      refine PW.ex rfl rfl rfl rfl (by first | exact Ex.pick_yes rfl rfl | exact Ex.pick_no rfl rfl) ?_
      refine PW.ex rfl rfl rfl rfl (Ex.move rfl) ?_
      refine PW.skip rfl rfl rfl rfl ?_
      refine PW.skip rfl rfl rfl rfl ?_
      refine PW.skip rfl rfl rfl rfl ?_
      refine PW.ex rfl rfl rfl rfl (by first | exact Ex.pick_yes rfl rfl | exact Ex.pick_no rfl rfl) ?_
      refine PW.ex rfl rfl rfl rfl (Ex.move rfl) ?_
      refine PW.skip rfl rfl rfl rfl ?_
      refine PW.skip rfl rfl rfl rfl ?_
      refine PW.skip rfl rfl rfl rfl ?_
      refine PW.ex rfl rfl rfl rfl (by first | exact Ex.pick_yes rfl rfl | exact Ex.pick_no rfl rfl) ?_
      refine PW.ex rfl rfl rfl rfl (Ex.move rfl) ?_
      refine PW.skip rfl rfl rfl rfl ?_
      refine PW.skip rfl rfl rfl rfl ?_
      refine PW.skip rfl rfl rfl rfl ?_
      refine PW.ex rfl rfl rfl rfl (by first | exact Ex.pick_yes rfl rfl | exact Ex.pick_no rfl rfl) ?_
      refine PW.ex rfl rfl rfl rfl (Ex.move rfl) ?_
      refine PW.skip rfl rfl rfl rfl ?_
      refine PW.skip rfl rfl rfl rfl ?_
      refine PW.skip rfl rfl rfl rfl ?_
      refine PW.ex rfl rfl rfl rfl (by first | exact Ex.pick_yes rfl rfl | exact Ex.pick_no rfl rfl) ?_
      refine PW.ex rfl rfl rfl rfl (Ex.move rfl) ?_
      refine PW.skip rfl rfl rfl rfl ?_
      refine PW.skip rfl rfl rfl rfl ?_
      refine PW.skip rfl rfl rfl rfl ?_
      refine PW.ex rfl rfl rfl rfl (by first | exact Ex.pick_yes rfl rfl | exact Ex.pick_no rfl rfl) ?_
      refine PW.nil ?_
      refine LW.nil fun aa ha => hK8 _ _ _ ?_ aa ha
      refine CW.yes rfl ?_
      refine CW.seq fun K22 hK22 => ?_
      refine CW.region [0] rfl ?_
      refine LW.ex rfl rfl rfl rfl (Ex.assign rfl) hS.rd ?_
      refine LW.nil fun aa ha => hK22 _ _ _ ?_ aa ha
      refine CW.ret fun aa ha => ?_
      refine ret_one ha Try.results29 rfl ?_
      rw [he, rises_not _ _ _ _ hi2 (by simp_all [okTap]; try omega)]; exact hS.retS
  · have h2_3 := of_decide_eq_false h2_3
    refine LW.nil fun aa ha => hK5 _ _ _ ?_ aa ha
    refine CW.no rfl ?_
    refine CW.exit fun aa ha => hK2 _ _ _ ?_ aa ha
    refine CW.seq fun K23 hK23 => ?_
    refine CW.region [0] rfl ?_
    refine LW.ex rfl rfl rfl rfl (Ex.assign rfl) hS.rd ?_
    refine LW.nil fun aa ha => hK23 _ _ _ ?_ aa ha
    refine CW.ret fun aa ha => ?_
    refine ret_one ha Try.results29 rfl ?_
    refine hS.retB ?_
    rw [he, List.drop_of_length_le (by omega)]; cases prevOf l i <;> rfl

def lessCh (x c : Ch) : Bool := decide (x.Cost < c.Cost ∨ (x.Cost = c.Cost ∧ x.Key.toNat < c.Key.toNat))
def few (l : List Ch) : List Ch := l.filter fun c => decide (l.countP (fun x => lessCh x c) < 8)
def IsFew (zs : List Ch) (μ : Mem) (v : Value) : Prop := ∃ ad c, v = .slice ad zs.length c ∧ Sl μ ad c zs
theorem take_filter {α : Type} (p : α → Bool) (l : List α) (i : Nat) (h : i < l.length) : (l.take (i + 1)).filter p = (l.take i).filter p ++ (if p l[i] then [l[i]] else []) := by
  rw [List.take_succ_eq_append_getElem h, List.filter_append]; congr 1
  by_cases hp : p l[i] <;> simp [hp]
theorem take_countP {α : Type} (p : α → Bool) (l : List α) (i : Nat) (h : i < l.length) : (l.take (i + 1)).countP p = (l.take i).countP p + (if p l[i] then 1 else 0) := by
  rw [List.take_succ_eq_append_getElem h, List.countP_append]; congr 1
  by_cases hp : p l[i] <;> simp [hp]
theorem countP_take_le {α : Type} (p : α → Bool) (l : List α) (i : Nat) : (l.take i).countP p ≤ i := Nat.le_trans List.countP_le_length (by simp; omega)
theorem few_c (l : List Ch) (ad : Option Addr) (c : Nat) (μ : Mem) (w : World) (hμ : Imm μ w) (hl : Sl μ ad c l) (hll : l.length ≤ 100000) :
    Calls Try.prog 40 #[.slice ad l.length c] w (RetV w μ (IsFew (few l))) := by
  have hS := St.start w μ hμ
  refine calls_start 69 [.slice ad l.length c] Try.func40 rfl Try.ntmps40 rfl rfl ?_
  refine CW.seq fun K24 hK24 => ?_
  refine CW.region [0] rfl ?_
  refine LW.ex rfl rfl rfl rfl (Ex.assign rfl) hS.rd ?_
  refine LW.nil fun aa ha => hK24 _ _ _ ?_ aa ha
  refine CW.seq fun K25 hK25 => ?_
  refine CW.region [0, 1] rfl ?_
  refine LW.hv rfl rfl rfl rfl (Hv.buildSl hS Try.underlying39 ti67 rfl rfl rfl rfl rfl rfl) fun v w7 ⟨b7, hv, hb7, hS⟩ => ?_
  subst hv
  have hS : St w _ μ [Own.sl (some ⟨b7, 0, none⟩) 0 0 67 2 []] := hS.row_sl (k := 0) rfl 0 2 rfl (by simp [maxLen])
  refine LW.ex rfl rfl rfl rfl (Ex.assign rfl) hS.rd ?_
  refine LW.nil fun aa ha => hK25 _ _ _ ?_ aa ha
  refine CW.seq fun K26 hK26 => ?_
  refine CW.seq fun K27 hK27 => ?_
  refine CW.region [0] rfl ?_
  refine LW.ex rfl rfl rfl rfl (Ex.assign rfl) hS.rd ?_
  refine LW.nil fun aa ha => hK27 _ _ _ ?_ aa ha
  refine CW.block ?_
  refine CW.loop (fun q m wl3 => ∃ (i n : Nat) (xs : List Ch) (ado : Option Addr) (co : Nat), i ≤ l.length ∧ n = xs.length ∧ n ≤ i ∧ q = l.length - i ∧ m = [(0, .slice ad l.length c), (3, .slice ado n co), (4, .int .i64 i)] ∧ St w wl3 μ [Own.sl ado n co 67 2 (xs.flatMap chL)] ∧ (xs = (l.take i).filter fun c => decide (l.countP (fun x => lessCh x c) < 8))) _ ⟨0, 0, [], _, _, (by first | omega | (simp; done) | (simp; omega)), (by first | omega | (simp; done) | (simp; omega)), (by first | omega | (simp; done) | (simp; omega)), rfl, rfl, hS, rfl⟩ ⟨rfl, rfl, rfl, trivial⟩ ?_
  clear hS
  rintro q m wl3 ⟨i, n, xs, ado, co, hi, hn, hni, hq, rfl, hS, hx⟩
  have hcap := hS.sl_cap 0 rfl
  refine CW.seq fun K28 hK28 => ?_
  refine CW.seq fun K29 hK29 => ?_
  refine CW.region [0, 1, 2, 3] rfl ?_
  refine LW.ex rfl rfl rfl rfl (Ex.move rfl) hS.rd ?_
  refine LW.ex rfl rfl rfl rfl (Ex.move rfl) hS.rd ?_
  refine LW.ex rfl rfl rfl rfl (Ex.lenSl rfl Try.underlying38 rfl) hS.rd ?_
  refine LW.ex rfl rfl rfl rfl (Ex.lss rfl rfl rfl) hS.rd ?_
  refine LW.splitB (fun h3_3 => ?_) (fun h3_3 => ?_)
  · have h3_3 := of_decide_eq_true h3_3
    refine LW.nil fun aa ha => hK29 _ _ _ ?_ aa ha
    refine CW.yes rfl ?_
    refine CW.skip fun aa ha => hK28 _ _ _ ?_ aa ha
    refine CW.seq fun K30 hK30 => ?_
    refine CW.block ?_
    refine CW.seq fun K31 hK31 => ?_
    have h1 : i < l.length := by omega
    obtain ⟨bl, ol, rfl, k0, k1⟩ := hl.at h1
    refine CW.region [0] rfl ?_
    refine LW.ex rfl rfl rfl rfl (Ex.assign rfl) hS.rd ?_
    refine LW.nil fun aa ha => hK31 _ _ _ ?_ aa ha
    refine CW.seq fun K32 hK32 => ?_
    refine CW.seq fun K33 hK33 => ?_
    refine CW.region [0] rfl ?_
    refine LW.ex rfl rfl rfl rfl (Ex.assign rfl) hS.rd ?_
    refine LW.nil fun aa ha => hK33 _ _ _ ?_ aa ha
    refine CW.block ?_
    refine CW.loop (fun q m wl7 => ∃ (k b : Nat), k ≤ l.length ∧ b ≤ k ∧ q = l.length - k ∧ m = [(0, .slice (some ⟨bl, ol, none⟩) l.length c), (3, .slice ado n co), (4, .int .i64 i), (5, .int .i64 b), (6, .int .i64 k)] ∧ St w wl7 μ [Own.sl ado n co 67 2 (xs.flatMap chL)] ∧ (b = (l.take k).countP (fun x => lessCh x l[i]))) _ ⟨0, 0, (by first | omega | (simp; done) | (simp; omega)), (by first | omega | (simp; done) | (simp; omega)), rfl, rfl, hS, rfl⟩ ⟨rfl, rfl, rfl, rfl, rfl, trivial⟩ ?_
    clear hS
    rintro q m wl7 ⟨k, b, hk, hbk, hq, rfl, hS, hb⟩
    refine CW.seq fun K34 hK34 => ?_
    refine CW.seq fun K35 hK35 => ?_
    refine CW.region [0, 1, 2, 3] rfl ?_
    refine LW.ex rfl rfl rfl rfl (Ex.move rfl) hS.rd ?_
    refine LW.ex rfl rfl rfl rfl (Ex.move rfl) hS.rd ?_
    refine LW.ex rfl rfl rfl rfl (Ex.lenSl rfl Try.underlying38 rfl) hS.rd ?_
    refine LW.ex rfl rfl rfl rfl (Ex.lss rfl rfl rfl) hS.rd ?_
    refine LW.splitB (fun h7_3 => ?_) (fun h7_3 => ?_)
    · have h7_3 := of_decide_eq_true h7_3
      refine LW.nil fun aa ha => hK35 _ _ _ ?_ aa ha
      refine CW.yes rfl ?_
      refine CW.skip fun aa ha => hK34 _ _ _ ?_ aa ha
      refine CW.seq fun K36 hK36 => ?_
      refine CW.block ?_
      refine CW.seq fun K37 hK37 => ?_
      have h2 : k < l.length := by omega
      obtain ⟨bl', ol', e', j0, j1⟩ := hl.at h2
      cases e'
      have hst := take_countP (fun x => lessCh x l[i]) l k h2
      have hS := hS.drew
      refine CW.draw 37 (.ex 0 <| .ex 1 <| .ex 2 <| .ex 3 <| .ex 4 <| .ex 5 <| .ex 6 <| .ex 7 <| .ex 8 <| .ex 9 <| .ex 10 <| .ex 11 <| .ex 12 <| .ex 13 <| .ex 14 <| .ex 15 <| .ex 16 <| .ex 17 <| .ex 18 <| .ex 19 <| .ex 20 <| .ex 21 <| .ex 22 <| .ex 23 <| .ex 24 <| .ex 25 <| .ex 26 <| .ex 27 <| .ex 28 <| .ex 29 <| .ex 30 <| .ex 31 <| .ex 32 <| .ex 33 <| .ex 34 <| .ex 35 <| .ex 36 <| .done) [] (Rd _ _) mixed (by kernel_rfl) rfl rfl hS.rd ?_
      refine PW.ex rfl rfl rfl rfl (Ex.move rfl) ?_
      refine PW.ex rfl rfl rfl rfl (Ex.move rfl) ?_
      refine PW.ex rfl rfl rfl rfl (Ex.indexSl Try.underlying38 ti67 rfl rfl rfl (by omega)) ?_
      refine PW.ex rfl rfl rfl rfl (Ex.fieldO 1 Try.underlying67 rfl rfl ti3 rfl) ?_
      refine PW.ex rfl rfl rfl rfl (Ex.load1 ti3 rfl rfl (by first | exact Rd.obj (k := 0) rfl rfl | exact Rd.obj (k := 1) rfl rfl | exact Rd.obj (k := 2) rfl rfl | exact Rd.obj (k := 3) rfl rfl | exact Rd.obj (k := 4) rfl rfl | exact Rd.imm (by assumption) | exact Rd.sl (k := 0) rfl (by assumption) | exact Rd.sl (k := 1) rfl (by assumption) | exact Rd.sl (k := 2) rfl (by assumption) | exact Rd.sl (k := 3) rfl (by assumption))) ?_
      refine PW.ex rfl rfl rfl rfl (Ex.move rfl) ?_
      refine PW.ex rfl rfl rfl rfl (Ex.move rfl) ?_
      refine PW.ex rfl rfl rfl rfl (Ex.indexSl Try.underlying38 ti67 rfl rfl rfl (by omega)) ?_
      refine PW.ex rfl rfl rfl rfl (Ex.fieldO 1 Try.underlying67 rfl rfl ti3 rfl) ?_
      refine PW.ex rfl rfl rfl rfl (Ex.load1 ti3 rfl rfl (by first | exact Rd.obj (k := 0) rfl rfl | exact Rd.obj (k := 1) rfl rfl | exact Rd.obj (k := 2) rfl rfl | exact Rd.obj (k := 3) rfl rfl | exact Rd.obj (k := 4) rfl rfl | exact Rd.imm (by assumption) | exact Rd.sl (k := 0) rfl (by assumption) | exact Rd.sl (k := 1) rfl (by assumption) | exact Rd.sl (k := 2) rfl (by assumption) | exact Rd.sl (k := 3) rfl (by assumption))) ?_
      refine PW.ex rfl rfl rfl rfl (Ex.lss rfl rfl rfl) ?_
      refine PW.splitB (fun h9_10 => ?_) (fun h9_10 => ?_)
      · have h9_10 := of_decide_eq_true h9_10
        refine PW.ex rfl rfl rfl rfl (Ex.move rfl) ?_
        refine PW.skip rfl rfl rfl rfl ?_
        refine PW.skip rfl rfl rfl rfl ?_
        refine PW.skip rfl rfl rfl rfl ?_
        refine PW.skip rfl rfl rfl rfl ?_
        refine PW.skip rfl rfl rfl rfl ?_
        refine PW.skip rfl rfl rfl rfl ?_
        refine PW.skip rfl rfl rfl rfl ?_
        refine PW.skip rfl rfl rfl rfl ?_
        refine PW.skip rfl rfl rfl rfl ?_
        refine PW.skip rfl rfl rfl rfl ?_
        refine PW.skip rfl rfl rfl rfl ?_
        refine PW.skip rfl rfl rfl rfl ?_
        refine PW.skip rfl rfl rfl rfl ?_
        refine PW.skip rfl rfl rfl rfl ?_
        refine PW.skip rfl rfl rfl rfl ?_
        refine PW.skip rfl rfl rfl rfl ?_
        refine PW.skip rfl rfl rfl rfl ?_
        refine PW.skip rfl rfl rfl rfl ?_
        refine PW.skip rfl rfl rfl rfl ?_
        refine PW.skip rfl rfl rfl rfl ?_
        refine PW.skip rfl rfl rfl rfl ?_
        refine PW.skip rfl rfl rfl rfl ?_
        refine PW.skip rfl rfl rfl rfl ?_
        refine PW.skip rfl rfl rfl rfl ?_
        refine PW.ex rfl rfl rfl rfl (by first | exact Ex.pick_yes rfl rfl | exact Ex.pick_no rfl rfl) ?_
        refine PW.nil ?_
        refine LW.nil fun aa ha => hK37 _ _ _ ?_ aa ha
        refine CW.yes rfl ?_
        refine CW.region [0, 1, 2] rfl ?_
        refine LW.ex rfl rfl rfl rfl (Ex.move rfl) hS.rd ?_
        refine LW.ex rfl rfl rfl rfl (Ex.add rfl rfl (by first | exact inc64 (by omega) | exact addN (by omega) | exact w64 (by omega) (by omega))) hS.rd ?_
        refine LW.ex rfl rfl rfl rfl (Ex.assign rfl) hS.rd ?_
        refine LW.nil fun aa ha => hK36 _ _ _ ?_ aa ha
        refine CW.region [0, 1, 2] rfl ?_
        refine LW.ex rfl rfl rfl rfl (Ex.move rfl) hS.rd ?_
        refine LW.ex rfl rfl rfl rfl (Ex.add rfl rfl (by first | exact inc64 (by omega) | exact addN (by omega) | exact w64 (by omega) (by omega))) hS.rd ?_
        refine LW.ex rfl rfl rfl rfl (Ex.assign rfl) hS.rd ?_
        refine LW.nil fun aa ha => ?_
        refine ⟨_, _, ?m7, ⟨k + 1, b + 1, (by first | omega | (simp; done) | (simp; omega)), (by first | omega | (simp; done) | (simp; omega)), rfl, rfl, hS, ?_⟩, ha.sub ⟨rfl, rfl, rfl, rfl, rfl, trivial⟩⟩
        case m7 => omega
        rw [hst, ← hb, show lessCh l[k] l[i] = true from decide_eq_true (by omega)]; rfl
      · have h9_10 := of_decide_eq_false h9_10
        refine PW.ex rfl rfl rfl rfl (Ex.move rfl) ?_
        refine PW.ex rfl rfl rfl rfl (Ex.move rfl) ?_
        refine PW.ex rfl rfl rfl rfl (Ex.move rfl) ?_
        refine PW.ex rfl rfl rfl rfl (Ex.indexSl Try.underlying38 ti67 rfl rfl rfl (by omega)) ?_
        refine PW.ex rfl rfl rfl rfl (Ex.fieldO 1 Try.underlying67 rfl rfl ti3 rfl) ?_
        refine PW.ex rfl rfl rfl rfl (Ex.load1 ti3 rfl rfl (by first | exact Rd.obj (k := 0) rfl rfl | exact Rd.obj (k := 1) rfl rfl | exact Rd.obj (k := 2) rfl rfl | exact Rd.obj (k := 3) rfl rfl | exact Rd.obj (k := 4) rfl rfl | exact Rd.imm (by assumption) | exact Rd.sl (k := 0) rfl (by assumption) | exact Rd.sl (k := 1) rfl (by assumption) | exact Rd.sl (k := 2) rfl (by assumption) | exact Rd.sl (k := 3) rfl (by assumption))) ?_
        refine PW.ex rfl rfl rfl rfl (Ex.move rfl) ?_
        refine PW.ex rfl rfl rfl rfl (Ex.move rfl) ?_
        refine PW.ex rfl rfl rfl rfl (Ex.indexSl Try.underlying38 ti67 rfl rfl rfl (by omega)) ?_
        refine PW.ex rfl rfl rfl rfl (Ex.fieldO 1 Try.underlying67 rfl rfl ti3 rfl) ?_
        refine PW.ex rfl rfl rfl rfl (Ex.load1 ti3 rfl rfl (by first | exact Rd.obj (k := 0) rfl rfl | exact Rd.obj (k := 1) rfl rfl | exact Rd.obj (k := 2) rfl rfl | exact Rd.obj (k := 3) rfl rfl | exact Rd.obj (k := 4) rfl rfl | exact Rd.imm (by assumption) | exact Rd.sl (k := 0) rfl (by assumption) | exact Rd.sl (k := 1) rfl (by assumption) | exact Rd.sl (k := 2) rfl (by assumption) | exact Rd.sl (k := 3) rfl (by assumption))) ?_
        refine PW.ex rfl rfl rfl rfl (Ex.eql rfl rfl rfl) ?_
        refine PW.splitB (fun h9_22 => ?_) (fun h9_22 => ?_)
        · have h9_22 := of_decide_eq_true h9_22
          refine PW.ex rfl rfl rfl rfl (Ex.move rfl) ?_
          refine PW.ex rfl rfl rfl rfl (Ex.move rfl) ?_
          refine PW.ex rfl rfl rfl rfl (Ex.move rfl) ?_
          refine PW.ex rfl rfl rfl rfl (Ex.indexSl Try.underlying38 ti67 rfl rfl rfl (by omega)) ?_
          refine PW.ex rfl rfl rfl rfl (Ex.fieldO 0 Try.underlying67 rfl rfl ti5 rfl) ?_
          refine PW.ex rfl rfl rfl rfl (Ex.load1 ti5 rfl rfl (by first | exact Rd.obj (k := 0) rfl rfl | exact Rd.obj (k := 1) rfl rfl | exact Rd.obj (k := 2) rfl rfl | exact Rd.obj (k := 3) rfl rfl | exact Rd.obj (k := 4) rfl rfl | exact Rd.imm (by assumption) | exact Rd.sl (k := 0) rfl (by assumption) | exact Rd.sl (k := 1) rfl (by assumption) | exact Rd.sl (k := 2) rfl (by assumption) | exact Rd.sl (k := 3) rfl (by assumption))) ?_
          refine PW.ex rfl rfl rfl rfl (Ex.move rfl) ?_
          refine PW.ex rfl rfl rfl rfl (Ex.move rfl) ?_
          refine PW.ex rfl rfl rfl rfl (Ex.indexSl Try.underlying38 ti67 rfl rfl rfl (by omega)) ?_
          refine PW.ex rfl rfl rfl rfl (Ex.fieldO 0 Try.underlying67 rfl rfl ti5 rfl) ?_
          refine PW.ex rfl rfl rfl rfl (Ex.load1 ti5 rfl rfl (by first | exact Rd.obj (k := 0) rfl rfl | exact Rd.obj (k := 1) rfl rfl | exact Rd.obj (k := 2) rfl rfl | exact Rd.obj (k := 3) rfl rfl | exact Rd.obj (k := 4) rfl rfl | exact Rd.imm (by assumption) | exact Rd.sl (k := 0) rfl (by assumption) | exact Rd.sl (k := 1) rfl (by assumption) | exact Rd.sl (k := 2) rfl (by assumption) | exact Rd.sl (k := 3) rfl (by assumption))) ?_
          refine PW.ex rfl rfl rfl rfl (Ex.lss rfl rfl rfl) ?_
          refine PW.splitB (fun h9_34 => ?_) (fun h9_34 => ?_)
          · have h9_34 := of_decide_eq_true h9_34
            refine PW.ex rfl rfl rfl rfl (by first | exact Ex.pick_yes rfl rfl | exact Ex.pick_no rfl rfl) ?_
            refine PW.ex rfl rfl rfl rfl (by first | exact Ex.pick_yes rfl rfl | exact Ex.pick_no rfl rfl) ?_
            refine PW.nil ?_
            refine LW.nil fun aa ha => hK37 _ _ _ ?_ aa ha
            refine CW.yes rfl ?_
            refine CW.region [0, 1, 2] rfl ?_
            refine LW.ex rfl rfl rfl rfl (Ex.move rfl) hS.rd ?_
            refine LW.ex rfl rfl rfl rfl (Ex.add rfl rfl (by first | exact inc64 (by omega) | exact addN (by omega) | exact w64 (by omega) (by omega))) hS.rd ?_
            refine LW.ex rfl rfl rfl rfl (Ex.assign rfl) hS.rd ?_
            refine LW.nil fun aa ha => hK36 _ _ _ ?_ aa ha
            refine CW.region [0, 1, 2] rfl ?_
            refine LW.ex rfl rfl rfl rfl (Ex.move rfl) hS.rd ?_
            refine LW.ex rfl rfl rfl rfl (Ex.add rfl rfl (by first | exact inc64 (by omega) | exact addN (by omega) | exact w64 (by omega) (by omega))) hS.rd ?_
            refine LW.ex rfl rfl rfl rfl (Ex.assign rfl) hS.rd ?_
            refine LW.nil fun aa ha => ?_
            refine ⟨_, _, ?m7, ⟨k + 1, b + 1, (by first | omega | (simp; done) | (simp; omega)), (by first | omega | (simp; done) | (simp; omega)), rfl, rfl, hS, ?_⟩, ha.sub ⟨rfl, rfl, rfl, rfl, rfl, trivial⟩⟩
            case m7 => omega
            rw [hst, ← hb, show lessCh l[k] l[i] = true from decide_eq_true (by omega)]; rfl
          · have h9_34 := of_decide_eq_false h9_34
            refine PW.ex rfl rfl rfl rfl (by first | exact Ex.pick_yes rfl rfl | exact Ex.pick_no rfl rfl) ?_
            refine PW.ex rfl rfl rfl rfl (by first | exact Ex.pick_yes rfl rfl | exact Ex.pick_no rfl rfl) ?_
            refine PW.nil ?_
            refine LW.nil fun aa ha => hK37 _ _ _ ?_ aa ha
            refine CW.no rfl ?_
            refine CW.skip fun aa ha => hK36 _ _ _ ?_ aa ha
            refine CW.region [0, 1, 2] rfl ?_
            refine LW.ex rfl rfl rfl rfl (Ex.move rfl) hS.rd ?_
            refine LW.ex rfl rfl rfl rfl (Ex.add rfl rfl (by first | exact inc64 (by omega) | exact addN (by omega) | exact w64 (by omega) (by omega))) hS.rd ?_
            refine LW.ex rfl rfl rfl rfl (Ex.assign rfl) hS.rd ?_
            refine LW.nil fun aa ha => ?_
            refine ⟨_, _, ?m7, ⟨k + 1, b, (by first | omega | (simp; done) | (simp; omega)), (by first | omega | (simp; done) | (simp; omega)), rfl, rfl, hS, ?_⟩, ha.sub ⟨rfl, rfl, rfl, rfl, rfl, trivial⟩⟩
            case m7 => omega
            rw [hst, ← hb, show lessCh l[k] l[i] = false from decide_eq_false (by omega)]; rfl
        · have h9_22 := of_decide_eq_false h9_22
          refine PW.ex rfl rfl rfl rfl (Ex.move rfl) ?_
          refine PW.skip rfl rfl rfl rfl ?_
          refine PW.skip rfl rfl rfl rfl ?_
          refine PW.skip rfl rfl rfl rfl ?_
          refine PW.skip rfl rfl rfl rfl ?_
          refine PW.skip rfl rfl rfl rfl ?_
          refine PW.skip rfl rfl rfl rfl ?_
          refine PW.skip rfl rfl rfl rfl ?_
          refine PW.skip rfl rfl rfl rfl ?_
          refine PW.skip rfl rfl rfl rfl ?_
          refine PW.skip rfl rfl rfl rfl ?_
          refine PW.skip rfl rfl rfl rfl ?_
          refine PW.ex rfl rfl rfl rfl (by first | exact Ex.pick_yes rfl rfl | exact Ex.pick_no rfl rfl) ?_
          refine PW.ex rfl rfl rfl rfl (by first | exact Ex.pick_yes rfl rfl | exact Ex.pick_no rfl rfl) ?_
          refine PW.nil ?_
          refine LW.nil fun aa ha => hK37 _ _ _ ?_ aa ha
          refine CW.no rfl ?_
          refine CW.skip fun aa ha => hK36 _ _ _ ?_ aa ha
          refine CW.region [0, 1, 2] rfl ?_
          refine LW.ex rfl rfl rfl rfl (Ex.move rfl) hS.rd ?_
          refine LW.ex rfl rfl rfl rfl (Ex.add rfl rfl (by first | exact inc64 (by omega) | exact addN (by omega) | exact w64 (by omega) (by omega))) hS.rd ?_
          refine LW.ex rfl rfl rfl rfl (Ex.assign rfl) hS.rd ?_
          refine LW.nil fun aa ha => ?_
          refine ⟨_, _, ?m7, ⟨k + 1, b, (by first | omega | (simp; done) | (simp; omega)), (by first | omega | (simp; done) | (simp; omega)), rfl, rfl, hS, ?_⟩, ha.sub ⟨rfl, rfl, rfl, rfl, rfl, trivial⟩⟩
          case m7 => omega
          rw [hst, ← hb, show lessCh l[k] l[i] = false from decide_eq_false (by omega)]; rfl
    · have h7_3 := of_decide_eq_false h7_3
      refine LW.nil fun aa ha => hK35 _ _ _ ?_ aa ha
      refine CW.no rfl ?_
      refine CW.exit fun aa ha => hK32 _ _ _ ?_ aa ha
      refine CW.seq fun K38 hK38 => ?_
      have hbe : b = l.countP (fun x => lessCh x l[i]) := by rw [hb, List.take_of_length_le (by omega)]
      have hfs := take_filter (fun c => decide (l.countP (fun x => lessCh x c) < 8)) l i h1
      refine CW.region [0, 1] rfl ?_
      refine LW.ex rfl rfl rfl rfl (Ex.move rfl) hS.rd ?_
      refine LW.ex rfl rfl rfl rfl (Ex.lss rfl rfl rfl) hS.rd ?_
      refine LW.splitB (fun h11_1 => ?_) (fun h11_1 => ?_)
      · have h11_1 := of_decide_eq_true h11_1
        refine LW.nil fun aa ha => hK38 _ _ _ ?_ aa ha
        refine CW.yes rfl ?_
        refine CW.region [0, 1, 2, 3, 4, 5, 6, 7] rfl ?_
        refine LW.ex rfl rfl rfl rfl (Ex.move rfl) hS.rd ?_
        refine LW.ex rfl rfl rfl rfl (Ex.move rfl) hS.rd ?_
        refine LW.ex rfl rfl rfl rfl (Ex.move rfl) hS.rd ?_
        refine LW.ex rfl rfl rfl rfl (Ex.indexSl Try.underlying38 ti67 rfl rfl rfl (by omega)) hS.rd ?_
        refine LW.ex rfl rfl rfl rfl (Ex.load2c ti67 rfl rfl (by first | exact Rd.obj (k := 0) rfl rfl | exact Rd.obj (k := 1) rfl rfl | exact Rd.obj (k := 2) rfl rfl | exact Rd.obj (k := 3) rfl rfl | exact Rd.obj (k := 4) rfl rfl | exact Rd.imm (by assumption) | exact Rd.sl (k := 0) rfl (by assumption) | exact Rd.sl (k := 1) rfl (by assumption) | exact Rd.sl (k := 2) rfl (by assumption) | exact Rd.sl (k := 3) rfl (by assumption)) (by first | exact Rd.obj (k := 0) rfl rfl | exact Rd.obj (k := 1) rfl rfl | exact Rd.obj (k := 2) rfl rfl | exact Rd.obj (k := 3) rfl rfl | exact Rd.obj (k := 4) rfl rfl | exact Rd.imm (by assumption) | exact Rd.sl (k := 0) rfl (by assumption) | exact Rd.sl (k := 1) rfl (by assumption) | exact Rd.sl (k := 2) rfl (by assumption) | exact Rd.sl (k := 3) rfl (by assumption))) hS.rd ?_
        refine LW.hv rfl rfl rfl rfl (Hv.buildSl hS Try.underlying39 ti67 rfl rfl rfl rfl rfl rfl) fun v w66 ⟨b66, hv, hb66, hS⟩ => ?_
        subst hv
        refine LW.hv rfl rfl rfl rfl (Hv.append (k := 1) rfl Try.underlying39 ti67 rfl hS rfl rfl rfl rfl (Rd.objAll (k := 0) rfl hS.rd) (by simp [Value.oneCell']) (by unfold maxLen; omega) (by omega)) fun v w67 ⟨ad67, c67, hv, hS⟩ => ?_
        subst hv
        dsimp only [List.set] at hS
        have hS := hS.drop 0 rfl
        dsimp only [List.eraseIdx] at hS
        refine LW.ex rfl rfl rfl rfl (Ex.assign rfl) hS.rd ?_
        refine LW.nil fun aa ha => hK30 _ _ _ ?_ aa ha
        refine CW.region [0, 1, 2] rfl ?_
        refine LW.ex rfl rfl rfl rfl (Ex.move rfl) hS.rd ?_
        refine LW.ex rfl rfl rfl rfl (Ex.add rfl rfl (by first | exact inc64 (by omega) | exact addN (by omega) | exact w64 (by omega) (by omega))) hS.rd ?_
        refine LW.ex rfl rfl rfl rfl (Ex.assign rfl) hS.rd ?_
        refine LW.nil fun aa ha => ?_
        have hS : St w w67 μ [Own.sl ad67 (n + 1) c67 67 2 ((xs ++ [l[i]]).flatMap chL)] := by rw [List.flatMap_append]; exact hS
        refine ⟨_, _, ?m3, ⟨i + 1, n + 1, xs ++ [l[i]], _, _, (by first | omega | (simp; done) | (simp; omega)), (by first | omega | (simp; done) | (simp; omega)), (by first | omega | (simp; done) | (simp; omega)), rfl, rfl, hS, ?_⟩, ha.sub ⟨rfl, rfl, rfl, trivial⟩⟩
        case m3 => omega
        rw [hfs, ← hx, if_pos (by simp only [decide_eq_true_eq]; omega)]
      · have h11_1 := of_decide_eq_false h11_1
        refine LW.nil fun aa ha => hK38 _ _ _ ?_ aa ha
        refine CW.no rfl ?_
        refine CW.skip fun aa ha => hK30 _ _ _ ?_ aa ha
        refine CW.region [0, 1, 2] rfl ?_
        refine LW.ex rfl rfl rfl rfl (Ex.move rfl) hS.rd ?_
        refine LW.ex rfl rfl rfl rfl (Ex.add rfl rfl (by first | exact inc64 (by omega) | exact addN (by omega) | exact w64 (by omega) (by omega))) hS.rd ?_
        refine LW.ex rfl rfl rfl rfl (Ex.assign rfl) hS.rd ?_
        refine LW.nil fun aa ha => ?_
        refine ⟨_, _, ?m3, ⟨i + 1, n, xs, _, _, (by first | omega | (simp; done) | (simp; omega)), (by first | omega | (simp; done) | (simp; omega)), (by first | omega | (simp; done) | (simp; omega)), rfl, rfl, hS, ?_⟩, ha.sub ⟨rfl, rfl, rfl, trivial⟩⟩
        case m3 => omega
        rw [hfs, ← hx, if_neg (by simp only [decide_eq_true_eq]; omega), List.append_nil]
  · have h3_3 := of_decide_eq_false h3_3
    refine LW.nil fun aa ha => hK29 _ _ _ ?_ aa ha
    refine CW.no rfl ?_
    refine CW.exit fun aa ha => hK26 _ _ _ ?_ aa ha
    refine CW.seq fun K39 hK39 => ?_
    refine CW.region [0, 1] rfl ?_
    refine LW.ex rfl rfl rfl rfl (Ex.move rfl) hS.rd ?_
    refine LW.ex rfl rfl rfl rfl (Ex.assign rfl) hS.rd ?_
    refine LW.nil fun aa ha => hK39 _ _ _ ?_ aa ha
    refine CW.ret fun aa ha => ?_
    obtain ⟨bs, μ', hmm, hS, hφ⟩ := hS.shut 0 rfl
    have hxe : xs = few l := by rw [hx, List.take_of_length_le (by omega)]; rfl
    refine ret_one ha Try.results40 rfl ?_
    refine ⟨_, μ', rfl, hS.below, hmm, hS.imm, ado, co, ?_, ?_⟩
    · rw [← hxe, ← hn]
    · rw [← hxe]; exact Sl.of_own hφ (chReps _ _) hn

def IsRTouch (l : List Area) (taps : List Tap) (p : Pt) (μ : Mem) (v : Value) : Prop := ∃ zs ad c e, v = .tuple #[.slice ad (zs : List Ch).length c, .int .i64 e] ∧ Sl μ ad c zs ∧
  (if inP p = false then e = 1 ∧ zs = [] else if meant l taps p = [] then e = 210 ∧ zs = [] else e = 0 ∧ zs = few (meant l taps p))
theorem meant_step (l : List Area) (taps : List Tap) (p : Pt) (i : Nat) (h1 : i < l.length) : meant (l.take (i + 1)) taps p = meant (l.take i) taps p ++ (if costOf l[i] taps p ≤ 1000 then [⟨l[i].Key, costOf l[i] taps p⟩] else []) := by
  unfold meant; rw [List.take_succ_eq_append_getElem h1, List.filterMap_append]; congr 1
  by_cases h : costOf l[i] taps p ≤ 1000 <;> simp [mayMean, h]
set_option maxRecDepth 100000 in
theorem reftouch_c (l : List Area) (taps : List Tap) (p : Pt) (v1 v2 : Value) (ada adt : Option Addr) (ca ct : Nat) (μ : Mem) (w : World) (hμ : Imm μ w) (hl : Sl μ ada ca l) (ht : Sl μ adt ct taps) (hB : ∀ a ∈ l, ArB a) (hT : ∀ t ∈ taps, TapB t) (hll : l.length ≤ 1000) :
    Calls Try.prog 16 #[.agg #[.slice ada l.length ca, v1, v2], .slice adt taps.length ct, ptV p] w (RetV w μ (IsRTouch l taps p)) := by
  have hS := St.start w μ hμ
  refine calls_start 48 [.agg #[.slice ada l.length ca, v1, v2], .slice adt taps.length ct, ptV p] Try.func16 rfl Try.ntmps16 rfl rfl ?_
  refine CW.seq fun K40 hK40 => ?_
  refine CW.region [0, 1, 2, 3] rfl ?_
  refine LW.hv rfl rfl rfl rfl (Hv.boxS hS rfl rfl) fun v w3 ⟨b3, hv, hb3, hS⟩ => ?_
  subst hv
  refine LW.hv rfl rfl rfl rfl (Hv.boxS hS rfl rfl) fun v w5 ⟨b5, hv, hb5, hS⟩ => ?_
  subst hv
  refine LW.ex rfl rfl rfl rfl (Ex.assign rfl) hS.rd ?_
  refine LW.ex rfl rfl rfl rfl (Ex.assign rfl) hS.rd ?_
  refine LW.nil fun aa ha => hK40 _ _ _ ?_ aa ha
  refine CW.seq fun K41 hK41 => ?_
  refine CW.seq fun K42 hK42 => ?_
  refine CW.region [0, 1, 2] rfl ?_
  refine LW.ex rfl rfl rfl rfl (Ex.load2c ti36 rfl rfl (by first | exact Rd.obj (k := 0) rfl rfl | exact Rd.obj (k := 1) rfl rfl | exact Rd.obj (k := 2) rfl rfl | exact Rd.obj (k := 3) rfl rfl | exact Rd.obj (k := 4) rfl rfl | exact Rd.imm (by assumption) | exact Rd.sl (k := 0) rfl (by assumption) | exact Rd.sl (k := 1) rfl (by assumption) | exact Rd.sl (k := 2) rfl (by assumption) | exact Rd.sl (k := 3) rfl (by assumption)) (by first | exact Rd.obj (k := 0) rfl rfl | exact Rd.obj (k := 1) rfl rfl | exact Rd.obj (k := 2) rfl rfl | exact Rd.obj (k := 3) rfl rfl | exact Rd.obj (k := 4) rfl rfl | exact Rd.imm (by assumption) | exact Rd.sl (k := 0) rfl (by assumption) | exact Rd.sl (k := 1) rfl (by assumption) | exact Rd.sl (k := 2) rfl (by assumption) | exact Rd.sl (k := 3) rfl (by assumption))) hS.rd ?_
  refine LW.hv rfl rfl rfl rfl (Hv.callS hS rfl rfl rfl cb39 (refinside_c p _)) fun v w12 ⟨hv, hS⟩ => ?_
  subst hv
  refine LW.splitB (fun h1_1 => ?_) (fun h1_1 => ?_)
  · skip
    refine LW.ex rfl rfl rfl rfl (Ex.not rfl rfl) hS.rd ?_
    refine LW.nil fun aa ha => hK42 _ _ _ ?_ aa ha
    refine CW.no rfl ?_
    refine CW.skip fun aa ha => hK41 _ _ _ ?_ aa ha
    refine CW.seq fun K43 hK43 => ?_
    have hpb : 0 ≤ p.X ∧ p.X ≤ 1000 ∧ 0 ≤ p.Y ∧ p.Y ≤ 1000 := by simp only [inP, Bool.and_eq_true, decide_eq_true_eq] at h1_1; omega
    refine CW.region [0, 1] rfl ?_
    refine LW.hv rfl rfl rfl rfl (Hv.buildSl hS Try.underlying38 ti67 rfl rfl rfl rfl rfl rfl) fun v w14 ⟨b14, hv, hb14, hS⟩ => ?_
    subst hv
    have hS : St w _ μ [Own.sl (some ⟨b14, 0, none⟩) 0 0 67 2 [], Own.obj b5 [.int .i64 p.X, .int .i64 p.Y] 36, Own.obj b3 [.slice ada l.length ca, v1, v2] 31] := hS.row_sl (k := 0) rfl 0 2 rfl (by simp [maxLen])
    refine LW.ex rfl rfl rfl rfl (Ex.assign rfl) hS.rd ?_
    refine LW.nil fun aa ha => hK43 _ _ _ ?_ aa ha
    refine CW.seq fun K44 hK44 => ?_
    refine CW.seq fun K45 hK45 => ?_
    refine CW.region [0] rfl ?_
    refine LW.ex rfl rfl rfl rfl (Ex.assign rfl) hS.rd ?_
    refine LW.nil fun aa ha => hK45 _ _ _ ?_ aa ha
    refine CW.block ?_
    refine CW.loop (fun q m wl5 => ∃ (i n : Nat) (xs : List Ch) (ado : Option Addr) (co : Nat), i ≤ l.length ∧ n = xs.length ∧ n ≤ i ∧ q = l.length - i ∧ m = [(1, .slice adt taps.length ct), (3, .pointer (some ⟨b3, 0, none⟩)), (5, .pointer (some ⟨b5, 0, none⟩)), (8, .slice ado n co), (9, .int .i64 i)] ∧ St w wl5 μ [Own.sl ado n co 67 2 (xs.flatMap chL), Own.obj b5 [.int .i64 p.X, .int .i64 p.Y] 36, Own.obj b3 [.slice ada l.length ca, v1, v2] 31] ∧ (xs = meant (l.take i) taps p)) _ ⟨0, 0, [], _, _, (by first | omega | (simp; done) | (simp; omega)), (by first | omega | (simp; done) | (simp; omega)), (by first | omega | (simp; done) | (simp; omega)), rfl, rfl, hS, rfl⟩ ⟨rfl, rfl, rfl, rfl, rfl, trivial⟩ ?_
    clear hS
    rintro q m wl5 ⟨i, n, xs, ado, co, hi, hn, hni, hq, rfl, hS, hx⟩
    have hcap := hS.sl_cap 0 rfl
    refine CW.seq fun K46 hK46 => ?_
    refine CW.seq fun K47 hK47 => ?_
    refine CW.region [0, 1, 2, 3, 4] rfl ?_
    refine LW.ex rfl rfl rfl rfl (Ex.move rfl) hS.rd ?_
    refine LW.ex rfl rfl rfl rfl (Ex.fieldO 0 Try.underlying31 rfl rfl ti27 rfl) hS.rd ?_
    refine LW.ex rfl rfl rfl rfl (Ex.load1 ti27 rfl rfl (by first | exact Rd.obj (k := 0) rfl rfl | exact Rd.obj (k := 1) rfl rfl | exact Rd.obj (k := 2) rfl rfl | exact Rd.obj (k := 3) rfl rfl | exact Rd.obj (k := 4) rfl rfl | exact Rd.imm (by assumption) | exact Rd.sl (k := 0) rfl (by assumption) | exact Rd.sl (k := 1) rfl (by assumption) | exact Rd.sl (k := 2) rfl (by assumption) | exact Rd.sl (k := 3) rfl (by assumption))) hS.rd ?_
    refine LW.ex rfl rfl rfl rfl (Ex.lenSl rfl Try.underlying27 rfl) hS.rd ?_
    refine LW.ex rfl rfl rfl rfl (Ex.lss rfl rfl rfl) hS.rd ?_
    refine LW.splitB (fun h5_4 => ?_) (fun h5_4 => ?_)
    · have h5_4 := of_decide_eq_true h5_4
      refine LW.nil fun aa ha => hK47 _ _ _ ?_ aa ha
      refine CW.yes rfl ?_
      refine CW.skip fun aa ha => hK46 _ _ _ ?_ aa ha
      refine CW.seq fun K48 hK48 => ?_
      refine CW.block ?_
      refine CW.seq fun K49 hK49 => ?_
      have h1 : i < l.length := by omega
      obtain ⟨bl, ol, rfl, k0, k1, k2, k3, k4⟩ := hl.at h1
      have hst := meant_step l taps p i h1
      have hS := hS.drew
      refine CW.draw 9 (.ex 0 <| .ex 1 <| .ex 2 <| .ex 3 <| .ex 4 <| .ex 5 <| .ex 6 <| .one 7 <| .ex 8 <| .done) [] (Rd _ _) mixed (by kernel_rfl) rfl rfl hS.rd ?_
      refine PW.ex rfl rfl rfl rfl (Ex.fieldO 0 Try.underlying31 rfl rfl ti27 rfl) ?_
      refine PW.ex rfl rfl rfl rfl (Ex.load1 ti27 rfl rfl (by first | exact Rd.obj (k := 0) rfl rfl | exact Rd.obj (k := 1) rfl rfl | exact Rd.obj (k := 2) rfl rfl | exact Rd.obj (k := 3) rfl rfl | exact Rd.obj (k := 4) rfl rfl | exact Rd.imm (by assumption) | exact Rd.sl (k := 0) rfl (by assumption) | exact Rd.sl (k := 1) rfl (by assumption) | exact Rd.sl (k := 2) rfl (by assumption) | exact Rd.sl (k := 3) rfl (by assumption))) ?_
      refine PW.ex rfl rfl rfl rfl (Ex.move rfl) ?_
      refine PW.ex rfl rfl rfl rfl (Ex.indexSl Try.underlying27 ti57 rfl rfl rfl (by omega)) ?_
      refine PW.ex rfl rfl rfl rfl (Ex.load5c ti57 rfl rfl (by first | exact Rd.obj (k := 0) rfl rfl | exact Rd.obj (k := 1) rfl rfl | exact Rd.obj (k := 2) rfl rfl | exact Rd.obj (k := 3) rfl rfl | exact Rd.obj (k := 4) rfl rfl | exact Rd.imm (by assumption) | exact Rd.sl (k := 0) rfl (by assumption) | exact Rd.sl (k := 1) rfl (by assumption) | exact Rd.sl (k := 2) rfl (by assumption) | exact Rd.sl (k := 3) rfl (by assumption)) (by first | exact Rd.obj (k := 0) rfl rfl | exact Rd.obj (k := 1) rfl rfl | exact Rd.obj (k := 2) rfl rfl | exact Rd.obj (k := 3) rfl rfl | exact Rd.obj (k := 4) rfl rfl | exact Rd.imm (by assumption) | exact Rd.sl (k := 0) rfl (by assumption) | exact Rd.sl (k := 1) rfl (by assumption) | exact Rd.sl (k := 2) rfl (by assumption) | exact Rd.sl (k := 3) rfl (by assumption)) (by first | exact Rd.obj (k := 0) rfl rfl | exact Rd.obj (k := 1) rfl rfl | exact Rd.obj (k := 2) rfl rfl | exact Rd.obj (k := 3) rfl rfl | exact Rd.obj (k := 4) rfl rfl | exact Rd.imm (by assumption) | exact Rd.sl (k := 0) rfl (by assumption) | exact Rd.sl (k := 1) rfl (by assumption) | exact Rd.sl (k := 2) rfl (by assumption) | exact Rd.sl (k := 3) rfl (by assumption)) (by first | exact Rd.obj (k := 0) rfl rfl | exact Rd.obj (k := 1) rfl rfl | exact Rd.obj (k := 2) rfl rfl | exact Rd.obj (k := 3) rfl rfl | exact Rd.obj (k := 4) rfl rfl | exact Rd.imm (by assumption) | exact Rd.sl (k := 0) rfl (by assumption) | exact Rd.sl (k := 1) rfl (by assumption) | exact Rd.sl (k := 2) rfl (by assumption) | exact Rd.sl (k := 3) rfl (by assumption)) (by first | exact Rd.obj (k := 0) rfl rfl | exact Rd.obj (k := 1) rfl rfl | exact Rd.obj (k := 2) rfl rfl | exact Rd.obj (k := 3) rfl rfl | exact Rd.obj (k := 4) rfl rfl | exact Rd.imm (by assumption) | exact Rd.sl (k := 0) rfl (by assumption) | exact Rd.sl (k := 1) rfl (by assumption) | exact Rd.sl (k := 2) rfl (by assumption) | exact Rd.sl (k := 3) rfl (by assumption))) ?_
      refine PW.ex rfl rfl rfl rfl (Ex.move rfl) ?_
      refine PW.ex rfl rfl rfl rfl (Ex.load2c ti36 rfl rfl (by first | exact Rd.obj (k := 0) rfl rfl | exact Rd.obj (k := 1) rfl rfl | exact Rd.obj (k := 2) rfl rfl | exact Rd.obj (k := 3) rfl rfl | exact Rd.obj (k := 4) rfl rfl | exact Rd.imm (by assumption) | exact Rd.sl (k := 0) rfl (by assumption) | exact Rd.sl (k := 1) rfl (by assumption) | exact Rd.sl (k := 2) rfl (by assumption) | exact Rd.sl (k := 3) rfl (by assumption)) (by first | exact Rd.obj (k := 0) rfl rfl | exact Rd.obj (k := 1) rfl rfl | exact Rd.obj (k := 2) rfl rfl | exact Rd.obj (k := 3) rfl rfl | exact Rd.obj (k := 4) rfl rfl | exact Rd.imm (by assumption) | exact Rd.sl (k := 0) rfl (by assumption) | exact Rd.sl (k := 1) rfl (by assumption) | exact Rd.sl (k := 2) rfl (by assumption) | exact Rd.sl (k := 3) rfl (by assumption))) ?_
      refine PW.hv rfl rfl rfl rfl (Hv.callS hS rfl rfl rfl cb26 (refcost_c l[i] taps p _ _ μ _ hS.imm ht hT (hB _ (List.getElem_mem h1)) (by omega))) (fun _ _ h => h.2.rd) fun v w29 ⟨hv, hS⟩ => ?_
      subst hv
      refine PW.ex rfl rfl rfl rfl (Ex.assign rfl) ?_
      refine PW.nil ?_
      refine LW.nil fun aa ha => hK49 _ _ _ ?_ aa ha
      refine CW.seq fun K50 hK50 => ?_
      refine CW.region [0, 1] rfl ?_
      refine LW.ex rfl rfl rfl rfl (Ex.move rfl) hS.rd ?_
      refine LW.ex rfl rfl rfl rfl (Ex.leq rfl rfl rfl) hS.rd ?_
      refine LW.splitB (fun h8_1 => ?_) (fun h8_1 => ?_)
      · have h8_1 := of_decide_eq_true h8_1
        refine LW.nil fun aa ha => hK50 _ _ _ ?_ aa ha
        refine CW.yes rfl ?_
        refine CW.region [0, 1, 2, 3, 4, 5, 6, 7, 8, 9, 10, 11] rfl ?_
        refine LW.ex rfl rfl rfl rfl (Ex.move rfl) hS.rd ?_
        refine LW.ex rfl rfl rfl rfl (Ex.fieldO 0 Try.underlying31 rfl rfl ti27 rfl) hS.rd ?_
        refine LW.ex rfl rfl rfl rfl (Ex.load1 ti27 rfl rfl (by first | exact Rd.obj (k := 0) rfl rfl | exact Rd.obj (k := 1) rfl rfl | exact Rd.obj (k := 2) rfl rfl | exact Rd.obj (k := 3) rfl rfl | exact Rd.obj (k := 4) rfl rfl | exact Rd.imm (by assumption) | exact Rd.sl (k := 0) rfl (by assumption) | exact Rd.sl (k := 1) rfl (by assumption) | exact Rd.sl (k := 2) rfl (by assumption) | exact Rd.sl (k := 3) rfl (by assumption))) hS.rd ?_
        refine LW.ex rfl rfl rfl rfl (Ex.move rfl) hS.rd ?_
        refine LW.ex rfl rfl rfl rfl (Ex.indexSl Try.underlying27 ti57 rfl rfl rfl (by omega)) hS.rd ?_
        refine LW.ex rfl rfl rfl rfl (Ex.fieldO 0 Try.underlying57 rfl rfl ti5 rfl) hS.rd ?_
        refine LW.ex rfl rfl rfl rfl (Ex.load1 ti5 rfl rfl (by first | exact Rd.obj (k := 0) rfl rfl | exact Rd.obj (k := 1) rfl rfl | exact Rd.obj (k := 2) rfl rfl | exact Rd.obj (k := 3) rfl rfl | exact Rd.obj (k := 4) rfl rfl | exact Rd.imm (by assumption) | exact Rd.sl (k := 0) rfl (by assumption) | exact Rd.sl (k := 1) rfl (by assumption) | exact Rd.sl (k := 2) rfl (by assumption) | exact Rd.sl (k := 3) rfl (by assumption))) hS.rd ?_
        refine LW.ex rfl rfl rfl rfl (Ex.move rfl) hS.rd ?_
        refine LW.ex rfl rfl rfl rfl (Ex.buildS st67 rfl rfl rfl) hS.rd ?_
        refine LW.hv rfl rfl rfl rfl (Hv.buildSl hS Try.underlying38 ti67 rfl rfl rfl rfl rfl rfl) fun v w41 ⟨b41, hv, hb41, hS⟩ => ?_
        subst hv
        refine LW.hv rfl rfl rfl rfl (Hv.append (k := 1) rfl Try.underlying38 ti67 rfl hS rfl rfl rfl rfl (Rd.objAll (k := 0) rfl hS.rd) (by simp [Value.oneCell']) (by unfold maxLen; omega) (by omega)) fun v w42 ⟨ad42, c42, hv, hS⟩ => ?_
        subst hv
        dsimp only [List.set] at hS
        have hS := hS.drop 0 rfl
        dsimp only [List.eraseIdx] at hS
        refine LW.ex rfl rfl rfl rfl (Ex.assign rfl) hS.rd ?_
        refine LW.nil fun aa ha => hK48 _ _ _ ?_ aa ha
        refine CW.region [0, 1, 2] rfl ?_
        refine LW.ex rfl rfl rfl rfl (Ex.move rfl) hS.rd ?_
        refine LW.ex rfl rfl rfl rfl (Ex.add rfl rfl (by first | exact inc64 (by omega) | exact addN (by omega) | exact w64 (by omega) (by omega))) hS.rd ?_
        refine LW.ex rfl rfl rfl rfl (Ex.assign rfl) hS.rd ?_
        refine LW.nil fun aa ha => ?_
        rw [show xs.flatMap chL ++ [.int .u8 l[i].Key.toNat, .int .i64 (costOf l[i] taps p)] = (xs ++ ([⟨l[i].Key, costOf l[i] taps p⟩] : List Ch)).flatMap chL by rw [List.flatMap_append]; rfl] at hS
        refine ⟨_, _, ?m5, ⟨i + 1, n + 1, xs ++ [⟨l[i].Key, costOf l[i] taps p⟩], _, _, (by first | omega | (simp; done) | (simp; omega)), (by first | omega | (simp; done) | (simp; omega)), (by first | omega | (simp; done) | (simp; omega)), rfl, rfl, hS, ?_⟩, ha.sub ⟨rfl, rfl, rfl, rfl, rfl, trivial⟩⟩
        case m5 => omega
        rw [hst, ← hx, if_pos (by omega)]
      · have h8_1 := of_decide_eq_false h8_1
        refine LW.nil fun aa ha => hK50 _ _ _ ?_ aa ha
        refine CW.no rfl ?_
        refine CW.skip fun aa ha => hK48 _ _ _ ?_ aa ha
        refine CW.region [0, 1, 2] rfl ?_
        refine LW.ex rfl rfl rfl rfl (Ex.move rfl) hS.rd ?_
        refine LW.ex rfl rfl rfl rfl (Ex.add rfl rfl (by first | exact inc64 (by omega) | exact addN (by omega) | exact w64 (by omega) (by omega))) hS.rd ?_
        refine LW.ex rfl rfl rfl rfl (Ex.assign rfl) hS.rd ?_
        refine LW.nil fun aa ha => ?_
        refine ⟨_, _, ?m5, ⟨i + 1, n, xs, _, _, (by first | omega | (simp; done) | (simp; omega)), (by first | omega | (simp; done) | (simp; omega)), (by first | omega | (simp; done) | (simp; omega)), rfl, rfl, hS, ?_⟩, ha.sub ⟨rfl, rfl, rfl, rfl, rfl, trivial⟩⟩
        case m5 => omega
        rw [hst, ← hx, if_neg (by omega), List.append_nil]
    · have h5_4 := of_decide_eq_false h5_4
      refine LW.nil fun aa ha => hK47 _ _ _ ?_ aa ha
      refine CW.no rfl ?_
      refine CW.exit fun aa ha => hK44 _ _ _ ?_ aa ha
      refine CW.seq fun K51 hK51 => ?_
      refine CW.seq fun K52 hK52 => ?_
      have hxe : xs = meant l taps p := by rw [hx, List.take_of_length_le (by omega)]
      refine CW.region [0, 1, 2] rfl ?_
      refine LW.ex rfl rfl rfl rfl (Ex.move rfl) hS.rd ?_
      refine LW.ex rfl rfl rfl rfl (Ex.lenSl rfl Try.underlying38 rfl) hS.rd ?_
      refine LW.ex rfl rfl rfl rfl (Ex.eql rfl rfl rfl) hS.rd ?_
      refine LW.splitB (fun h10_2 => ?_) (fun h10_2 => ?_)
      · have h10_2 := of_decide_eq_true h10_2
        refine LW.nil fun aa ha => hK52 _ _ _ ?_ aa ha
        refine CW.yes rfl ?_
        refine CW.seq fun K53 hK53 => ?_
        refine CW.region [0, 1] rfl ?_
        refine LW.ex rfl rfl rfl rfl (Ex.assign rfl) hS.rd ?_
        refine LW.ex rfl rfl rfl rfl (Ex.assign rfl) hS.rd ?_
        refine LW.nil fun aa ha => hK53 _ _ _ ?_ aa ha
        refine CW.ret fun aa ha => ?_
        refine ret_two ha Try.results16 rfl rfl ?_
        refine ⟨_, μ, rfl, hS.below, Mem.ext.refl _ _, hS.imm, [], none, 0, 210, rfl, Sl.nil _ _ _ (by simp [maxLen]), ?_⟩
        rw [if_neg (by rw [h1_1]; simp), if_pos (by rw [← hxe]; exact List.eq_nil_of_length_eq_zero (by omega))]; exact ⟨rfl, rfl⟩
      · have h10_2 := of_decide_eq_false h10_2
        refine LW.nil fun aa ha => hK52 _ _ _ ?_ aa ha
        refine CW.no rfl ?_
        refine CW.skip fun aa ha => hK51 _ _ _ ?_ aa ha
        refine CW.seq fun K54 hK54 => ?_
        have hsz5 := hS.below.size
        obtain ⟨bs, μ2, hmm, hS, hφ⟩ := hS.shut 0 rfl
        have hsl : Sl μ2 ado co xs := Sl.of_own hφ (chReps _ _) hn
        subst hn
        refine CW.region [0, 1, 2, 3] rfl ?_
        refine LW.ex rfl rfl rfl rfl (Ex.move rfl) hS.rd ?_
        refine LW.hv rfl rfl rfl rfl (Hv.callV hS rfl rfl rfl cb40 (few_c xs _ _ μ2 _ hS.imm hsl (by omega))) fun v w47 ⟨μ47, hv47, hm47, hS⟩ => ?_
        refine LW.ex rfl rfl rfl rfl (Ex.assign rfl) hS.rd ?_
        refine LW.ex rfl rfl rfl rfl (Ex.assign rfl) hS.rd ?_
        refine LW.nil fun aa ha => hK54 _ _ _ ?_ aa ha
        refine CW.ret fun aa ha => ?_
        obtain ⟨ad47, c47, rfl, hs47⟩ := hv47
        refine ret_two ha Try.results16 rfl rfl ?_
        refine ⟨_, _, rfl, hS.below, hmm.trans (hm47.mono hsz5), hS.imm, few xs, ad47, c47, 0, rfl, hs47, ?_⟩
        rw [if_neg (by rw [h1_1]; simp), if_neg (by rw [← hxe]; intro e; rw [e] at h10_2; simp at h10_2), hxe]; exact ⟨rfl, rfl⟩
  · skip
    refine LW.ex rfl rfl rfl rfl (Ex.not rfl rfl) hS.rd ?_
    refine LW.nil fun aa ha => hK42 _ _ _ ?_ aa ha
    refine CW.yes rfl ?_
    refine CW.seq fun K55 hK55 => ?_
    refine CW.region [0, 1] rfl ?_
    refine LW.ex rfl rfl rfl rfl (Ex.assign rfl) hS.rd ?_
    refine LW.ex rfl rfl rfl rfl (Ex.assign rfl) hS.rd ?_
    refine LW.nil fun aa ha => hK55 _ _ _ ?_ aa ha
    refine CW.ret fun aa ha => ?_
    refine ret_two ha Try.results16 rfl rfl ?_
    refine ⟨_, μ, rfl, hS.below, Mem.ext.refl _ _, hS.imm, [], none, 0, 1, rfl, Sl.nil _ _ _ (by simp [maxLen]), ?_⟩
    rw [if_pos h1_1]; exact ⟨rfl, rfl⟩
end Go.Proofs.Ytphgjongflkolaa

