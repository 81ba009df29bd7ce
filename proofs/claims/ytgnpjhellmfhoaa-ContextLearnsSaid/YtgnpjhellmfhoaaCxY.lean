/-
  Context: the walks of the statement's small functions: equal graphs, building, labels.
-/
import Derived.Test.YtgnpjhellmfhoaaCxS
namespace Go.Proofs.Ytgnpjhellmfhoaa
open Go.RowKit Sy

set_option maxRecDepth 100000 in
theorem linkEq (a b : Link) (w : World) : (Op.equal 66 (linkV a) (linkV b)).run Try.prog w = .ok (decide (a = b)) w := by
  have h := eqStruct (P := Try.prog) (xs := #[.int .i64 a.From, .int .i64 a.To, .int .i64 a.Label, .int .i64 a.Cost]) (ys := #[.int .i64 b.From, .int .i64 b.To, .int .i64 b.Label, .int .i64 b.Cost]) Try.underlying66 (by kernel_rfl) (eqF_int rfl ti3 rfl rfl (eqF_int rfl ti3 rfl rfl (eqF_int rfl ti3 rfl rfl (eqF_int rfl ti3 rfl rfl eqF_nil)))) w
  rw [h]; congr 1
  obtain ⟨a1, a2, a3, a4⟩ := a
  obtain ⟨c1, c2, c3, c4⟩ := b
  rw [Bool.eq_iff_iff]; simp
def sameG (a b : Grf) : Bool := decide (a.N = b.N ∧ a.Links = b.Links)
set_option maxRecDepth 100000 in
theorem sameG_c (a b : Grf) (ada adb : Option Addr) (ca cb : Nat) (μ : Mem) (w : World) (hμ : Imm μ w) (ha0 : Sl μ ada ca a.Links) (hb0 : Sl μ adb cb b.Links) :
    Calls Try.prog 42 #[.agg #[.int .i64 a.N, .slice ada a.Links.length ca], .agg #[.int .i64 b.N, .slice adb b.Links.length cb]] w (RetS w (.bool (sameG a b))) := by
  have hal := ha0.1
  have hac := ha0.2.1
  simp only [maxLen] at hac
  have hS := St.start w μ hμ
  refine calls_start 38 [.agg #[.int .i64 a.N, .slice ada a.Links.length ca], .agg #[.int .i64 b.N, .slice adb b.Links.length cb]] Try.func42 rfl Try.ntmps42 rfl rfl ?_
  refine CW.seq fun K1 hK1 => ?_
  refine CW.region [0, 1, 2] rfl ?_
  refine LW.hv rfl rfl rfl rfl (Hv.boxS hS rfl rfl) fun v w2 ⟨b2, hv, hb2, hS⟩ => ?_
  subst hv
  refine LW.hv rfl rfl rfl rfl (Hv.boxS hS rfl rfl) fun v w3 ⟨b3, hv, hb3, hS⟩ => ?_
  subst hv
  refine LW.ex rfl rfl rfl rfl (Ex.assign rfl) hS.rd ?_
  refine LW.nil fun aa ha => hK1 _ _ _ ?_ aa ha
  refine CW.seq fun K2 hK2 => ?_
  refine CW.seq fun K3 hK3 => ?_
  refine CW.region [0, 1, 2, 3, 4, 5, 6, 7, 8, 9, 10, 11, 12, 13] rfl ?_
  refine LW.ex rfl rfl rfl rfl (Ex.fieldO 0 Try.underlying46 rfl rfl ti3 rfl) hS.rd ?_
  refine LW.ex rfl rfl rfl rfl (Ex.load1 ti3 rfl rfl (by first | exact obT rfl | exact Rd.imm ‹_› | exact slT ‹_›)) hS.rd ?_
  refine LW.ex rfl rfl rfl rfl (Ex.fieldO 0 Try.underlying46 rfl rfl ti3 rfl) hS.rd ?_
  refine LW.ex rfl rfl rfl rfl (Ex.load1 ti3 rfl rfl (by first | exact obT rfl | exact Rd.imm ‹_› | exact slT ‹_›)) hS.rd ?_
  refine LW.ex rfl rfl rfl rfl (Ex.neq rfl rfl rfl) hS.rd ?_
  refine LW.splitB (fun h1_4 => ?_) (fun h1_4 => ?_)
  · have h1_4 := of_decide_eq_true h1_4
    refine LW.ex rfl rfl rfl rfl (Ex.move rfl) hS.rd ?_
    refine LW.skip rfl rfl rfl rfl ?_
    refine LW.skip rfl rfl rfl rfl ?_
    refine LW.skip rfl rfl rfl rfl ?_
    refine LW.skip rfl rfl rfl rfl ?_
    refine LW.skip rfl rfl rfl rfl ?_
    refine LW.skip rfl rfl rfl rfl ?_
    refine LW.skip rfl rfl rfl rfl ?_
    refine LW.ex rfl rfl rfl rfl (by first | exact Ex.pick_yes rfl rfl | exact Ex.pick_no rfl rfl) hS.rd ?_
    refine LW.nil fun aa ha => hK3 _ _ _ ?_ aa ha
    refine CW.yes rfl ?_
    refine CW.seq fun K4 hK4 => ?_
    refine CW.region [0] rfl ?_
    refine LW.ex rfl rfl rfl rfl (Ex.assign rfl) hS.rd ?_
    refine LW.nil fun aa ha => hK4 _ _ _ ?_ aa ha
    refine CW.ret fun aa ha => ?_
    refine ret_one ha Try.results42 rfl ?_
    exact hS.retB (by unfold sameG; rw [decide_eq_false]; intro h; exact h1_4 h.1)
  · have h1_4 := of_decide_eq_false h1_4
    refine LW.ex rfl rfl rfl rfl (Ex.move rfl) hS.rd ?_
    refine LW.ex rfl rfl rfl rfl (Ex.fieldO 1 Try.underlying46 rfl rfl ti44 rfl) hS.rd ?_
    refine LW.ex rfl rfl rfl rfl (Ex.load1 ti44 rfl rfl (by first | exact obT rfl | exact Rd.imm ‹_› | exact slT ‹_›)) hS.rd ?_
    refine LW.ex rfl rfl rfl rfl (Ex.lenSl rfl Try.underlying44 rfl) hS.rd ?_
    refine LW.ex rfl rfl rfl rfl (Ex.fieldO 1 Try.underlying46 rfl rfl ti44 rfl) hS.rd ?_
    refine LW.ex rfl rfl rfl rfl (Ex.load1 ti44 rfl rfl (by first | exact obT rfl | exact Rd.imm ‹_› | exact slT ‹_›)) hS.rd ?_
    refine LW.ex rfl rfl rfl rfl (Ex.lenSl rfl Try.underlying44 rfl) hS.rd ?_
    refine LW.ex rfl rfl rfl rfl (Ex.neq rfl rfl rfl) hS.rd ?_
    refine LW.splitB (fun h1_12 => ?_) (fun h1_12 => ?_)
    · have h1_12 := of_decide_eq_true h1_12
      refine LW.ex rfl rfl rfl rfl (by first | exact Ex.pick_yes rfl rfl | exact Ex.pick_no rfl rfl) hS.rd ?_
      refine LW.nil fun aa ha => hK3 _ _ _ ?_ aa ha
      refine CW.yes rfl ?_
      refine CW.seq fun K5 hK5 => ?_
      refine CW.region [0] rfl ?_
      refine LW.ex rfl rfl rfl rfl (Ex.assign rfl) hS.rd ?_
      refine LW.nil fun aa ha => hK5 _ _ _ ?_ aa ha
      refine CW.ret fun aa ha => ?_
      refine ret_one ha Try.results42 rfl ?_
      exact hS.retB (by unfold sameG; rw [decide_eq_false]; intro h; rw [h.2] at h1_12; exact h1_12 rfl)
    · have h1_12 := of_decide_eq_false h1_12
      refine LW.ex rfl rfl rfl rfl (by first | exact Ex.pick_yes rfl rfl | exact Ex.pick_no rfl rfl) hS.rd ?_
      refine LW.nil fun aa ha => hK3 _ _ _ ?_ aa ha
      refine CW.no rfl ?_
      refine CW.skip fun aa ha => hK2 _ _ _ ?_ aa ha
      refine CW.seq fun K6 hK6 => ?_
      refine CW.seq fun K7 hK7 => ?_
      refine CW.region [0] rfl ?_
      refine LW.ex rfl rfl rfl rfl (Ex.assign rfl) hS.rd ?_
      refine LW.nil fun aa ha => hK7 _ _ _ ?_ aa ha
      refine CW.block ?_
      refine CW.loop (fun qq frm wl4 => ∃ (i : Nat), i ≤ a.Links.length ∧ qq = a.Links.length - i ∧ frm = [(2, .pointer (some ⟨b2, 0, none⟩)), (3, .pointer (some ⟨b3, 0, none⟩)), (5, .int .i64 i)] ∧ St w wl4 μ [Own.obj b3 [.int .i64 b.N, .slice adb b.Links.length cb] 46, Own.obj b2 [.int .i64 a.N, .slice ada a.Links.length ca] 46] ∧ (a.Links.take i = b.Links.take i)) _ ⟨0, (by first | omega | (simp; done) | (simp; omega)), rfl, rfl, hS, rfl⟩ ⟨rfl, rfl, rfl, trivial⟩ ?_
      clear hS
      rintro qq frm wl4 ⟨i, hi, hq, rfl, hS, he⟩
      refine CW.seq fun K8 hK8 => ?_
      refine CW.seq fun K9 hK9 => ?_
      refine CW.region [0, 1, 2, 3, 4] rfl ?_
      refine LW.ex rfl rfl rfl rfl (Ex.move rfl) hS.rd ?_
      refine LW.ex rfl rfl rfl rfl (Ex.fieldO 1 Try.underlying46 rfl rfl ti44 rfl) hS.rd ?_
      refine LW.ex rfl rfl rfl rfl (Ex.load1 ti44 rfl rfl (by first | exact obT rfl | exact Rd.imm ‹_› | exact slT ‹_›)) hS.rd ?_
      refine LW.ex rfl rfl rfl rfl (Ex.lenSl rfl Try.underlying44 rfl) hS.rd ?_
      refine LW.ex rfl rfl rfl rfl (Ex.lss rfl rfl rfl) hS.rd ?_
      refine LW.splitB (fun h4_4 => ?_) (fun h4_4 => ?_)
      · have h4_4 := of_decide_eq_true h4_4
        refine LW.nil fun aa ha => hK9 _ _ _ ?_ aa ha
        refine CW.yes rfl ?_
        refine CW.skip fun aa ha => hK8 _ _ _ ?_ aa ha
        refine CW.seq fun K10 hK10 => ?_
        refine CW.block ?_
        refine CW.seq fun K11 hK11 => ?_
        have hi2 : i < a.Links.length := by omega
        have hi3 : i < b.Links.length := by omega
        obtain ⟨bl', ol, rfl, k0, k1, k2, k3⟩ := ha0.at hi2
        obtain ⟨bl2, ol2, rfl, j0, j1, j2, j3⟩ := hb0.at hi3
        have hS := hS.drew
        refine CW.draw 11 (.ex 0 <| .ex 1 <| .ex 2 <| .ex 3 <| .ex 4 <| .ex 5 <| .ex 6 <| .ex 7 <| .ex 8 <| .ex 9 <| .ex 10 <| .done) [] (Rd _ _) mixed (by kernel_rfl) rfl rfl hS.rd ?_
        refine PW.ex rfl rfl rfl rfl (Ex.fieldO 1 Try.underlying46 rfl rfl ti44 rfl) ?_
        refine PW.ex rfl rfl rfl rfl (Ex.load1 ti44 rfl rfl (by first | exact obT rfl | exact Rd.imm ‹_› | exact slT ‹_›)) ?_
        refine PW.ex rfl rfl rfl rfl (Ex.move rfl) ?_
        refine PW.ex rfl rfl rfl rfl (Ex.indexSl Try.underlying44 ti66 rfl rfl rfl (by omega)) ?_
        refine PW.ex rfl rfl rfl rfl (Ex.load4c ti66 rfl rfl (by first | exact obT rfl | exact Rd.imm ‹_› | exact slT ‹_›) (by first | exact obT rfl | exact Rd.imm ‹_› | exact slT ‹_›) (by first | exact obT rfl | exact Rd.imm ‹_› | exact slT ‹_›) (by first | exact obT rfl | exact Rd.imm ‹_› | exact slT ‹_›)) ?_
        refine PW.ex rfl rfl rfl rfl (Ex.fieldO 1 Try.underlying46 rfl rfl ti44 rfl) ?_
        refine PW.ex rfl rfl rfl rfl (Ex.load1 ti44 rfl rfl (by first | exact obT rfl | exact Rd.imm ‹_› | exact slT ‹_›)) ?_
        refine PW.ex rfl rfl rfl rfl (Ex.move rfl) ?_
        refine PW.ex rfl rfl rfl rfl (Ex.indexSl Try.underlying44 ti66 rfl rfl rfl (by omega)) ?_
        refine PW.ex rfl rfl rfl rfl (Ex.load4c ti66 rfl rfl (by first | exact obT rfl | exact Rd.imm ‹_› | exact slT ‹_›) (by first | exact obT rfl | exact Rd.imm ‹_› | exact slT ‹_›) (by first | exact obT rfl | exact Rd.imm ‹_› | exact slT ‹_›) (by first | exact obT rfl | exact Rd.imm ‹_› | exact slT ‹_›)) ?_
        refine PW.ex rfl rfl rfl rfl (Ex.neqSt (by kernel_rfl) rfl rfl (linkEq a.Links[i] b.Links[i])) ?_
        refine PW.splitB (fun h6_10 => ?_) (fun h6_10 => ?_)
        · have h6_10 : a.Links[i] ≠ b.Links[i] := by simpa using h6_10
          refine PW.nil ?_
          refine LW.nil fun aa ha => hK11 _ _ _ ?_ aa ha
          refine CW.yes rfl ?_
          refine CW.seq fun K12 hK12 => ?_
          refine CW.region [0] rfl ?_
          refine LW.ex rfl rfl rfl rfl (Ex.assign rfl) hS.rd ?_
          refine LW.nil fun aa ha => hK12 _ _ _ ?_ aa ha
          refine CW.ret fun aa ha => ?_
          refine ret_one ha Try.results42 rfl ?_
          exact hS.retB (by unfold sameG; rw [decide_eq_false]; rintro ⟨_, h⟩; apply h6_10; simp only [h])
        · have h6_10 : a.Links[i] = b.Links[i] := by simpa using h6_10
          refine PW.nil ?_
          refine LW.nil fun aa ha => hK11 _ _ _ ?_ aa ha
          refine CW.no rfl ?_
          refine CW.skip fun aa ha => hK10 _ _ _ ?_ aa ha
          refine CW.region [0, 1, 2] rfl ?_
          refine LW.ex rfl rfl rfl rfl (Ex.move rfl) hS.rd ?_
          refine LW.ex rfl rfl rfl rfl (Ex.add rfl rfl (by first | exact inc64 (by omega) | exact addN (by omega) | exact w64 (by omega) (by omega))) hS.rd ?_
          refine LW.ex rfl rfl rfl rfl (Ex.assign rfl) hS.rd ?_
          refine LW.nil fun aa ha => ?_
          refine ⟨_, _, ?m4, ⟨i + 1, (by first | omega | (simp; done) | (simp; omega)), rfl, rfl, hS, by rw [List.take_succ_eq_append_getElem hi2, List.take_succ_eq_append_getElem hi3, he, h6_10]⟩, ha.sub ⟨rfl, rfl, rfl, trivial⟩⟩
          case m4 => omega
      · have h4_4 := of_decide_eq_false h4_4
        refine LW.nil fun aa ha => hK9 _ _ _ ?_ aa ha
        refine CW.no rfl ?_
        refine CW.exit fun aa ha => hK6 _ _ _ ?_ aa ha
        refine CW.seq fun K13 hK13 => ?_
        refine CW.region [0] rfl ?_
        refine LW.ex rfl rfl rfl rfl (Ex.assign rfl) hS.rd ?_
        refine LW.nil fun aa ha => hK13 _ _ _ ?_ aa ha
        refine CW.ret fun aa ha => ?_
        refine ret_one ha Try.results42 rfl ?_
        exact hS.retB (by unfold sameG; rw [decide_eq_true]; refine ⟨by omega, ?_⟩; have h1 : i = a.Links.length := (by omega); have h2 : a.Links.length = b.Links.length := (by omega); rw [h1, List.take_length, h2, List.take_length] at he; exact he)
def sameB (a b : Built) : Bool := sameG a.G b.G && decide (a.Last = b.Last) && decide (a.E = b.E)
set_option maxRecDepth 100000 in
theorem sameB_c (a b : Built) (p0 p1 p2 p3 : Option Addr) (q0 q1 q2 q3 : Nat) (μ : Mem) (w : World) (hμ : Imm μ w) (ha0 : Sl μ p0 q0 a.G.Links) (ha1 : Sl μ p1 q1 a.Last) (hb0 : Sl μ p2 q2 b.G.Links) (hb1 : Sl μ p3 q3 b.Last) :
    Calls Try.prog 17 #[.agg #[.int .i64 a.G.N, .slice p0 a.G.Links.length q0, .slice p1 a.Last.length q1, .int .i64 a.E], .agg #[.int .i64 b.G.N, .slice p2 b.G.Links.length q2, .slice p3 b.Last.length q3, .int .i64 b.E]] w (RetS w (.bool (sameB a b))) := by
  have hS := St.start w μ hμ
  refine calls_start 24 [.agg #[.int .i64 a.G.N, .slice p0 a.G.Links.length q0, .slice p1 a.Last.length q1, .int .i64 a.E], .agg #[.int .i64 b.G.N, .slice p2 b.G.Links.length q2, .slice p3 b.Last.length q3, .int .i64 b.E]] Try.func17 rfl Try.ntmps17 rfl rfl ?_
  refine CW.seq fun K14 hK14 => ?_
  refine CW.region [0, 1, 2] rfl ?_
  refine LW.hv rfl rfl rfl rfl (Hv.boxS hS rfl rfl) fun v w2 ⟨b2, hv, hb2, hS⟩ => ?_
  subst hv
  refine LW.hv rfl rfl rfl rfl (Hv.boxS hS rfl rfl) fun v w3 ⟨b3, hv, hb3, hS⟩ => ?_
  subst hv
  refine LW.ex rfl rfl rfl rfl (Ex.assign rfl) hS.rd ?_
  refine LW.nil fun aa ha => hK14 _ _ _ ?_ aa ha
  refine CW.seq fun K15 hK15 => ?_
  refine CW.region [0, 1, 2, 3, 4, 5, 6, 7, 8, 9, 10, 11, 12, 13, 14, 15, 16, 17, 18, 19] rfl ?_
  refine LW.ex rfl rfl rfl rfl (Ex.fieldO 0 Try.underlying49 rfl rfl ti46 rfl) hS.rd ?_
  refine LW.ex rfl rfl rfl rfl (Ex.load2c ti46 rfl rfl (by first | exact obT rfl | exact Rd.imm ‹_› | exact slT ‹_›) (by first | exact obT rfl | exact Rd.imm ‹_› | exact slT ‹_›)) hS.rd ?_
  refine LW.ex rfl rfl rfl rfl (Ex.fieldO 0 Try.underlying49 rfl rfl ti46 rfl) hS.rd ?_
  refine LW.ex rfl rfl rfl rfl (Ex.load2c ti46 rfl rfl (by first | exact obT rfl | exact Rd.imm ‹_› | exact slT ‹_›) (by first | exact obT rfl | exact Rd.imm ‹_› | exact slT ‹_›)) hS.rd ?_
  refine LW.hv rfl rfl rfl rfl (Hv.callS hS rfl rfl rfl cb42 (sameG_c a.G b.G _ _ _ _ μ _ hS.imm ha0 hb0)) fun v w9 ⟨hv, hS⟩ => ?_
  subst hv
  refine LW.splitB (fun h1_4 => ?_) (fun h1_4 => ?_)
  · skip
    refine LW.ex rfl rfl rfl rfl (Ex.move rfl) hS.rd ?_
    refine LW.ex rfl rfl rfl rfl (Ex.fieldO 2 Try.underlying49 rfl rfl ti31 rfl) hS.rd ?_
    refine LW.ex rfl rfl rfl rfl (Ex.load1 ti31 rfl rfl (by first | exact obT rfl | exact Rd.imm ‹_› | exact slT ‹_›)) hS.rd ?_
    refine LW.ex rfl rfl rfl rfl (Ex.fieldO 2 Try.underlying49 rfl rfl ti31 rfl) hS.rd ?_
    refine LW.ex rfl rfl rfl rfl (Ex.load1 ti31 rfl rfl (by first | exact obT rfl | exact Rd.imm ‹_› | exact slT ‹_›)) hS.rd ?_
    refine LW.hv rfl rfl rfl rfl (Hv.callS hS rfl rfl rfl cb18 (ints_c a.Last b.Last _ _ _ _ μ _ hS.imm ha1 hb1)) fun v w15 ⟨hv, hS⟩ => ?_
    subst hv
    refine LW.splitB (fun h1_10 => ?_) (fun h1_10 => ?_)
    · skip
      refine LW.ex rfl rfl rfl rfl (by first | exact Ex.pick_yes rfl rfl | exact Ex.pick_no rfl rfl) hS.rd ?_
      refine LW.ex rfl rfl rfl rfl (Ex.move rfl) hS.rd ?_
      refine LW.ex rfl rfl rfl rfl (Ex.fieldO 3 Try.underlying49 rfl rfl ti47 rfl) hS.rd ?_
      refine LW.ex rfl rfl rfl rfl (Ex.load1 ti47 rfl rfl (by first | exact obT rfl | exact Rd.imm ‹_› | exact slT ‹_›)) hS.rd ?_
      refine LW.ex rfl rfl rfl rfl (Ex.fieldO 3 Try.underlying49 rfl rfl ti47 rfl) hS.rd ?_
      refine LW.ex rfl rfl rfl rfl (Ex.load1 ti47 rfl rfl (by first | exact obT rfl | exact Rd.imm ‹_› | exact slT ‹_›)) hS.rd ?_
      refine LW.ex rfl rfl rfl rfl (Ex.eql rfl rfl (by first | exact decide_eq_true (by omega) | exact decide_eq_false (by omega) | rfl)) hS.rd ?_
      refine LW.ex rfl rfl rfl rfl (by first | exact Ex.pick_yes rfl rfl | exact Ex.pick_no rfl rfl) hS.rd ?_
      refine LW.ex rfl rfl rfl rfl (Ex.assign rfl) hS.rd ?_
      refine LW.nil fun aa ha => hK15 _ _ _ ?_ aa ha
      refine CW.ret fun aa ha => ?_
      refine ret_one ha Try.results17 rfl ?_
      refine hS.retB ?_
      unfold sameB
      simp_all
    · skip
      refine LW.ex rfl rfl rfl rfl (by first | exact Ex.pick_yes rfl rfl | exact Ex.pick_no rfl rfl) hS.rd ?_
      refine LW.ex rfl rfl rfl rfl (Ex.move rfl) hS.rd ?_
      refine LW.skip rfl rfl rfl rfl ?_
      refine LW.skip rfl rfl rfl rfl ?_
      refine LW.skip rfl rfl rfl rfl ?_
      refine LW.skip rfl rfl rfl rfl ?_
      refine LW.skip rfl rfl rfl rfl ?_
      refine LW.ex rfl rfl rfl rfl (by first | exact Ex.pick_yes rfl rfl | exact Ex.pick_no rfl rfl) hS.rd ?_
      refine LW.ex rfl rfl rfl rfl (Ex.assign rfl) hS.rd ?_
      refine LW.nil fun aa ha => hK15 _ _ _ ?_ aa ha
      refine CW.ret fun aa ha => ?_
      refine ret_one ha Try.results17 rfl ?_
      refine hS.retB ?_
      unfold sameB
      simp_all
  · skip
    refine LW.ex rfl rfl rfl rfl (Ex.move rfl) hS.rd ?_
    refine LW.skip rfl rfl rfl rfl ?_
    refine LW.skip rfl rfl rfl rfl ?_
    refine LW.skip rfl rfl rfl rfl ?_
    refine LW.skip rfl rfl rfl rfl ?_
    refine LW.skip rfl rfl rfl rfl ?_
    refine LW.ex rfl rfl rfl rfl (by first | exact Ex.pick_yes rfl rfl | exact Ex.pick_no rfl rfl) hS.rd ?_
    refine LW.ex rfl rfl rfl rfl (Ex.move rfl) hS.rd ?_
    refine LW.skip rfl rfl rfl rfl ?_
    refine LW.skip rfl rfl rfl rfl ?_
    refine LW.skip rfl rfl rfl rfl ?_
    refine LW.skip rfl rfl rfl rfl ?_
    refine LW.skip rfl rfl rfl rfl ?_
    refine LW.ex rfl rfl rfl rfl (by first | exact Ex.pick_yes rfl rfl | exact Ex.pick_no rfl rfl) hS.rd ?_
    refine LW.ex rfl rfl rfl rfl (Ex.assign rfl) hS.rd ?_
    refine LW.nil fun aa ha => hK15 _ _ _ ?_ aa ha
    refine CW.ret fun aa ha => ?_
    refine ret_one ha Try.results17 rfl ?_
    refine hS.retB ?_
    unfold sameB
    simp_all
theorem sameB_self (a : Built) : sameB a a = true := by unfold sameB sameG; simp
set_option maxRecDepth 100000 in
theorem lbuild_c (x : Lat) (m : Mdl) (p : Int) (hws : ∀ s ∈ m.Words, s.size ≤ 9223372036854775807) (hsm : ∀ e ∈ x.Edges, -1099511627776 ≤ e.To ∧ e.To ≤ 1099511627776) (hE : x.Edges.length ≤ 100)
    (a0 a1 a2 a3 : Option Addr) (c0 c1 c2 c3 : Nat) (μ : Mem) (w : World) (hμ : Imm μ w) (hxl : Sl μ a3 c3 x.Edges) (hm0 : Sl μ a0 c0 m.Words) (hm1 : Sl μ a1 c1 m.Counts) (hm2 : Sl μ a2 c2 m.Pairs) :
    Calls Try.prog 13 #[.agg #[.int .i64 x.N, .slice a3 x.Edges.length c3], .agg #[.slice a0 m.Words.length c0, .slice a1 m.Counts.length c1, .slice a2 m.Pairs.length c2, .int .i64 m.Back], .int .i64 p] w (RetV w μ (IsBuiltA (buildR x m p))) := by
  have hS := St.start w μ hμ
  refine calls_start 22 [.agg #[.int .i64 x.N, .slice a3 x.Edges.length c3], .agg #[.slice a0 m.Words.length c0, .slice a1 m.Counts.length c1, .slice a2 m.Pairs.length c2, .int .i64 m.Back], .int .i64 p] Try.func13 rfl Try.ntmps13 rfl rfl ?_
  refine CW.seq fun K16 hK16 => ?_
  refine CW.region [0, 1, 2] rfl ?_
  refine LW.hv rfl rfl rfl rfl (Hv.boxS hS rfl rfl) fun v w3 ⟨b3, hv, hb3, hS⟩ => ?_
  subst hv
  refine LW.hv rfl rfl rfl rfl (Hv.boxS hS rfl rfl) fun v w4 ⟨b4, hv, hb4, hS⟩ => ?_
  subst hv
  refine LW.hv rfl rfl rfl rfl (Hv.alloc ti49 hS) fun v w6 ⟨b6, hv, hb6, hS⟩ => ?_
  subst hv
  refine LW.nil fun aa ha => hK16 _ _ _ ?_ aa ha
  refine CW.seq fun K17 hK17 => ?_
  have hsz := hS.below.size
  refine CW.region [0, 1, 2, 3, 4, 5, 6, 7, 8, 9, 10, 11] rfl ?_
  refine LW.ex rfl rfl rfl rfl (Ex.load2c ti38 rfl rfl (by first | exact obT rfl | exact Rd.imm ‹_› | exact slT ‹_›) (by first | exact obT rfl | exact Rd.imm ‹_› | exact slT ‹_›)) hS.rd ?_
  refine LW.ex rfl rfl rfl rfl (Ex.load4c ti34 rfl rfl (by first | exact obT rfl | exact Rd.imm ‹_› | exact slT ‹_›) (by first | exact obT rfl | exact Rd.imm ‹_› | exact slT ‹_›) (by first | exact obT rfl | exact Rd.imm ‹_› | exact slT ‹_›) (by first | exact obT rfl | exact Rd.imm ‹_› | exact slT ‹_›)) hS.rd ?_
  refine LW.ex rfl rfl rfl rfl (Ex.move rfl) hS.rd ?_
  refine LW.hv rfl rfl rfl rfl (Hv.callV hS rfl rfl rfl cb33 (build_c x m p hws hsm hE _ _ _ _ _ _ _ _ μ _ hS.imm hxl hm0 hm1 hm2)) fun v w14 ⟨μ14, hv14, hm14, hS⟩ => ?_
  obtain ⟨adl, cl, adt, ct, hv, hsl, hst⟩ := hv14
  subst hv
  refine LW.ex rfl rfl rfl rfl (Ex.move rfl) hS.rd ?_
  refine LW.ex rfl rfl rfl rfl (Ex.extract rfl rfl) hS.rd ?_
  refine LW.ex rfl rfl rfl rfl (Ex.extract rfl rfl) hS.rd ?_
  refine LW.ex rfl rfl rfl rfl (Ex.extract rfl rfl) hS.rd ?_
  refine LW.hv rfl rfl rfl rfl (Hv.alloc ti46 hS) fun v w7 ⟨b7, hv, hb7, hS⟩ => ?_
  subst hv
  refine LW.hu rfl rfl rfl (Hv.storeN (k := 0) ti46 hS rfl rfl rfl rfl (by simp [Value.oneCell'])) fun _ w_9 hS => ?_
  dsimp only [List.set] at hS
  refine LW.ex rfl rfl rfl rfl (Ex.assign rfl) hS.rd ?_
  refine LW.ex rfl rfl rfl rfl (Ex.assign rfl) hS.rd ?_
  refine LW.nil fun aa ha => hK17 _ _ _ ?_ aa ha
  refine CW.seq fun K18 hK18 => ?_
  refine CW.region [0, 1, 2, 3, 4] rfl ?_
  refine LW.ex rfl rfl rfl rfl (Ex.load2c ti46 rfl rfl (by first | exact obT rfl | exact Rd.imm ‹_› | exact slT ‹_›) (by first | exact obT rfl | exact Rd.imm ‹_› | exact slT ‹_›)) hS.rd ?_
  refine LW.ex rfl rfl rfl rfl (Ex.move rfl) hS.rd ?_
  refine LW.ex rfl rfl rfl rfl (Ex.move rfl) hS.rd ?_
  refine LW.ex rfl rfl rfl rfl (Ex.buildS st49 rfl rfl rfl) hS.rd ?_
  refine LW.hu rfl rfl rfl (Hv.storeN (k := 1) ti49 hS rfl rfl rfl rfl (by simp [Value.oneCell'])) fun _ w_4 hS => ?_
  dsimp only [List.set] at hS
  refine LW.nil fun aa ha => hK18 _ _ _ ?_ aa ha
  refine CW.ret fun aa ha => ?_
  refine ret_cell ha Try.results13 rfl ti49 rfl (fun j v hv => Rd.objAll (k := 1) rfl hS.rd j v hv) ?_
  exact ⟨_, μ14, rfl, hS.below, hm14.mono hsz, hS.imm, adl, cl, adt, ct, rfl, hsl, hst⟩

/-! ### The fixed examples -/
def x0 : Lat := ⟨2, [⟨0, 1, 1, 0⟩, ⟨0, 2, 0, 2⟩, ⟨1, 2, 2, 1⟩]⟩
def xE : Lat := ⟨0, []⟩
def xB : Lat := ⟨41, []⟩
def m0 : Mdl := ⟨[⟨#[67]⟩, ⟨#[97]⟩, ⟨#[98]⟩], [0, 0, 0], [], 0⟩
def mE : Mdl := ⟨[], [], [], 0⟩
def bW : Built := ⟨⟨3, [⟨0, 1, 0, 12⟩, ⟨0, 2, 1, 14⟩, ⟨1, 2, 2, 13⟩]⟩, [-1, 1, -1], 0⟩
theorem m0_ok : MdlOk m0 := ⟨by decide, by decide, by decide, by decide, by decide, by decide, by decide, List.Pairwise.nil, (fun p hp => by cases hp), (fun a => by show (0 : Int) ≤ _; decide), by decide, by decide⟩
theorem mE_no : okM mE = false := okM_no fun h => by have := h.n1; revert this; decide
theorem nodes0 : nodesL x0 3 (-1) = [⟨0, -1⟩, ⟨1, 1⟩, ⟨2, -1⟩] := by decide +kernel
theorem nodesE : nodesL xE 3 2 = [⟨0, 2⟩] := by decide +kernel
theorem fits0 : fitsC x0 3 (-1) = true := by decide +kernel
theorem fitsE : fitsC xE 3 2 = true := by decide +kernel
theorem bW_eq : buildR x0 m0 (-1) = bW := by
  unfold buildR
  rw [if_pos (okM_yes m0_ok), if_pos (show fitsC x0 m0.Words.length (-1) = true from fits0)]
  unfold graphR
  rw [show m0.Words.length = 3 from rfl, nodes0]
  have h : linksTo x0 m0 [⟨0, -1⟩, ⟨1, 1⟩, ⟨2, -1⟩] [(⟨0, -1⟩ : I2), ⟨1, 1⟩, ⟨2, -1⟩].length = [⟨0, 1, 0, 12⟩, ⟨0, 2, 1, 14⟩, ⟨1, 2, 2, 13⟩] := by decide +kernel
  rw [h]; rfl
theorem bE_eq : buildR xE m0 2 = ⟨⟨1, []⟩, [2], 0⟩ := by
  unfold buildR
  rw [if_pos (okM_yes m0_ok), if_pos (show fitsC xE m0.Words.length 2 = true from fitsE)]
  unfold graphR
  rw [show m0.Words.length = 3 from rfl, nodesE]
  have h : linksTo xE m0 [⟨0, 2⟩] [(⟨0, 2⟩ : I2)].length = [] := by decide +kernel
  rw [h]; rfl
theorem b3_eq : buildR x0 m0 3 = ⟨⟨0, []⟩, [], 1⟩ := by
  unfold buildR
  rw [if_pos (okM_yes m0_ok), if_neg (by decide +kernel)]
theorem bM_eq : buildR x0 mE (-1) = ⟨⟨0, []⟩, [], 110⟩ := by
  unfold buildR
  rw [if_neg (by rw [mE_no]; decide)]
theorem bB_eq : buildR xB m0 (-1) = ⟨⟨0, []⟩, [], 1⟩ := by
  unfold buildR
  rw [if_pos (okM_yes m0_ok), if_neg (by decide +kernel)]
theorem cost_of {x : Lat} {p : Int} {es : List Int} {r : Int × Bool} (hf : fitsC x 3 p = true) (h : costGo x m0 0 p 0 es = r) : costR x m0 p es = r := by
  unfold costR; rw [if_pos (okM_yes m0_ok), if_pos (show fitsC x m0.Words.length p = true from hf), h]
theorem c0_eq : costR x0 m0 (-1) [0, 2] = (25, true) := cost_of fits0 (by decide +kernel)
theorem c1_eq : costR x0 m0 (-1) [1] = (14, true) := cost_of fits0 (by decide +kernel)
theorem c2_eq : costR x0 m0 (-1) [0] = (0, false) := cost_of fits0 (by decide +kernel)
theorem c3_eq : costR xE m0 2 [] = (0, true) := cost_of fitsE (by decide +kernel)
theorem m0_words : ∀ s ∈ m0.Words, s.size ≤ 9223372036854775807 := by decide
theorem x0_small : ∀ e ∈ x0.Edges, -1099511627776 ≤ e.To ∧ e.To ≤ 1099511627776 := by decide
theorem lb0_c (b3 : Nat) (a0 a1 : Option Addr) (c0 c1 : Nat) (μ : Mem) (w : World) (hμ : Imm μ w) (hx : Sl μ (some ⟨b3, 0, none⟩) 3 x0.Edges) (hm0 : Sl μ a0 c0 m0.Words) (hm1 : Sl μ a1 c1 m0.Counts) :
    Calls Try.prog 13 #[.agg #[.int .i64 2, .slice (some ⟨b3, 0, none⟩) 3 3], .agg #[.slice a0 3 c0, .slice a1 3 c1, .slice none 0 0, .int .i64 0], .int .i64 (-1)] w (RetV w μ (IsBuiltA bW)) := by
  rw [← bW_eq]
  exact lbuild_c x0 m0 (-1) m0_words x0_small (by decide) a0 a1 none (some ⟨b3, 0, none⟩) c0 c1 0 3 μ w hμ hx hm0 hm1 (Sl.nil _ _ _ (by simp [maxLen]))
theorem lbE_c (b3 : Nat) (a0 a1 : Option Addr) (c0 c1 : Nat) (μ : Mem) (w : World) (hμ : Imm μ w)  (hm0 : Sl μ a0 c0 m0.Words) (hm1 : Sl μ a1 c1 m0.Counts) :
    Calls Try.prog 13 #[.agg #[.int .i64 0, .slice none 0 0], .agg #[.slice a0 3 c0, .slice a1 3 c1, .slice none 0 0, .int .i64 0], .int .i64 2] w (RetV w μ (IsBuiltA ⟨⟨1, []⟩, [2], 0⟩)) := by
  rw [← bE_eq]
  exact lbuild_c xE m0 2 m0_words (fun e he => by cases he) (by decide) a0 a1 none none c0 c1 0 0 μ w hμ (Sl.nil _ _ _ (by simp [maxLen])) hm0 hm1 (Sl.nil _ _ _ (by simp [maxLen]))
theorem lb3_c (b3 : Nat) (a0 a1 : Option Addr) (c0 c1 : Nat) (μ : Mem) (w : World) (hμ : Imm μ w) (hx : Sl μ (some ⟨b3, 0, none⟩) 3 x0.Edges) (hm0 : Sl μ a0 c0 m0.Words) (hm1 : Sl μ a1 c1 m0.Counts) :
    Calls Try.prog 13 #[.agg #[.int .i64 2, .slice (some ⟨b3, 0, none⟩) 3 3], .agg #[.slice a0 3 c0, .slice a1 3 c1, .slice none 0 0, .int .i64 0], .int .i64 3] w (RetV w μ (IsBuiltA ⟨⟨0, []⟩, [], 1⟩)) := by
  rw [← b3_eq]
  exact lbuild_c x0 m0 3 m0_words x0_small (by decide) a0 a1 none (some ⟨b3, 0, none⟩) c0 c1 0 3 μ w hμ hx hm0 hm1 (Sl.nil _ _ _ (by simp [maxLen]))
theorem lbB_c (b3 : Nat) (a0 a1 : Option Addr) (c0 c1 : Nat) (μ : Mem) (w : World) (hμ : Imm μ w)  (hm0 : Sl μ a0 c0 m0.Words) (hm1 : Sl μ a1 c1 m0.Counts) :
    Calls Try.prog 13 #[.agg #[.int .i64 41, .slice none 0 0], .agg #[.slice a0 3 c0, .slice a1 3 c1, .slice none 0 0, .int .i64 0], .int .i64 (-1)] w (RetV w μ (IsBuiltA ⟨⟨0, []⟩, [], 1⟩)) := by
  rw [← bB_eq]
  exact lbuild_c xB m0 (-1) m0_words (fun e he => by cases he) (by decide) a0 a1 none none c0 c1 0 0 μ w hμ (Sl.nil _ _ _ (by simp [maxLen])) hm0 hm1 (Sl.nil _ _ _ (by simp [maxLen]))
theorem lbM_c (b3 : Nat) (μ : Mem) (w : World) (hμ : Imm μ w) (hx : Sl μ (some ⟨b3, 0, none⟩) 3 x0.Edges) :
    Calls Try.prog 13 #[.agg #[.int .i64 2, .slice (some ⟨b3, 0, none⟩) 3 3], .agg #[.slice none 0 0, .slice none 0 0, .slice none 0 0, .int .i64 0], .int .i64 (-1)] w (RetV w μ (IsBuiltA ⟨⟨0, []⟩, [], 110⟩)) := by
  rw [← bM_eq]
  exact lbuild_c x0 mE (-1) (fun s hs => by cases hs) x0_small (by decide) none none none (some ⟨b3, 0, none⟩) 0 0 0 3 μ w hμ hx (Sl.nil _ _ _ (by simp [maxLen])) (Sl.nil _ _ _ (by simp [maxLen])) (Sl.nil _ _ _ (by simp [maxLen]))
end Go.Proofs.Ytgnpjhellmfhoaa

