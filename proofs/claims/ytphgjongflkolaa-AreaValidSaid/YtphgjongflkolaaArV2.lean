/-
  Areas: the walk of AreaValid.
-/
import Derived.Test.YtphgjongflkolaaArV6
namespace Go.Proofs.Ytphgjongflkolaa
open Go.RowKit Sy Go.Sort

theorem Hv.ofEx {P : Program} {S : World → Prop} {m : List (Nat × Value)} {op : Op} {v : Value} {w : World} (h : Ex P S m op v) (hS : S w) : Hv P m op w (fun u w' => u = v ∧ w' = w) :=
  Hv.of_run fun ρ hρ o ho => ⟨v, w, h ρ hρ w hS o ho, rfl, rfl⟩
theorem made_valid (l : List B2) : validA (madeB l) = true := by
  have h := mov_valid l (d := 0) (e := 0) ⟨by omega, by omega⟩ ⟨by omega, by omega⟩
  rw [movL_zero] at h
  rw [valid_same, show areasR (madeB l).Areas = true from h, show tplsR (madeB l).Templates = true from (by decide : tplsR tplsM = true), show chordsR (madeB l).Chords = true from (by decide : chordsR chordsM = true)]; rfl
def wordsV : List ByteArray := [⟨#[97, 98, 99]⟩, ⟨#[97, 98, 99, 100, 101]⟩, ⟨#[99, 98]⟩, ⟨#[97, 97, 98]⟩, ⟨#[97]⟩, ⟨#[97, 98]⟩]
theorem u8add (a b : UInt8) : IntKind.u8.wrap ((a.toNat : Int) + b.toNat) = (((a + b).toNat : Nat) : Int) := by
  rw [IntKind.wrap_u8, UInt8.toNat_add]; omega
theorem u8of {z : Int} (h : 0 ≤ z ∧ z < 256) : ∃ b : UInt8, z = (b.toNat : Int) := ⟨UInt8.ofNat z.toNat, by rw [UInt8.toNat_ofNat']; omega⟩
theorem area_cell (ys : List Area) (i : Nat) (a : Area) (hi : i < ys.length) (j : Nat) (hj : j < 5) : ((ys.set i a).flatMap areaL)[0 + i * 5 + j]? = (areaL a)[j]? := by
  rw [flatMap_get areaL_len (by decide), show (0 + i * 5 + j) / 5 = i by omega, show (0 + i * 5 + j) % 5 = j by omega, List.getElem?_set_self hi]; rfl
theorem area_set (ys : List Area) (i : Nat) (a a' : Area) (hi : i < ys.length) (j : Nat) (hj : j < 5) (v : Value) (h : (areaL a).set j v = areaL a') : ((ys.set i a).flatMap areaL).set (0 + i * 5 + j) v = (ys.set i a').flatMap areaL := by
  have h1 := flatMap_set areaL_len (by decide) (ys.set i a) i (by simpa using hi) j hj a' v (by rw [List.getElem_set_self]; exact h)
  rw [List.set_set] at h1
  rw [show 0 + i * 5 + j = i * 5 + j by omega]; exact h1
theorem same_valid {b : Bool} (h : (b == b) = false) : False := by simp at h

set_option maxRecDepth 100000 in
set_option maxHeartbeats 4000000 in
theorem law2_c (b : Brd) (l : List B2) (x : J4) (hx : x.ok) (p0 p1 p2 adl : Option Addr) (q0 q1 q2 cl : Nat) (μ : Mem) (w : World) (hμ : Imm μ w) (hb0 : Sl μ p0 q0 b.Areas) (hb1 : Sl μ p1 q1 b.Templates) (hb2 : Sl μ p2 q2 b.Chords) (sl : Sl μ adl cl l) :
    Calls Try.prog 4 #[.agg #[.slice p0 b.Areas.length q0, .slice p1 b.Templates.length q1, .slice p2 b.Chords.length q2], .slice adl l.length cl, j4V x] w (RetS w (.bool true)) := by
  have hml := made_len l
  obtain ⟨⟨x1, x2⟩, ⟨x3, x4⟩, ⟨x5, x6⟩, ⟨x7, x8⟩⟩ := hx
  have hbl : b.Templates.length ≤ 9223372036854775807 := by have := hb1.1; have := hb1.2.1; simp only [maxLen] at this; omega
  have hS := St.start w μ hμ
  refine calls_start 167 [.agg #[.slice p0 b.Areas.length q0, .slice p1 b.Templates.length q1, .slice p2 b.Chords.length q2], .slice adl l.length cl, j4V x] Try.func4 rfl Try.ntmps4 rfl rfl ?_
  refine CW.seq fun K1 hK1 => ?_
  refine CW.region [0, 1, 2] rfl ?_
  refine LW.hv rfl rfl rfl rfl (Hv.boxS hS rfl rfl) fun v w3 ⟨b3, hv, hb3, hS⟩ => ?_
  subst hv
  refine LW.hv rfl rfl rfl rfl (Hv.boxS hS rfl rfl) fun v w5 ⟨b5, hv, hb5, hS⟩ => ?_
  subst hv
  refine LW.ex rfl rfl rfl rfl (Ex.assign rfl) hS.rd ?_
  refine LW.nil fun aa ha => hK1 _ _ _ ?_ aa ha
  refine CW.seq fun K2 hK2 => ?_
  refine CW.region [0, 1] rfl ?_
  refine LW.hv rfl rfl rfl rfl (Hv.callS hS rfl rfl rfl cb11 (sanity_c _)) fun v w12 ⟨hv, hS⟩ => ?_
  subst hv
  refine LW.ex rfl rfl rfl rfl (Ex.assign rfl) hS.rd ?_
  refine LW.nil fun aa ha => hK2 _ _ _ ?_ aa ha
  refine CW.seq fun K3 hK3 => ?_
  refine CW.seq fun K4 hK4 => ?_
  refine CW.region [0, 1, 2, 3, 4, 5, 6, 7, 8, 9, 10, 11, 12, 13, 14, 15] rfl ?_
  refine LW.ex rfl rfl rfl rfl (Ex.fieldO 0 Try.underlying31 rfl rfl ti27 rfl) hS.rd ?_
  refine LW.ex rfl rfl rfl rfl (Ex.load1 ti27 rfl rfl (by first | exact ob 0 rfl rfl | exact ob 1 rfl rfl | exact ob 2 rfl rfl | exact ob 3 rfl rfl | exact ob 4 rfl rfl | exact ob 5 rfl rfl | exact ob 6 rfl rfl | exact ob 7 rfl rfl | exact ob 8 rfl rfl | exact ob 9 rfl rfl | exact Rd.imm (by assumption) | exact sb 0 rfl (by assumption) | exact sb 1 rfl (by assumption) | exact sb 2 rfl (by assumption) | exact sb 3 rfl (by assumption) | exact sb 4 rfl (by assumption) | exact sb 5 rfl (by assumption))) hS.rd ?_
  refine LW.ex rfl rfl rfl rfl (Ex.lenSl rfl Try.underlying27 rfl) hS.rd ?_
  refine LW.ex rfl rfl rfl rfl (Ex.gtr rfl rfl rfl) hS.rd ?_
  refine LW.splitB (fun h2_3 => ?_) (fun h2_3 => ?_)
  · have h2_3 := of_decide_eq_true h2_3
    refine LW.ex rfl rfl rfl rfl (Ex.move rfl) hS.rd ?_
    refine LW.skip rfl rfl rfl rfl ?_
    refine LW.skip rfl rfl rfl rfl ?_
    refine LW.skip rfl rfl rfl rfl ?_
    refine LW.skip rfl rfl rfl rfl ?_
    refine LW.ex rfl rfl rfl rfl (by first | exact Ex.pick_yes rfl rfl | exact Ex.pick_no rfl rfl) hS.rd ?_
    refine LW.ex rfl rfl rfl rfl (Ex.move rfl) hS.rd ?_
    refine LW.skip rfl rfl rfl rfl ?_
    refine LW.skip rfl rfl rfl rfl ?_
    refine LW.skip rfl rfl rfl rfl ?_
    refine LW.skip rfl rfl rfl rfl ?_
    refine LW.ex rfl rfl rfl rfl (by first | exact Ex.pick_yes rfl rfl | exact Ex.pick_no rfl rfl) hS.rd ?_
    refine LW.nil fun aa ha => hK4 _ _ _ ?_ aa ha
    refine CW.yes rfl ?_
    refine CW.seq fun K5 hK5 => ?_
    refine CW.region [0, 1] rfl ?_
    refine LW.ex rfl rfl rfl rfl (Ex.move rfl) hS.rd ?_
    refine LW.ex rfl rfl rfl rfl (Ex.assign rfl) hS.rd ?_
    refine LW.nil fun aa ha => hK5 _ _ _ ?_ aa ha
    refine CW.ret fun aa ha => ?_
    refine ret_one ha Try.results4 rfl ?_
    exact hS.retS
  · have h2_3 := of_decide_eq_false h2_3
    refine LW.ex rfl rfl rfl rfl (Ex.move rfl) hS.rd ?_
    refine LW.ex rfl rfl rfl rfl (Ex.fieldO 1 Try.underlying31 rfl rfl ti28 rfl) hS.rd ?_
    refine LW.ex rfl rfl rfl rfl (Ex.load1 ti28 rfl rfl (by first | exact ob 0 rfl rfl | exact ob 1 rfl rfl | exact ob 2 rfl rfl | exact ob 3 rfl rfl | exact ob 4 rfl rfl | exact ob 5 rfl rfl | exact ob 6 rfl rfl | exact ob 7 rfl rfl | exact ob 8 rfl rfl | exact ob 9 rfl rfl | exact Rd.imm (by assumption) | exact sb 0 rfl (by assumption) | exact sb 1 rfl (by assumption) | exact sb 2 rfl (by assumption) | exact sb 3 rfl (by assumption) | exact sb 4 rfl (by assumption) | exact sb 5 rfl (by assumption))) hS.rd ?_
    refine LW.ex rfl rfl rfl rfl (Ex.lenSl rfl Try.underlying28 rfl) hS.rd ?_
    refine LW.ex rfl rfl rfl rfl (Ex.gtr rfl rfl rfl) hS.rd ?_
    refine LW.splitB (fun h2_8 => ?_) (fun h2_8 => ?_)
    · have h2_8 := of_decide_eq_true h2_8
      refine LW.ex rfl rfl rfl rfl (by first | exact Ex.pick_yes rfl rfl | exact Ex.pick_no rfl rfl) hS.rd ?_
      refine LW.ex rfl rfl rfl rfl (Ex.move rfl) hS.rd ?_
      refine LW.skip rfl rfl rfl rfl ?_
      refine LW.skip rfl rfl rfl rfl ?_
      refine LW.skip rfl rfl rfl rfl ?_
      refine LW.skip rfl rfl rfl rfl ?_
      refine LW.ex rfl rfl rfl rfl (by first | exact Ex.pick_yes rfl rfl | exact Ex.pick_no rfl rfl) hS.rd ?_
      refine LW.nil fun aa ha => hK4 _ _ _ ?_ aa ha
      refine CW.yes rfl ?_
      refine CW.seq fun K6 hK6 => ?_
      refine CW.region [0, 1] rfl ?_
      refine LW.ex rfl rfl rfl rfl (Ex.move rfl) hS.rd ?_
      refine LW.ex rfl rfl rfl rfl (Ex.assign rfl) hS.rd ?_
      refine LW.nil fun aa ha => hK6 _ _ _ ?_ aa ha
      refine CW.ret fun aa ha => ?_
      refine ret_one ha Try.results4 rfl ?_
      exact hS.retS
    · have h2_8 := of_decide_eq_false h2_8
      refine LW.ex rfl rfl rfl rfl (by first | exact Ex.pick_yes rfl rfl | exact Ex.pick_no rfl rfl) hS.rd ?_
      refine LW.ex rfl rfl rfl rfl (Ex.move rfl) hS.rd ?_
      refine LW.ex rfl rfl rfl rfl (Ex.fieldO 2 Try.underlying31 rfl rfl ti29 rfl) hS.rd ?_
      refine LW.ex rfl rfl rfl rfl (Ex.load1 ti29 rfl rfl (by first | exact ob 0 rfl rfl | exact ob 1 rfl rfl | exact ob 2 rfl rfl | exact ob 3 rfl rfl | exact ob 4 rfl rfl | exact ob 5 rfl rfl | exact ob 6 rfl rfl | exact ob 7 rfl rfl | exact ob 8 rfl rfl | exact ob 9 rfl rfl | exact Rd.imm (by assumption) | exact sb 0 rfl (by assumption) | exact sb 1 rfl (by assumption) | exact sb 2 rfl (by assumption) | exact sb 3 rfl (by assumption) | exact sb 4 rfl (by assumption) | exact sb 5 rfl (by assumption))) hS.rd ?_
      refine LW.ex rfl rfl rfl rfl (Ex.lenSl rfl Try.underlying29 rfl) hS.rd ?_
      refine LW.ex rfl rfl rfl rfl (Ex.gtr rfl rfl rfl) hS.rd ?_
      refine LW.splitB (fun h2_14 => ?_) (fun h2_14 => ?_)
      · have h2_14 := of_decide_eq_true h2_14
        refine LW.ex rfl rfl rfl rfl (by first | exact Ex.pick_yes rfl rfl | exact Ex.pick_no rfl rfl) hS.rd ?_
        refine LW.nil fun aa ha => hK4 _ _ _ ?_ aa ha
        refine CW.yes rfl ?_
        refine CW.seq fun K7 hK7 => ?_
        refine CW.region [0, 1] rfl ?_
        refine LW.ex rfl rfl rfl rfl (Ex.move rfl) hS.rd ?_
        refine LW.ex rfl rfl rfl rfl (Ex.assign rfl) hS.rd ?_
        refine LW.nil fun aa ha => hK7 _ _ _ ?_ aa ha
        refine CW.ret fun aa ha => ?_
        refine ret_one ha Try.results4 rfl ?_
        exact hS.retS
      · have h2_14 := of_decide_eq_false h2_14
        refine LW.ex rfl rfl rfl rfl (by first | exact Ex.pick_yes rfl rfl | exact Ex.pick_no rfl rfl) hS.rd ?_
        refine LW.nil fun aa ha => hK4 _ _ _ ?_ aa ha
        refine CW.no rfl ?_
        refine CW.skip fun aa ha => hK3 _ _ _ ?_ aa ha
        refine CW.seq fun K8 hK8 => ?_
        refine CW.seq fun K9 hK9 => ?_
        refine CW.region [0] rfl ?_
        refine LW.ex rfl rfl rfl rfl (Ex.assign rfl) hS.rd ?_
        refine LW.nil fun aa ha => hK9 _ _ _ ?_ aa ha
        refine CW.block ?_
        refine CW.loop (fun q m wl5 => ∃ (i : Nat), i ≤ b.Templates.length ∧ q = b.Templates.length - i ∧ m = [(1, .slice adl l.length cl), (3, .pointer (some ⟨b3, 0, none⟩)), (5, .pointer (some ⟨b5, 0, none⟩)), (7, .bool true), (8, .int .i64 i)] ∧ St w wl5 μ [Own.obj b5 [.int .i16 x.a, .int .i16 x.b, .int .i16 x.c, .int .i16 x.d] 52, Own.obj b3 [.slice p0 b.Areas.length q0, .slice p1 b.Templates.length q1, .slice p2 b.Chords.length q2] 31]) _ ⟨0, (by first | omega | (simp; done) | (simp; omega)), rfl, rfl, hS⟩ ⟨rfl, rfl, rfl, rfl, rfl, trivial⟩ ?_
        clear hS
        rintro q m wl5 ⟨i, hi, hq, rfl, hS⟩
        refine CW.seq fun K10 hK10 => ?_
        refine CW.seq fun K11 hK11 => ?_
        refine CW.region [0, 1, 2, 3, 4] rfl ?_
        refine LW.ex rfl rfl rfl rfl (Ex.move rfl) hS.rd ?_
        refine LW.ex rfl rfl rfl rfl (Ex.fieldO 1 Try.underlying31 rfl rfl ti28 rfl) hS.rd ?_
        refine LW.ex rfl rfl rfl rfl (Ex.load1 ti28 rfl rfl (by first | exact ob 0 rfl rfl | exact ob 1 rfl rfl | exact ob 2 rfl rfl | exact ob 3 rfl rfl | exact ob 4 rfl rfl | exact ob 5 rfl rfl | exact ob 6 rfl rfl | exact ob 7 rfl rfl | exact ob 8 rfl rfl | exact ob 9 rfl rfl | exact Rd.imm (by assumption) | exact sb 0 rfl (by assumption) | exact sb 1 rfl (by assumption) | exact sb 2 rfl (by assumption) | exact sb 3 rfl (by assumption) | exact sb 4 rfl (by assumption) | exact sb 5 rfl (by assumption))) hS.rd ?_
        refine LW.ex rfl rfl rfl rfl (Ex.lenSl rfl Try.underlying28 rfl) hS.rd ?_
        refine LW.ex rfl rfl rfl rfl (Ex.lss rfl rfl rfl) hS.rd ?_
        refine LW.splitB (fun h5_4 => ?_) (fun h5_4 => ?_)
        · have h5_4 := of_decide_eq_true h5_4
          refine LW.nil fun aa ha => hK11 _ _ _ ?_ aa ha
          refine CW.yes rfl ?_
          refine CW.skip fun aa ha => hK10 _ _ _ ?_ aa ha
          refine CW.seq fun K12 hK12 => ?_
          refine CW.block ?_
          refine CW.seq fun K13 hK13 => ?_
          have h1 : i < b.Templates.length := by omega
          obtain ⟨bl, ol, rfl, k0, adp, cp, k1, k2⟩ := hb1.at h1
          refine CW.region [0, 1, 2, 3, 4, 5, 6, 7] rfl ?_
          refine LW.ex rfl rfl rfl rfl (Ex.fieldO 1 Try.underlying31 rfl rfl ti28 rfl) hS.rd ?_
          refine LW.ex rfl rfl rfl rfl (Ex.load1 ti28 rfl rfl (by first | exact ob 0 rfl rfl | exact ob 1 rfl rfl | exact ob 2 rfl rfl | exact ob 3 rfl rfl | exact ob 4 rfl rfl | exact ob 5 rfl rfl | exact ob 6 rfl rfl | exact ob 7 rfl rfl | exact ob 8 rfl rfl | exact ob 9 rfl rfl | exact Rd.imm (by assumption) | exact sb 0 rfl (by assumption) | exact sb 1 rfl (by assumption) | exact sb 2 rfl (by assumption) | exact sb 3 rfl (by assumption) | exact sb 4 rfl (by assumption) | exact sb 5 rfl (by assumption))) hS.rd ?_
          refine LW.ex rfl rfl rfl rfl (Ex.move rfl) hS.rd ?_
          refine LW.ex rfl rfl rfl rfl (Ex.indexSl Try.underlying28 ti55 rfl rfl rfl (by omega)) hS.rd ?_
          refine LW.ex rfl rfl rfl rfl (Ex.fieldO 1 Try.underlying55 rfl rfl ti53 rfl) hS.rd ?_
          refine LW.ex rfl rfl rfl rfl (Ex.load1 ti53 rfl rfl (by first | exact ob 0 rfl rfl | exact ob 1 rfl rfl | exact ob 2 rfl rfl | exact ob 3 rfl rfl | exact ob 4 rfl rfl | exact ob 5 rfl rfl | exact ob 6 rfl rfl | exact ob 7 rfl rfl | exact ob 8 rfl rfl | exact ob 9 rfl rfl | exact Rd.imm (by assumption) | exact sb 0 rfl (by assumption) | exact sb 1 rfl (by assumption) | exact sb 2 rfl (by assumption) | exact sb 3 rfl (by assumption) | exact sb 4 rfl (by assumption) | exact sb 5 rfl (by assumption))) hS.rd ?_
          refine LW.ex rfl rfl rfl rfl (Ex.lenSl rfl Try.underlying53 rfl) hS.rd ?_
          refine LW.ex rfl rfl rfl rfl (Ex.gtr rfl rfl rfl) hS.rd ?_
          refine LW.splitB (fun h7_7 => ?_) (fun h7_7 => ?_)
          · have h7_7 := of_decide_eq_true h7_7
            refine LW.nil fun aa ha => hK13 _ _ _ ?_ aa ha
            refine CW.yes rfl ?_
            refine CW.seq fun K14 hK14 => ?_
            refine CW.region [0, 1] rfl ?_
            refine LW.ex rfl rfl rfl rfl (Ex.move rfl) hS.rd ?_
            refine LW.ex rfl rfl rfl rfl (Ex.assign rfl) hS.rd ?_
            refine LW.nil fun aa ha => hK14 _ _ _ ?_ aa ha
            refine CW.ret fun aa ha => ?_
            refine ret_one ha Try.results4 rfl ?_
            exact hS.retS
          · have h7_7 := of_decide_eq_false h7_7
            refine LW.nil fun aa ha => hK13 _ _ _ ?_ aa ha
            refine CW.no rfl ?_
            refine CW.skip fun aa ha => hK12 _ _ _ ?_ aa ha
            refine CW.region [0, 1, 2] rfl ?_
            refine LW.ex rfl rfl rfl rfl (Ex.move rfl) hS.rd ?_
            refine LW.ex rfl rfl rfl rfl (Ex.add rfl rfl (by first | exact inc64 (by omega) | exact addN (by omega) | exact w64 (by omega) (by omega))) hS.rd ?_
            refine LW.ex rfl rfl rfl rfl (Ex.assign rfl) hS.rd ?_
            refine LW.nil fun aa ha => ?_
            refine ⟨_, _, ?m5, ⟨i + 1, (by first | omega | (simp; done) | (simp; omega)), rfl, rfl, hS⟩, ha.sub ⟨rfl, rfl, rfl, rfl, rfl, trivial⟩⟩
            case m5 => omega
        · have h5_4 := of_decide_eq_false h5_4
          refine LW.nil fun aa ha => hK11 _ _ _ ?_ aa ha
          refine CW.no rfl ?_
          refine CW.exit fun aa ha => hK8 _ _ _ ?_ aa ha
          refine CW.seq fun K15 hK15 => ?_
          refine CW.region [0, 1, 2, 3] rfl ?_
          refine LW.ex rfl rfl rfl rfl (Ex.move rfl) hS.rd ?_
          refine LW.hv rfl rfl rfl rfl (Hv.callV hS rfl rfl rfl cb12 (made_c l _ _ _ _ hS.imm sl)) fun v w47 ⟨μ47, hv47, hm47, hS⟩ => ?_
          obtain ⟨a0, c0, a1, c1, a2, c2, hv, hd0, hd1, hd2⟩ := hv47
          subst hv
          have hd0 : Sl _ a0 c0 (made l) := hd0
          have hb0 := hb0.mono hm47
          have hb1 := hb1.mono hm47
          have hb2 := hb2.mono hm47
          have sl := sl.mono hm47
          have hdl : (madeB l).Areas.length = (made l).length := rfl
          refine LW.hv rfl rfl rfl rfl (Hv.alloc ti31 hS) fun v w9 ⟨b9, hv, hb9, hS⟩ => ?_
          subst hv
          refine LW.hu rfl rfl rfl (Hv.storeN (k := 0) ti31 hS rfl rfl rfl rfl (by simp [Value.oneCell'])) fun _ w_3 hS => ?_
          dsimp only [List.set] at hS
          refine LW.nil fun aa ha => hK15 _ _ _ ?_ aa ha
          refine CW.seq fun K16 hK16 => ?_
          have hJ10 : ∀ (wj : World) (La : List Area) (adc : Option Addr) (cc : Nat) (μ7 : Mem), St w wj μ7 [Own.obj b9 [.slice adc La.length cc, .slice a1 2 c1, .slice a2 2 c2] 31, Own.obj b5 [.int .i16 x.a, .int .i16 x.b, .int .i16 x.c, .int .i16 x.d] 52, Own.obj b3 [.slice p0 b.Areas.length q0, .slice p1 b.Templates.length q1, .slice p2 b.Chords.length q2] 31] → (Sl μ7 adc cc La) → (Mem.ext 0 μ47 μ7) → KW K16 167 [(1, .slice adl l.length cl), (3, .pointer (some ⟨b3, 0, none⟩)), (5, .pointer (some ⟨b5, 0, none⟩)), (7, .bool true), (9, .pointer (some ⟨b9, 0, none⟩))] wj := by
            intro wj La adc cc μ7 hS hsc hme
            refine hK16 _ _ _ ?_
            have hb0 := hb0.mono hme
            have hb1 := hb1.mono hme
            have hb2 := hb2.mono hme
            have hd1 := hd1.mono hme
            have hd2 := hd2.mono hme
            have sl := sl.mono hme
            refine CW.seq fun K17 hK17 => ?_
            refine CW.region [0, 1, 2, 3] rfl ?_
            refine LW.ex rfl rfl rfl rfl (Ex.move rfl) hS.rd ?_
            refine LW.hv rfl rfl rfl rfl (Hv.callM rfl rfl rfl cb12 (madeM_c hS sl)) fun v w114 ⟨ado, co, bT, bQ, bP, bC, hv, hS⟩ => ?_
            subst hv
            refine LW.hv rfl rfl rfl rfl (Hv.alloc ti31 hS) fun v w11 ⟨b11, hv, hb11, hS⟩ => ?_
            subst hv
            refine LW.hu rfl rfl rfl (Hv.storeN (k := 0) ti31 hS rfl rfl rfl rfl (by simp [Value.oneCell'])) fun _ w_3 hS => ?_
            dsimp only [List.set] at hS
            refine LW.nil fun aa ha => hK17 _ _ _ ?_ aa ha
            refine CW.seq fun K18 hK18 => ?_
            have hw0 : (0 : Int) ≤ x.a % 256 ∧ x.a % 256 < 256 := by omega
            obtain ⟨i1, hi1⟩ : ∃ i : Nat, (x.a % 256) % 6 = (i : Int) := ⟨((x.a % 256) % 6).toNat, by omega⟩
            have hi6 : i1 < 6 := by omega
            obtain ⟨s, hs⟩ : ∃ s, s = wordsV.getD i1 ⟨#[]⟩ := ⟨_, rfl⟩
            have hstr : ∀ k, k = i1 → ([.string ⟨#[97, 98, 99]⟩, .string ⟨#[97, 98, 99, 100, 101]⟩, .string ⟨#[99, 98]⟩, .string ⟨#[97, 97, 98]⟩, .string ⟨#[97]⟩, .string ⟨#[97, 98]⟩] : List Value)[0 + k * 1]? = some (.string s) := by
              intro k hk
              subst hk
              rw [hs]
              match k, hi6 with
              | 0, _ => rfl
              | 1, _ => rfl
              | 2, _ => rfl
              | 3, _ => rfl
              | 4, _ => rfl
              | 5, _ => rfl
            have hS := hS.drew
            refine CW.draw 11 (.ex 0 <| .ex 1 <| .ex 3 <| .ex 4 <| .ex 5 <| .ex 6 <| .one 2 <| .ex 7 <| .one 8 <| .ex 9 <| .ex 10 <| .done) [11] (Rd _ _) mixed (by kernel_rfl) rfl rfl hS.rd ?_
            refine PW.ex rfl rfl rfl rfl (Ex.fieldO 2 Try.underlying31 rfl rfl ti29 rfl) ?_
            refine PW.ex rfl rfl rfl rfl (Ex.load1 ti29 rfl rfl (by first | exact ob 0 rfl rfl | exact ob 1 rfl rfl | exact ob 2 rfl rfl | exact ob 3 rfl rfl | exact ob 4 rfl rfl | exact ob 5 rfl rfl | exact ob 6 rfl rfl | exact ob 7 rfl rfl | exact ob 8 rfl rfl | exact ob 9 rfl rfl | exact Rd.imm (by assumption) | exact sb 0 rfl (by assumption) | exact sb 1 rfl (by assumption) | exact sb 2 rfl (by assumption) | exact sb 3 rfl (by assumption) | exact sb 4 rfl (by assumption) | exact sb 5 rfl (by assumption))) ?_
            refine PW.ex rfl rfl rfl rfl (Ex.indexArr (j := 0) Try.underlying52 ti24 rfl rfl rfl (by omega)) ?_
            refine PW.ex rfl rfl rfl rfl (Ex.load1 ti24 rfl rfl (by first | exact ob 0 rfl rfl | exact ob 1 rfl rfl | exact ob 2 rfl rfl | exact ob 3 rfl rfl | exact ob 4 rfl rfl | exact ob 5 rfl rfl | exact ob 6 rfl rfl | exact ob 7 rfl rfl | exact ob 8 rfl rfl | exact ob 9 rfl rfl | exact Rd.imm (by assumption) | exact sb 0 rfl (by assumption) | exact sb 1 rfl (by assumption) | exact sb 2 rfl (by assumption) | exact sb 3 rfl (by assumption) | exact sb 4 rfl (by assumption) | exact sb 5 rfl (by assumption))) ?_
            refine PW.ex rfl rfl rfl rfl (Ex.conv Try.underlying24 Try.underlying5 rfl (wu8m _)) ?_
            refine PW.ex rfl rfl rfl rfl (Ex.rem rfl rfl (by omega) (show _ = (i1 : Int) from by rw [tmod_pos (by omega)]; exact hi1)) ?_
            refine PW.hv rfl rfl rfl rfl (Hv.buildSl hS Try.underlying58 ti9 rfl rfl rfl rfl rfl rfl) (fun _ _ ⟨_, _, _, h⟩ => h.rd.tail) fun v w117 ⟨b117, hv, hb117, hS⟩ => ?_
            subst hv
            refine PW.ex rfl rfl rfl rfl (Ex.indexSl Try.underlying58 ti9 rfl rfl rfl hi6) ?_
            refine PW.hv rfl rfl rfl rfl (Hv.ofEx (Ex.load1 ti9 rfl rfl (ob 0 rfl (hstr i1 rfl))) hS.rd) (fun _ _ h => h.2 ▸ hS.rd.tail) fun v w123 ⟨hv, hw⟩ => ?_
            subst hv
            subst hw
            refine PW.ex rfl rfl rfl rfl (Ex.indexSl (j := 1) Try.underlying29 ti60 rfl rfl rfl (by omega)) ?_
            refine PW.ex rfl rfl rfl rfl (Ex.fieldO 0 Try.underlying60 rfl rfl ti9 rfl) ?_
            refine PW.nil ?_
            have hcc : chordsM.flatMap chordKeyL = [.string ⟨#[97, 98]⟩, .int .u8 99, .string ⟨#[97, 98, 99]⟩, .int .u8 97] := rfl
            rw [hcc] at hS
            refine LW.hu rfl rfl rfl (Hv.storeObj (k := 6) ti9 hS rfl rfl rfl rfl (by first | (simp; done) | omega)) fun _ w_11 hS => ?_
            dsimp only [List.set] at hS
            refine LW.nil fun aa ha => hK18 _ _ _ ?_ aa ha
            refine CW.seq fun K19 hK19 => ?_
            have hS := hS.drop 0 rfl
            dsimp only [List.eraseIdx] at hS
            obtain ⟨i2, hi2⟩ : ∃ i : Nat, (x.b % 256) % 3 = (i : Int) := ⟨((x.b % 256) % 3).toNat, by omega⟩
            have hi3 : i2 < 3 := by omega
            have hS := hS.drew
            refine CW.draw 14 (.ex 0 <| .ex 1 <| .ex 2 <| .ex 3 <| .ex 4 <| .ex 5 <| .ex 6 <| .ex 7 <| .ex 8 <| .ex 9 <| .ex 10 <| .ex 11 <| .ex 12 <| .ex 13 <| .done) [14] (Rd _ _) mixed (by kernel_rfl) rfl rfl hS.rd ?_
            refine PW.ex rfl rfl rfl rfl (Ex.fieldO 1 Try.underlying31 rfl rfl ti28 rfl) ?_
            refine PW.ex rfl rfl rfl rfl (Ex.load1 ti28 rfl rfl (by first | exact ob 0 rfl rfl | exact ob 1 rfl rfl | exact ob 2 rfl rfl | exact ob 3 rfl rfl | exact ob 4 rfl rfl | exact ob 5 rfl rfl | exact ob 6 rfl rfl | exact ob 7 rfl rfl | exact ob 8 rfl rfl | exact ob 9 rfl rfl | exact Rd.imm (by assumption) | exact sb 0 rfl (by assumption) | exact sb 1 rfl (by assumption) | exact sb 2 rfl (by assumption) | exact sb 3 rfl (by assumption) | exact sb 4 rfl (by assumption) | exact sb 5 rfl (by assumption))) ?_
            refine PW.ex rfl rfl rfl rfl (Ex.fieldO 1 Try.underlying31 rfl rfl ti28 rfl) ?_
            refine PW.ex rfl rfl rfl rfl (Ex.load1 ti28 rfl rfl (by first | exact ob 0 rfl rfl | exact ob 1 rfl rfl | exact ob 2 rfl rfl | exact ob 3 rfl rfl | exact ob 4 rfl rfl | exact ob 5 rfl rfl | exact ob 6 rfl rfl | exact ob 7 rfl rfl | exact ob 8 rfl rfl | exact ob 9 rfl rfl | exact Rd.imm (by assumption) | exact sb 0 rfl (by assumption) | exact sb 1 rfl (by assumption) | exact sb 2 rfl (by assumption) | exact sb 3 rfl (by assumption) | exact sb 4 rfl (by assumption) | exact sb 5 rfl (by assumption))) ?_
            refine PW.ex rfl rfl rfl rfl (Ex.indexSl (j := 0) Try.underlying28 ti55 rfl rfl rfl (by omega)) ?_
            refine PW.ex rfl rfl rfl rfl (Ex.fieldO 1 Try.underlying55 rfl rfl ti53 rfl) ?_
            refine PW.ex rfl rfl rfl rfl (Ex.load1 ti53 rfl rfl (by first | exact ob 0 rfl rfl | exact ob 1 rfl rfl | exact ob 2 rfl rfl | exact ob 3 rfl rfl | exact ob 4 rfl rfl | exact ob 5 rfl rfl | exact ob 6 rfl rfl | exact ob 7 rfl rfl | exact ob 8 rfl rfl | exact ob 9 rfl rfl | exact Rd.imm (by assumption) | exact sb 0 rfl (by assumption) | exact sb 1 rfl (by assumption) | exact sb 2 rfl (by assumption) | exact sb 3 rfl (by assumption) | exact sb 4 rfl (by assumption) | exact sb 5 rfl (by assumption))) ?_
            refine PW.ex rfl rfl rfl rfl (Ex.indexArr (j := 1) Try.underlying52 ti24 rfl rfl rfl (by omega)) ?_
            refine PW.ex rfl rfl rfl rfl (Ex.load1 ti24 rfl rfl (by first | exact ob 0 rfl rfl | exact ob 1 rfl rfl | exact ob 2 rfl rfl | exact ob 3 rfl rfl | exact ob 4 rfl rfl | exact ob 5 rfl rfl | exact ob 6 rfl rfl | exact ob 7 rfl rfl | exact ob 8 rfl rfl | exact ob 9 rfl rfl | exact Rd.imm (by assumption) | exact sb 0 rfl (by assumption) | exact sb 1 rfl (by assumption) | exact sb 2 rfl (by assumption) | exact sb 3 rfl (by assumption) | exact sb 4 rfl (by assumption) | exact sb 5 rfl (by assumption))) ?_
            refine PW.ex rfl rfl rfl rfl (Ex.conv Try.underlying24 Try.underlying5 rfl (wu8m _)) ?_
            refine PW.ex rfl rfl rfl rfl (Ex.rem rfl rfl (by omega) (show _ = (i2 : Int) from by rw [tmod_pos (by omega)]; exact hi2)) ?_
            refine PW.ex rfl rfl rfl rfl (Ex.sliceTo (j := i2) Try.underlying53 ti36 rfl rfl rfl (by omega)) ?_
            refine PW.ex rfl rfl rfl rfl (Ex.indexSl (j := 0) Try.underlying28 ti55 rfl rfl rfl (by omega)) ?_
            refine PW.ex rfl rfl rfl rfl (Ex.fieldO 1 Try.underlying55 rfl rfl ti53 rfl) ?_
            refine PW.nil ?_
            refine LW.hu rfl rfl rfl (Hv.storeObj (k := 1) ti53 hS rfl rfl rfl rfl (by first | (simp; done) | omega)) fun _ w_14 hS => ?_
            dsimp only [List.set] at hS
            refine LW.nil fun aa ha => hK19 _ _ _ ?_ aa ha
            refine CW.seq fun K20 hK20 => ?_
            obtain ⟨bs, μ1, hm1, hS, hφ⟩ := hS.shut 4 rfl
            dsimp only [List.eraseIdx] at hS
            have hs0 : Sl μ1 ado co (made l) := Sl.of_own hφ (areaReps _ _) rfl
            obtain ⟨μ2, hm2, hS, hs2⟩ := hS.shutRow 2 rfl (ptReps μ1 [⟨20, 0⟩, ⟨0, 20⟩, ⟨20, 40⟩]) (by simp [maxLen])
            dsimp only [List.eraseIdx] at hS
            obtain ⟨μ3, hm3, hS, hs3⟩ := hS.shutRow 2 rfl (ptReps μ2 [⟨0, 0⟩, ⟨20, 20⟩]) (by simp [maxLen])
            dsimp only [List.eraseIdx] at hS
            obtain ⟨pk, hpk⟩ : ∃ pk : List Pt, pk = [⟨0, 0⟩, ⟨20, 20⟩].take i2 := ⟨_, rfl⟩
            have hpl : pk.length = i2 := by rw [hpk, List.length_take]; simp; omega
            have hs3k : Sl μ3 (some ⟨bP, 0, none⟩) 2 pk := by rw [hpk]; exact hs3.take i2
            have hrp : RepL μ3 [.int .u8 97, .slice (some ⟨bP, 0, none⟩) i2 2, .int .u8 98, .slice (some ⟨bQ, 0, none⟩) 3 3] ([⟨97, pk⟩, ⟨98, [⟨20, 0⟩, ⟨0, 20⟩, ⟨20, 40⟩]⟩] : List Tpl) := ((RepL.nil (α := Tpl) μ3).snoc (vs := [.int .u8 97, .slice (some ⟨bP, 0, none⟩) i2 2]) (x := (⟨97, pk⟩ : Tpl)) rfl ⟨rfl, _, _, by rw [← hpl]; rfl, hs3k⟩).snoc (vs := [.int .u8 98, .slice (some ⟨bQ, 0, none⟩) 3 3]) (x := (⟨98, [⟨20, 0⟩, ⟨0, 20⟩, ⟨20, 40⟩]⟩ : Tpl)) rfl ⟨rfl, _, _, rfl, hs2.mono hm3⟩
            obtain ⟨μ4, hm4, hS, hs4⟩ := hS.shutRow 1 rfl hrp (by simp [maxLen])
            dsimp only [List.eraseIdx] at hS
            obtain ⟨μ5, hm5, hS, hs5⟩ := hS.shutRow 1 rfl (chordKeyReps μ4 [⟨⟨#[97, 98]⟩, 99⟩, ⟨s, 97⟩]) (by simp [maxLen])
            dsimp only [List.eraseIdx] at hS
            have hme5 := (((hm1.trans hm2).trans hm3).trans hm4).trans hm5
            have hs0 := (((hs0.mono hm2).mono hm3).mono hm4).mono hm5
            have hs4 := hs4.mono hm5
            have hb0 := hb0.mono hme5
            have hb1 := hb1.mono hme5
            have hb2 := hb2.mono hme5
            have hsc := hsc.mono hme5
            have hd1 := hd1.mono hme5
            have hd2 := hd2.mono hme5
            have sl := sl.mono hme5
            have hS := hS.drew
            refine CW.draw 28 (.ex 0 <| .ex 2 <| .one 1 <| .one 3 <| .ex 4 <| .ex 5 <| .ex 6 <| .ex 8 <| .one 7 <| .one 9 <| .ex 10 <| .ex 11 <| .ex 12 <| .ex 13 <| .ex 15 <| .one 14 <| .one 16 <| .ex 17 <| .ex 18 <| .ex 19 <| .ex 20 <| .one 21 <| .one 22 <| .ex 23 <| .ex 24 <| .ex 25 <| .ex 26 <| .ex 27 <| .done) [] (Rd _ _) mixed (by kernel_rfl) rfl rfl hS.rd ?_
            refine PW.ex rfl rfl rfl rfl (Ex.load3c ti31 rfl rfl (by first | exact ob 0 rfl rfl | exact ob 1 rfl rfl | exact ob 2 rfl rfl | exact ob 3 rfl rfl | exact ob 4 rfl rfl | exact ob 5 rfl rfl | exact ob 6 rfl rfl | exact ob 7 rfl rfl | exact ob 8 rfl rfl | exact ob 9 rfl rfl | exact Rd.imm (by assumption) | exact sb 0 rfl (by assumption) | exact sb 1 rfl (by assumption) | exact sb 2 rfl (by assumption) | exact sb 3 rfl (by assumption) | exact sb 4 rfl (by assumption) | exact sb 5 rfl (by assumption)) (by first | exact ob 0 rfl rfl | exact ob 1 rfl rfl | exact ob 2 rfl rfl | exact ob 3 rfl rfl | exact ob 4 rfl rfl | exact ob 5 rfl rfl | exact ob 6 rfl rfl | exact ob 7 rfl rfl | exact ob 8 rfl rfl | exact ob 9 rfl rfl | exact Rd.imm (by assumption) | exact sb 0 rfl (by assumption) | exact sb 1 rfl (by assumption) | exact sb 2 rfl (by assumption) | exact sb 3 rfl (by assumption) | exact sb 4 rfl (by assumption) | exact sb 5 rfl (by assumption)) (by first | exact ob 0 rfl rfl | exact ob 1 rfl rfl | exact ob 2 rfl rfl | exact ob 3 rfl rfl | exact ob 4 rfl rfl | exact ob 5 rfl rfl | exact ob 6 rfl rfl | exact ob 7 rfl rfl | exact ob 8 rfl rfl | exact ob 9 rfl rfl | exact Rd.imm (by assumption) | exact sb 0 rfl (by assumption) | exact sb 1 rfl (by assumption) | exact sb 2 rfl (by assumption) | exact sb 3 rfl (by assumption) | exact sb 4 rfl (by assumption) | exact sb 5 rfl (by assumption))) ?_
            refine PW.ex rfl rfl rfl rfl (Ex.load3c ti31 rfl rfl (by first | exact ob 0 rfl rfl | exact ob 1 rfl rfl | exact ob 2 rfl rfl | exact ob 3 rfl rfl | exact ob 4 rfl rfl | exact ob 5 rfl rfl | exact ob 6 rfl rfl | exact ob 7 rfl rfl | exact ob 8 rfl rfl | exact ob 9 rfl rfl | exact Rd.imm (by assumption) | exact sb 0 rfl (by assumption) | exact sb 1 rfl (by assumption) | exact sb 2 rfl (by assumption) | exact sb 3 rfl (by assumption) | exact sb 4 rfl (by assumption) | exact sb 5 rfl (by assumption)) (by first | exact ob 0 rfl rfl | exact ob 1 rfl rfl | exact ob 2 rfl rfl | exact ob 3 rfl rfl | exact ob 4 rfl rfl | exact ob 5 rfl rfl | exact ob 6 rfl rfl | exact ob 7 rfl rfl | exact ob 8 rfl rfl | exact ob 9 rfl rfl | exact Rd.imm (by assumption) | exact sb 0 rfl (by assumption) | exact sb 1 rfl (by assumption) | exact sb 2 rfl (by assumption) | exact sb 3 rfl (by assumption) | exact sb 4 rfl (by assumption) | exact sb 5 rfl (by assumption)) (by first | exact ob 0 rfl rfl | exact ob 1 rfl rfl | exact ob 2 rfl rfl | exact ob 3 rfl rfl | exact ob 4 rfl rfl | exact ob 5 rfl rfl | exact ob 6 rfl rfl | exact ob 7 rfl rfl | exact ob 8 rfl rfl | exact ob 9 rfl rfl | exact Rd.imm (by assumption) | exact sb 0 rfl (by assumption) | exact sb 1 rfl (by assumption) | exact sb 2 rfl (by assumption) | exact sb 3 rfl (by assumption) | exact sb 4 rfl (by assumption) | exact sb 5 rfl (by assumption))) ?_
            refine PW.hv rfl rfl rfl rfl (Hv.callS hS rfl rfl rfl cb23 (valid_c b _ _ _ _ _ _ _ _ hS.imm hb0 hb1 hb2)) (fun _ _ h => h.2.rd) fun v w141 ⟨hv, hS⟩ => ?_
            subst hv
            refine PW.hv rfl rfl rfl rfl (Hv.callS hS rfl rfl rfl cb24 (refvalid_c b _ _ _ _ _ _ _ _ hS.imm hb0 hb1 hb2)) (fun _ _ h => h.2.rd) fun v w143 ⟨hv, hS⟩ => ?_
            subst hv
            refine PW.ex rfl rfl rfl rfl (Ex.eqlB Try.underlying4 rfl rfl rfl) ?_
            refine PW.splitB (fun h17_4 => ?_) (fun h17_4 => ?_)
            · skip
              refine PW.ex rfl rfl rfl rfl (Ex.move rfl) ?_
              refine PW.ex rfl rfl rfl rfl (Ex.load3c ti31 rfl rfl (by first | exact ob 0 rfl rfl | exact ob 1 rfl rfl | exact ob 2 rfl rfl | exact ob 3 rfl rfl | exact ob 4 rfl rfl | exact ob 5 rfl rfl | exact ob 6 rfl rfl | exact ob 7 rfl rfl | exact ob 8 rfl rfl | exact ob 9 rfl rfl | exact Rd.imm (by assumption) | exact sb 0 rfl (by assumption) | exact sb 1 rfl (by assumption) | exact sb 2 rfl (by assumption) | exact sb 3 rfl (by assumption) | exact sb 4 rfl (by assumption) | exact sb 5 rfl (by assumption)) (by first | exact ob 0 rfl rfl | exact ob 1 rfl rfl | exact ob 2 rfl rfl | exact ob 3 rfl rfl | exact ob 4 rfl rfl | exact ob 5 rfl rfl | exact ob 6 rfl rfl | exact ob 7 rfl rfl | exact ob 8 rfl rfl | exact ob 9 rfl rfl | exact Rd.imm (by assumption) | exact sb 0 rfl (by assumption) | exact sb 1 rfl (by assumption) | exact sb 2 rfl (by assumption) | exact sb 3 rfl (by assumption) | exact sb 4 rfl (by assumption) | exact sb 5 rfl (by assumption)) (by first | exact ob 0 rfl rfl | exact ob 1 rfl rfl | exact ob 2 rfl rfl | exact ob 3 rfl rfl | exact ob 4 rfl rfl | exact ob 5 rfl rfl | exact ob 6 rfl rfl | exact ob 7 rfl rfl | exact ob 8 rfl rfl | exact ob 9 rfl rfl | exact Rd.imm (by assumption) | exact sb 0 rfl (by assumption) | exact sb 1 rfl (by assumption) | exact sb 2 rfl (by assumption) | exact sb 3 rfl (by assumption) | exact sb 4 rfl (by assumption) | exact sb 5 rfl (by assumption))) ?_
              refine PW.ex rfl rfl rfl rfl (Ex.load3c ti31 rfl rfl (by first | exact ob 0 rfl rfl | exact ob 1 rfl rfl | exact ob 2 rfl rfl | exact ob 3 rfl rfl | exact ob 4 rfl rfl | exact ob 5 rfl rfl | exact ob 6 rfl rfl | exact ob 7 rfl rfl | exact ob 8 rfl rfl | exact ob 9 rfl rfl | exact Rd.imm (by assumption) | exact sb 0 rfl (by assumption) | exact sb 1 rfl (by assumption) | exact sb 2 rfl (by assumption) | exact sb 3 rfl (by assumption) | exact sb 4 rfl (by assumption) | exact sb 5 rfl (by assumption)) (by first | exact ob 0 rfl rfl | exact ob 1 rfl rfl | exact ob 2 rfl rfl | exact ob 3 rfl rfl | exact ob 4 rfl rfl | exact ob 5 rfl rfl | exact ob 6 rfl rfl | exact ob 7 rfl rfl | exact ob 8 rfl rfl | exact ob 9 rfl rfl | exact Rd.imm (by assumption) | exact sb 0 rfl (by assumption) | exact sb 1 rfl (by assumption) | exact sb 2 rfl (by assumption) | exact sb 3 rfl (by assumption) | exact sb 4 rfl (by assumption) | exact sb 5 rfl (by assumption)) (by first | exact ob 0 rfl rfl | exact ob 1 rfl rfl | exact ob 2 rfl rfl | exact ob 3 rfl rfl | exact ob 4 rfl rfl | exact ob 5 rfl rfl | exact ob 6 rfl rfl | exact ob 7 rfl rfl | exact ob 8 rfl rfl | exact ob 9 rfl rfl | exact Rd.imm (by assumption) | exact sb 0 rfl (by assumption) | exact sb 1 rfl (by assumption) | exact sb 2 rfl (by assumption) | exact sb 3 rfl (by assumption) | exact sb 4 rfl (by assumption) | exact sb 5 rfl (by assumption))) ?_
              refine PW.hv rfl rfl rfl rfl (Hv.callS hS rfl rfl rfl cb23 (valid_c ⟨La, tplsM, chordsM⟩ _ _ _ _ _ _ _ _ hS.imm hsc hd1 hd2)) (fun _ _ h => h.2.rd) fun v w147 ⟨hv, hS⟩ => ?_
              subst hv
              refine PW.hv rfl rfl rfl rfl (Hv.callS hS rfl rfl rfl cb24 (refvalid_c ⟨La, tplsM, chordsM⟩ _ _ _ _ _ _ _ _ hS.imm hsc hd1 hd2)) (fun _ _ h => h.2.rd) fun v w149 ⟨hv, hS⟩ => ?_
              subst hv
              refine PW.ex rfl rfl rfl rfl (Ex.eqlB Try.underlying4 rfl rfl rfl) ?_
              refine PW.splitB (fun h17_10 => ?_) (fun h17_10 => ?_)
              · skip
                refine PW.ex rfl rfl rfl rfl (by first | exact Ex.pick_yes rfl rfl | exact Ex.pick_no rfl rfl) ?_
                refine PW.ex rfl rfl rfl rfl (Ex.move rfl) ?_
                refine PW.ex rfl rfl rfl rfl (Ex.load3c ti31 rfl rfl (by first | exact ob 0 rfl rfl | exact ob 1 rfl rfl | exact ob 2 rfl rfl | exact ob 3 rfl rfl | exact ob 4 rfl rfl | exact ob 5 rfl rfl | exact ob 6 rfl rfl | exact ob 7 rfl rfl | exact ob 8 rfl rfl | exact ob 9 rfl rfl | exact Rd.imm (by assumption) | exact sb 0 rfl (by assumption) | exact sb 1 rfl (by assumption) | exact sb 2 rfl (by assumption) | exact sb 3 rfl (by assumption) | exact sb 4 rfl (by assumption) | exact sb 5 rfl (by assumption)) (by first | exact ob 0 rfl rfl | exact ob 1 rfl rfl | exact ob 2 rfl rfl | exact ob 3 rfl rfl | exact ob 4 rfl rfl | exact ob 5 rfl rfl | exact ob 6 rfl rfl | exact ob 7 rfl rfl | exact ob 8 rfl rfl | exact ob 9 rfl rfl | exact Rd.imm (by assumption) | exact sb 0 rfl (by assumption) | exact sb 1 rfl (by assumption) | exact sb 2 rfl (by assumption) | exact sb 3 rfl (by assumption) | exact sb 4 rfl (by assumption) | exact sb 5 rfl (by assumption)) (by first | exact ob 0 rfl rfl | exact ob 1 rfl rfl | exact ob 2 rfl rfl | exact ob 3 rfl rfl | exact ob 4 rfl rfl | exact ob 5 rfl rfl | exact ob 6 rfl rfl | exact ob 7 rfl rfl | exact ob 8 rfl rfl | exact ob 9 rfl rfl | exact Rd.imm (by assumption) | exact sb 0 rfl (by assumption) | exact sb 1 rfl (by assumption) | exact sb 2 rfl (by assumption) | exact sb 3 rfl (by assumption) | exact sb 4 rfl (by assumption) | exact sb 5 rfl (by assumption))) ?_
                refine PW.ex rfl rfl rfl rfl (Ex.load3c ti31 rfl rfl (by first | exact ob 0 rfl rfl | exact ob 1 rfl rfl | exact ob 2 rfl rfl | exact ob 3 rfl rfl | exact ob 4 rfl rfl | exact ob 5 rfl rfl | exact ob 6 rfl rfl | exact ob 7 rfl rfl | exact ob 8 rfl rfl | exact ob 9 rfl rfl | exact Rd.imm (by assumption) | exact sb 0 rfl (by assumption) | exact sb 1 rfl (by assumption) | exact sb 2 rfl (by assumption) | exact sb 3 rfl (by assumption) | exact sb 4 rfl (by assumption) | exact sb 5 rfl (by assumption)) (by first | exact ob 0 rfl rfl | exact ob 1 rfl rfl | exact ob 2 rfl rfl | exact ob 3 rfl rfl | exact ob 4 rfl rfl | exact ob 5 rfl rfl | exact ob 6 rfl rfl | exact ob 7 rfl rfl | exact ob 8 rfl rfl | exact ob 9 rfl rfl | exact Rd.imm (by assumption) | exact sb 0 rfl (by assumption) | exact sb 1 rfl (by assumption) | exact sb 2 rfl (by assumption) | exact sb 3 rfl (by assumption) | exact sb 4 rfl (by assumption) | exact sb 5 rfl (by assumption)) (by first | exact ob 0 rfl rfl | exact ob 1 rfl rfl | exact ob 2 rfl rfl | exact ob 3 rfl rfl | exact ob 4 rfl rfl | exact ob 5 rfl rfl | exact ob 6 rfl rfl | exact ob 7 rfl rfl | exact ob 8 rfl rfl | exact ob 9 rfl rfl | exact Rd.imm (by assumption) | exact sb 0 rfl (by assumption) | exact sb 1 rfl (by assumption) | exact sb 2 rfl (by assumption) | exact sb 3 rfl (by assumption) | exact sb 4 rfl (by assumption) | exact sb 5 rfl (by assumption))) ?_
                refine PW.hv rfl rfl rfl rfl (Hv.callS hS rfl rfl rfl cb23 (valid_c ⟨made l, [⟨97, pk⟩, ⟨98, [⟨20, 0⟩, ⟨0, 20⟩, ⟨20, 40⟩]⟩], [⟨⟨#[97, 98]⟩, 99⟩, ⟨s, 97⟩]⟩ _ _ _ _ _ _ _ _ hS.imm hs0 hs4 hs5)) (fun _ _ h => h.2.rd) fun v w154 ⟨hv, hS⟩ => ?_
                subst hv
                refine PW.hv rfl rfl rfl rfl (Hv.callS hS rfl rfl rfl cb24 (refvalid_c ⟨made l, [⟨97, pk⟩, ⟨98, [⟨20, 0⟩, ⟨0, 20⟩, ⟨20, 40⟩]⟩], [⟨⟨#[97, 98]⟩, 99⟩, ⟨s, 97⟩]⟩ _ _ _ _ _ _ _ _ hS.imm hs0 hs4 hs5)) (fun _ _ h => h.2.rd) fun v w156 ⟨hv, hS⟩ => ?_
                subst hv
                refine PW.ex rfl rfl rfl rfl (Ex.eqlB Try.underlying4 rfl rfl rfl) ?_
                refine PW.splitB (fun h17_17 => ?_) (fun h17_17 => ?_)
                · skip
                  refine PW.ex rfl rfl rfl rfl (by first | exact Ex.pick_yes rfl rfl | exact Ex.pick_no rfl rfl) ?_
                  refine PW.ex rfl rfl rfl rfl (Ex.move rfl) ?_
                  refine PW.ex rfl rfl rfl rfl (Ex.move rfl) ?_
                  refine PW.hv rfl rfl rfl rfl (Hv.callV hS rfl rfl rfl cb12 (made_c l _ _ _ _ hS.imm sl)) (fun _ _ ⟨_, _, hm, h⟩ => Rd.le hm h.rd) fun v w161 ⟨μ161, hv161, hm161, hS⟩ => ?_
                  obtain ⟨g0, f0, g1, f1, g2, f2, hv, hg0, hg1, hg2⟩ := hv161
                  subst hv
                  refine PW.hv rfl rfl rfl rfl (Hv.callS hS rfl rfl rfl cb23 (valid_c (madeB l) _ _ _ _ _ _ _ _ hS.imm hg0 hg1 hg2)) (fun _ _ h => Rd.le hm161 (h.2.rd)) fun v w162 ⟨hv, hS⟩ => ?_
                  subst hv
                  refine PW.splitB (fun h17_22 => ?_) (fun h17_22 => ?_)
                  · skip
                    refine PW.ex rfl rfl rfl rfl (by first | exact Ex.pick_yes rfl rfl | exact Ex.pick_no rfl rfl) ?_
                    refine PW.ex rfl rfl rfl rfl (Ex.move rfl) ?_
                    refine PW.ex rfl rfl rfl rfl (Ex.move rfl) ?_
                    refine PW.ex rfl rfl rfl rfl (by first | exact Ex.pick_yes rfl rfl | exact Ex.pick_no rfl rfl) ?_
                    refine PW.ex rfl rfl rfl rfl (Ex.assign rfl) ?_
                    refine PW.nil ?_
                    refine LW.nil fun aa ha => hK20 _ _ _ ?_ aa ha
                    refine CW.ret fun aa ha => ?_
                    refine ret_one ha Try.results4 rfl ?_
                    exact hS.retS
                  · rw [made_valid] at h17_22; cases h17_22
                · exact (same_valid h17_17).elim
              · exact (same_valid h17_10).elim
            · exact (same_valid h17_4).elim
          refine CW.seq fun K21 hK21 => ?_
          refine CW.region [0, 1, 2, 3] rfl ?_
          refine LW.ex rfl rfl rfl rfl (Ex.fieldO 0 Try.underlying31 rfl rfl ti27 rfl) hS.rd ?_
          refine LW.ex rfl rfl rfl rfl (Ex.load1 ti27 rfl rfl (by first | exact ob 0 rfl rfl | exact ob 1 rfl rfl | exact ob 2 rfl rfl | exact ob 3 rfl rfl | exact ob 4 rfl rfl | exact ob 5 rfl rfl | exact ob 6 rfl rfl | exact ob 7 rfl rfl | exact ob 8 rfl rfl | exact ob 9 rfl rfl | exact Rd.imm (by assumption) | exact sb 0 rfl (by assumption) | exact sb 1 rfl (by assumption) | exact sb 2 rfl (by assumption) | exact sb 3 rfl (by assumption) | exact sb 4 rfl (by assumption) | exact sb 5 rfl (by assumption))) hS.rd ?_
          refine LW.ex rfl rfl rfl rfl (Ex.lenSl rfl Try.underlying27 rfl) hS.rd ?_
          refine LW.ex rfl rfl rfl rfl (Ex.gtr rfl rfl rfl) hS.rd ?_
          refine LW.splitB (fun h10_3 => ?_) (fun h10_3 => ?_)
          · have h10_3 := of_decide_eq_true h10_3
            refine LW.nil fun aa ha => hK21 _ _ _ ?_ aa ha
            refine CW.yes rfl ?_
            refine CW.seq fun K22 hK22 => ?_
            refine CW.region [0, 1, 2, 3, 4, 5] rfl ?_
            refine LW.hv rfl rfl rfl rfl (Hv.buildSl hS Try.underlying27 ti57 rfl rfl rfl rfl rfl rfl) fun v w52 ⟨b52, hv, hb52, hS⟩ => ?_
            subst hv
            have hS := hS.row_sl (k := 0) rfl 0 5 rfl (by simp [maxLen])
            dsimp only [List.set] at hS
            refine LW.ex rfl rfl rfl rfl (Ex.fieldO 0 Try.underlying31 rfl rfl ti27 rfl) hS.rd ?_
            refine LW.ex rfl rfl rfl rfl (Ex.load1 ti27 rfl rfl (by first | exact ob 0 rfl rfl | exact ob 1 rfl rfl | exact ob 2 rfl rfl | exact ob 3 rfl rfl | exact ob 4 rfl rfl | exact ob 5 rfl rfl | exact ob 6 rfl rfl | exact ob 7 rfl rfl | exact ob 8 rfl rfl | exact ob 9 rfl rfl | exact Rd.imm (by assumption) | exact sb 0 rfl (by assumption) | exact sb 1 rfl (by assumption) | exact sb 2 rfl (by assumption) | exact sb 3 rfl (by assumption) | exact sb 4 rfl (by assumption) | exact sb 5 rfl (by assumption))) hS.rd ?_
            refine LW.hv rfl rfl rfl rfl (Hv.appendFlat (enc := areaL) (k := 0) (ys := []) (h0 := by decide) areaL_len areaEnc areaOnes rfl Try.underlying27 ti57 rfl hS rfl hd0 rfl rfl (by unfold maxLen; omega) (by omega)) fun v w55 ⟨ad55, c55, hv, hS⟩ => ?_
            subst hv
            dsimp only [List.set] at hS
            have hS : St w w55 μ47 [Own.sl ad55 (made l).length c55 57 5 ((made l).flatMap areaL), Own.obj b9 [.slice a0 (made l).length c0, .slice a1 2 c1, .slice a2 2 c2] 31, Own.obj b5 [.int .i16 x.a, .int .i16 x.b, .int .i16 x.c, .int .i16 x.d] 52, Own.obj b3 [.slice p0 b.Areas.length q0, .slice p1 b.Templates.length q1, .slice p2 b.Chords.length q2] 31] := by rw [Nat.zero_add, List.nil_append] at hS; exact hS
            rw [Nat.zero_add]
            refine LW.ex rfl rfl rfl rfl (Ex.fieldO 0 Try.underlying31 rfl rfl ti27 rfl) hS.rd ?_
            refine LW.hu rfl rfl rfl (Hv.storeObj (k := 1) ti27 hS rfl rfl rfl rfl (by first | (simp; done) | omega)) fun _ w_5 hS => ?_
            dsimp only [List.set] at hS
            refine LW.nil fun aa ha => hK22 _ _ _ ?_ aa ha
            refine CW.seq fun K23 hK23 => ?_
            have hpos : 0 < (made l).length := by omega
            have hw0 : (0 : Int) ≤ x.a % 256 ∧ x.a % 256 < 256 := by omega
            obtain ⟨y0, hy0⟩ := u8of hw0
            obtain ⟨i0, hie⟩ : ∃ i, i = y0.toNat % (made l).length := ⟨_, rfl⟩
            have hi0 : i0 < (made l).length := by rw [hie]; exact Nat.mod_lt _ hpos
            have him : (x.a % 256).tmod ((made l).length : Int) = (i0 : Int) := by rw [hy0, tmodN, hie]
            refine CW.region [0, 1, 2, 3, 4, 5, 6, 7, 8] rfl ?_
            refine LW.ex rfl rfl rfl rfl (Ex.indexArr (j := 0) Try.underlying52 ti24 rfl rfl rfl (by omega)) hS.rd ?_
            refine LW.ex rfl rfl rfl rfl (Ex.load1 ti24 rfl rfl (by first | exact ob 0 rfl rfl | exact ob 1 rfl rfl | exact ob 2 rfl rfl | exact ob 3 rfl rfl | exact ob 4 rfl rfl | exact ob 5 rfl rfl | exact ob 6 rfl rfl | exact ob 7 rfl rfl | exact ob 8 rfl rfl | exact ob 9 rfl rfl | exact Rd.imm (by assumption) | exact sb 0 rfl (by assumption) | exact sb 1 rfl (by assumption) | exact sb 2 rfl (by assumption) | exact sb 3 rfl (by assumption) | exact sb 4 rfl (by assumption) | exact sb 5 rfl (by assumption))) hS.rd ?_
            refine LW.ex rfl rfl rfl rfl (Ex.conv Try.underlying24 Try.underlying5 rfl (wu8m _)) hS.rd ?_
            refine LW.ex rfl rfl rfl rfl (Ex.conv Try.underlying5 Try.underlying3 rfl (by first | exact w64 (by omega) (by omega) | exact wu8 (by omega) (by omega))) hS.rd ?_
            refine LW.ex rfl rfl rfl rfl (Ex.fieldO 0 Try.underlying31 rfl rfl ti27 rfl) hS.rd ?_
            refine LW.ex rfl rfl rfl rfl (Ex.load1 ti27 rfl rfl (by first | exact ob 0 rfl rfl | exact ob 1 rfl rfl | exact ob 2 rfl rfl | exact ob 3 rfl rfl | exact ob 4 rfl rfl | exact ob 5 rfl rfl | exact ob 6 rfl rfl | exact ob 7 rfl rfl | exact ob 8 rfl rfl | exact ob 9 rfl rfl | exact Rd.imm (by assumption) | exact sb 0 rfl (by assumption) | exact sb 1 rfl (by assumption) | exact sb 2 rfl (by assumption) | exact sb 3 rfl (by assumption) | exact sb 4 rfl (by assumption) | exact sb 5 rfl (by assumption))) hS.rd ?_
            refine LW.ex rfl rfl rfl rfl (Ex.lenSl rfl Try.underlying27 rfl) hS.rd ?_
            refine LW.ex rfl rfl rfl rfl (Ex.rem rfl rfl (by omega) him) hS.rd ?_
            refine LW.ex rfl rfl rfl rfl (Ex.assign rfl) hS.rd ?_
            refine LW.nil fun aa ha => hK23 _ _ _ ?_ aa ha
            obtain ⟨gA, rfl⟩ := hS.sl_some 0 rfl (by omega)
            obtain ⟨t0, ht0⟩ : ∃ t0, t0 = (made l)[i0] := ⟨_, rfl⟩
            have htb := made_b t0 (by rw [ht0]; exact List.getElem_mem hi0)
            obtain ⟨⟨e1, e2⟩, ⟨e3, e4⟩, ⟨e5, e6⟩, ⟨e7, e8⟩⟩ := htb
            have hset : (made l) = (made l).set i0 t0 := by rw [ht0, List.set_getElem_self]
            have hlen : ∀ t, (((made l).set i0 t).flatMap areaL).length = (made l).length * 5 := fun t => by rw [flatMap_len areaL_len, List.length_set]
            have hl0 := hlen t0
            have hc := fun t j hj => area_cell (made l) i0 t hi0 j hj
            rw [show Own.sl (some ⟨gA, 0, none⟩) (made l).length c55 57 5 ((made l).flatMap areaL) = Own.sl (some ⟨gA, 0, none⟩) (made l).length c55 57 5 (((made l).set i0 t0).flatMap areaL) by rw [← hset]] at hS
            have hq1 := hc t0 1 (by decide)
            have hq3 := hc t0 3 (by decide)
            have hq0 : (((made l).set i0 t0).flatMap areaL)[0 + i0 * 5 + 0]? = some (.int .u8 t0.Key.toNat) := hc t0 0 (by decide)
            have hm1 : x.b.tmod 30 = x.b.tmod 30 ∧ -30 ≤ x.b.tmod 30 ∧ x.b.tmod 30 ≤ 30 := ⟨rfl, by have := Int.tmod_lt_of_pos x.b (show (0 : Int) < 30 by decide); have h2 : (-x.b).tmod 30 = -(x.b.tmod 30) := Int.neg_tmod ..; have := Int.tmod_lt_of_pos (-x.b) (show (0 : Int) < 30 by decide); omega, by have := Int.tmod_lt_of_pos x.b (show (0 : Int) < 30 by decide); omega⟩
            have hm2 : x.c.tmod 30 = x.c.tmod 30 ∧ -30 ≤ x.c.tmod 30 ∧ x.c.tmod 30 ≤ 30 := ⟨rfl, by have := Int.tmod_lt_of_pos x.c (show (0 : Int) < 30 by decide); have h2 : (-x.c).tmod 30 = -(x.c.tmod 30) := Int.neg_tmod ..; have := Int.tmod_lt_of_pos (-x.c) (show (0 : Int) < 30 by decide); omega, by have := Int.tmod_lt_of_pos x.c (show (0 : Int) < 30 by decide); omega⟩
            obtain ⟨m1, hm1e, hm1⟩ : ∃ m, x.b.tmod 30 = m ∧ -30 ≤ m ∧ m ≤ 30 := ⟨_, hm1⟩
            obtain ⟨m2, hm2e, hm2⟩ : ∃ m, x.c.tmod 30 = m ∧ -30 ≤ m ∧ m ≤ 30 := ⟨_, hm2⟩
            obtain ⟨y3, hy3⟩ := u8of (z := (x.d % 256) % 3) (by omega)
            have hS := hS.drew
            refine CW.drawP 44 [3, 4, 5, 6, 7, 8, 26, 27, 28, 29, 30, 37, 38, 39, 40, 41] (.ex 0 <| .ex 1 <| .ex 2 <| .pu 3 <| .pu 4 <| .pu 5 <| .pu 6 <| .pu 7 <| .pu 8 <| .ex 9 <| .ex 10 <| .ex 11 <| .ex 12 <| .ex 13 <| .ex 14 <| .ex 15 <| .ex 16 <| .ex 17 <| .ex 18 <| .ex 19 <| .ex 20 <| .ex 21 <| .ex 22 <| .ex 23 <| .ex 24 <| .ex 25 <| .pu 26 <| .pu 27 <| .pu 28 <| .pu 29 <| .pu 30 <| .ex 31 <| .ex 32 <| .ex 33 <| .ex 34 <| .ex 35 <| .ex 36 <| .pu 37 <| .pu 38 <| .pu 39 <| .pu 40 <| .pu 41 <| .ex 42 <| .ex 43 <| .done) [44, 45, 46, 47, 48, 49, 50] (Rd _ _) (Rd _ _) mixed (by kernel_rfl) rfl rfl (hS.rd.erase 0) hS.rd ?_
            refine QW.ex rfl rfl rfl rfl (Ex.fieldO 0 Try.underlying31 rfl rfl ti27 rfl) ?_
            refine QW.ex rfl rfl rfl rfl (Ex.load1 ti27 rfl rfl (by first | exact ob 0 rfl rfl | exact ob 1 rfl rfl | exact ob 2 rfl rfl | exact ob 3 rfl rfl | exact ob 4 rfl rfl | exact ob 5 rfl rfl | exact ob 6 rfl rfl | exact ob 7 rfl rfl | exact ob 8 rfl rfl | exact ob 9 rfl rfl | exact Rd.imm (by assumption) | exact sb 0 rfl (by assumption) | exact sb 1 rfl (by assumption) | exact sb 2 rfl (by assumption) | exact sb 3 rfl (by assumption) | exact sb 4 rfl (by assumption) | exact sb 5 rfl (by assumption))) ?_
            refine QW.ex rfl rfl rfl rfl (Ex.move rfl) ?_
            refine QW.pu rfl rfl rfl rfl (Ex.fieldO 0 Try.underlying31 rfl rfl ti27 rfl) ?_
            refine QW.pu rfl rfl rfl rfl (Ex.load1 ti27 rfl rfl (by first | exact ob 0 rfl rfl | exact ob 1 rfl rfl | exact ob 2 rfl rfl | exact ob 3 rfl rfl | exact ob 4 rfl rfl | exact ob 5 rfl rfl | exact ob 6 rfl rfl | exact ob 7 rfl rfl | exact ob 8 rfl rfl | exact ob 9 rfl rfl | exact Rd.imm (by assumption) | exact sb 0 rfl (by assumption) | exact sb 1 rfl (by assumption) | exact sb 2 rfl (by assumption) | exact sb 3 rfl (by assumption) | exact sb 4 rfl (by assumption) | exact sb 5 rfl (by assumption))) ?_
            refine QW.pu rfl rfl rfl rfl (Ex.move rfl) ?_
            refine QW.pu rfl rfl rfl rfl (Ex.fieldO 0 Try.underlying31 rfl rfl ti27 rfl) ?_
            refine QW.pu rfl rfl rfl rfl (Ex.load1 ti27 rfl rfl (by first | exact ob 0 rfl rfl | exact ob 1 rfl rfl | exact ob 2 rfl rfl | exact ob 3 rfl rfl | exact ob 4 rfl rfl | exact ob 5 rfl rfl | exact ob 6 rfl rfl | exact ob 7 rfl rfl | exact ob 8 rfl rfl | exact ob 9 rfl rfl | exact Rd.imm (by assumption) | exact sb 0 rfl (by assumption) | exact sb 1 rfl (by assumption) | exact sb 2 rfl (by assumption) | exact sb 3 rfl (by assumption) | exact sb 4 rfl (by assumption) | exact sb 5 rfl (by assumption))) ?_
            refine QW.pu rfl rfl rfl rfl (Ex.move rfl) ?_
            refine QW.ex rfl rfl rfl rfl (Ex.fieldO 0 Try.underlying31 rfl rfl ti27 rfl) ?_
            refine QW.ex rfl rfl rfl rfl (Ex.load1 ti27 rfl rfl (by first | exact ob 0 rfl rfl | exact ob 1 rfl rfl | exact ob 2 rfl rfl | exact ob 3 rfl rfl | exact ob 4 rfl rfl | exact ob 5 rfl rfl | exact ob 6 rfl rfl | exact ob 7 rfl rfl | exact ob 8 rfl rfl | exact ob 9 rfl rfl | exact Rd.imm (by assumption) | exact sb 0 rfl (by assumption) | exact sb 1 rfl (by assumption) | exact sb 2 rfl (by assumption) | exact sb 3 rfl (by assumption) | exact sb 4 rfl (by assumption) | exact sb 5 rfl (by assumption))) ?_
            refine QW.ex rfl rfl rfl rfl (Ex.move rfl) ?_
            refine QW.ex rfl rfl rfl rfl (Ex.indexSl Try.underlying27 ti57 rfl rfl rfl hi0) ?_
            refine QW.ex rfl rfl rfl rfl (Ex.fieldO 1 Try.underlying57 rfl rfl ti3 rfl) ?_
            refine QW.ex rfl rfl rfl rfl (Ex.load1 ti3 rfl rfl (by first | exact ob 0 rfl rfl | exact ob 1 rfl rfl | exact ob 2 rfl rfl | exact ob 3 rfl rfl | exact ob 4 rfl rfl | exact ob 5 rfl rfl | exact ob 6 rfl rfl | exact ob 7 rfl rfl | exact ob 8 rfl rfl | exact ob 9 rfl rfl | exact Rd.imm (by assumption) | exact sb 0 rfl (by assumption) | exact sb 1 rfl (by assumption) | exact sb 2 rfl (by assumption) | exact sb 3 rfl (by assumption) | exact sb 4 rfl (by assumption) | exact sb 5 rfl (by assumption))) ?_
            refine QW.ex rfl rfl rfl rfl (Ex.indexArr (j := 1) Try.underlying52 ti24 rfl rfl rfl (by omega)) ?_
            refine QW.ex rfl rfl rfl rfl (Ex.load1 ti24 rfl rfl (by first | exact ob 0 rfl rfl | exact ob 1 rfl rfl | exact ob 2 rfl rfl | exact ob 3 rfl rfl | exact ob 4 rfl rfl | exact ob 5 rfl rfl | exact ob 6 rfl rfl | exact ob 7 rfl rfl | exact ob 8 rfl rfl | exact ob 9 rfl rfl | exact Rd.imm (by assumption) | exact sb 0 rfl (by assumption) | exact sb 1 rfl (by assumption) | exact sb 2 rfl (by assumption) | exact sb 3 rfl (by assumption) | exact sb 4 rfl (by assumption) | exact sb 5 rfl (by assumption))) ?_
            refine QW.ex rfl rfl rfl rfl (Ex.conv Try.underlying24 Try.underlying3 rfl (by first | exact w64 (by omega) (by omega) | exact wu8 (by omega) (by omega))) ?_
            refine QW.ex rfl rfl rfl rfl (Ex.rem rfl rfl (by omega) hm1e) ?_
            refine QW.ex rfl rfl rfl rfl (Ex.add rfl rfl (w64 (by omega) (by omega))) ?_
            refine QW.ex rfl rfl rfl rfl (Ex.fieldO 0 Try.underlying31 rfl rfl ti27 rfl) ?_
            refine QW.ex rfl rfl rfl rfl (Ex.load1 ti27 rfl rfl (by first | exact ob 0 rfl rfl | exact ob 1 rfl rfl | exact ob 2 rfl rfl | exact ob 3 rfl rfl | exact ob 4 rfl rfl | exact ob 5 rfl rfl | exact ob 6 rfl rfl | exact ob 7 rfl rfl | exact ob 8 rfl rfl | exact ob 9 rfl rfl | exact Rd.imm (by assumption) | exact sb 0 rfl (by assumption) | exact sb 1 rfl (by assumption) | exact sb 2 rfl (by assumption) | exact sb 3 rfl (by assumption) | exact sb 4 rfl (by assumption) | exact sb 5 rfl (by assumption))) ?_
            refine QW.ex rfl rfl rfl rfl (Ex.move rfl) ?_
            refine QW.ex rfl rfl rfl rfl (Ex.indexSl Try.underlying27 ti57 rfl rfl rfl hi0) ?_
            refine QW.ex rfl rfl rfl rfl (Ex.fieldO 3 Try.underlying57 rfl rfl ti3 rfl) ?_
            refine QW.ex rfl rfl rfl rfl (Ex.load1 ti3 rfl rfl (by first | exact ob 0 rfl rfl | exact ob 1 rfl rfl | exact ob 2 rfl rfl | exact ob 3 rfl rfl | exact ob 4 rfl rfl | exact ob 5 rfl rfl | exact ob 6 rfl rfl | exact ob 7 rfl rfl | exact ob 8 rfl rfl | exact ob 9 rfl rfl | exact Rd.imm (by assumption) | exact sb 0 rfl (by assumption) | exact sb 1 rfl (by assumption) | exact sb 2 rfl (by assumption) | exact sb 3 rfl (by assumption) | exact sb 4 rfl (by assumption) | exact sb 5 rfl (by assumption))) ?_
            refine QW.pu rfl rfl rfl rfl (Ex.indexArr (j := 2) Try.underlying52 ti24 rfl rfl rfl (by omega)) ?_
            refine QW.pu rfl rfl rfl rfl (Ex.load1 ti24 rfl rfl (by first | exact ob 0 rfl rfl | exact ob 1 rfl rfl | exact ob 2 rfl rfl | exact ob 3 rfl rfl | exact ob 4 rfl rfl | exact ob 5 rfl rfl | exact ob 6 rfl rfl | exact ob 7 rfl rfl | exact ob 8 rfl rfl | exact ob 9 rfl rfl | exact Rd.imm (by assumption) | exact sb 0 rfl (by assumption) | exact sb 1 rfl (by assumption) | exact sb 2 rfl (by assumption) | exact sb 3 rfl (by assumption) | exact sb 4 rfl (by assumption) | exact sb 5 rfl (by assumption))) ?_
            refine QW.pu rfl rfl rfl rfl (Ex.conv Try.underlying24 Try.underlying3 rfl (by first | exact w64 (by omega) (by omega) | exact wu8 (by omega) (by omega))) ?_
            refine QW.pu rfl rfl rfl rfl (Ex.rem rfl rfl (by omega) hm2e) ?_
            refine QW.pu rfl rfl rfl rfl (Ex.add rfl rfl (w64 (by omega) (by omega))) ?_
            refine QW.ex rfl rfl rfl rfl (Ex.fieldO 0 Try.underlying31 rfl rfl ti27 rfl) ?_
            refine QW.ex rfl rfl rfl rfl (Ex.load1 ti27 rfl rfl (by first | exact ob 0 rfl rfl | exact ob 1 rfl rfl | exact ob 2 rfl rfl | exact ob 3 rfl rfl | exact ob 4 rfl rfl | exact ob 5 rfl rfl | exact ob 6 rfl rfl | exact ob 7 rfl rfl | exact ob 8 rfl rfl | exact ob 9 rfl rfl | exact Rd.imm (by assumption) | exact sb 0 rfl (by assumption) | exact sb 1 rfl (by assumption) | exact sb 2 rfl (by assumption) | exact sb 3 rfl (by assumption) | exact sb 4 rfl (by assumption) | exact sb 5 rfl (by assumption))) ?_
            refine QW.ex rfl rfl rfl rfl (Ex.move rfl) ?_
            refine QW.ex rfl rfl rfl rfl (Ex.indexSl Try.underlying27 ti57 rfl rfl rfl hi0) ?_
            refine QW.ex rfl rfl rfl rfl (Ex.fieldO 0 Try.underlying57 rfl rfl ti5 rfl) ?_
            refine QW.ex rfl rfl rfl rfl (Ex.load1 ti5 rfl rfl (by first | exact ob 0 rfl rfl | exact ob 1 rfl rfl | exact ob 2 rfl rfl | exact ob 3 rfl rfl | exact ob 4 rfl rfl | exact ob 5 rfl rfl | exact ob 6 rfl rfl | exact ob 7 rfl rfl | exact ob 8 rfl rfl | exact ob 9 rfl rfl | exact Rd.imm (by assumption) | exact sb 0 rfl (by assumption) | exact sb 1 rfl (by assumption) | exact sb 2 rfl (by assumption) | exact sb 3 rfl (by assumption) | exact sb 4 rfl (by assumption) | exact sb 5 rfl (by assumption))) ?_
            refine QW.pu rfl rfl rfl rfl (Ex.indexArr (j := 3) Try.underlying52 ti24 rfl rfl rfl (by omega)) ?_
            refine QW.pu rfl rfl rfl rfl (Ex.load1 ti24 rfl rfl (by first | exact ob 0 rfl rfl | exact ob 1 rfl rfl | exact ob 2 rfl rfl | exact ob 3 rfl rfl | exact ob 4 rfl rfl | exact ob 5 rfl rfl | exact ob 6 rfl rfl | exact ob 7 rfl rfl | exact ob 8 rfl rfl | exact ob 9 rfl rfl | exact Rd.imm (by assumption) | exact sb 0 rfl (by assumption) | exact sb 1 rfl (by assumption) | exact sb 2 rfl (by assumption) | exact sb 3 rfl (by assumption) | exact sb 4 rfl (by assumption) | exact sb 5 rfl (by assumption))) ?_
            refine QW.pu rfl rfl rfl rfl (Ex.conv Try.underlying24 Try.underlying5 rfl (wu8m _)) ?_
            refine QW.pu rfl rfl rfl rfl (Ex.rem rfl rfl (by omega) (show _ = (y3.toNat : Int) from by rw [tmod_pos (by omega)]; exact hy3)) ?_
            refine QW.pu rfl rfl rfl rfl (Ex.add rfl rfl (u8add t0.Key y3)) ?_
            refine QW.ex rfl rfl rfl rfl (Ex.indexSl Try.underlying27 ti57 rfl rfl rfl (by omega)) ?_
            refine QW.ex rfl rfl rfl rfl (Ex.fieldO 1 Try.underlying57 rfl rfl ti3 rfl) ?_
            refine QW.nil ?_
            refine TW.hu rfl rfl rfl (Hv.storeSl (k := 0) ti3 hS rfl rfl rfl rfl (by first | (simp; done) | omega)) (fun _ _ h => (h.rd.erase 0)) fun _ w_44 hS => ?_
            dsimp only [List.set] at hS
            obtain ⟨t1, ht1⟩ : ∃ t1 : Area, t1 = ⟨t0.Key, t0.X0 + m1, t0.Y0, t0.X1, t0.Y1⟩ := ⟨_, rfl⟩
            rw [area_set (made l) i0 t0 t1 hi0 1 (by decide) _ (by rw [ht1]; rfl)] at hS
            have hl0 := hlen t1
            refine TW.ex rfl rfl rfl rfl (Ex.indexSl Try.underlying27 ti57 rfl rfl rfl (by omega)) hS.rd ?_
            refine TW.ex rfl rfl rfl rfl (Ex.fieldO 3 Try.underlying57 rfl rfl ti3 rfl) hS.rd ?_
            refine TW.hu rfl rfl rfl (Hv.storeSl (k := 0) ti3 hS rfl rfl rfl rfl (by first | (simp; done) | omega)) (fun _ _ h => (h.rd.erase 0)) fun _ w_47 hS => ?_
            dsimp only [List.set] at hS
            obtain ⟨t2, ht2⟩ : ∃ t2 : Area, t2 = ⟨t0.Key, t0.X0 + m1, t0.Y0, t0.X1 + m2, t0.Y1⟩ := ⟨_, rfl⟩
            rw [area_set (made l) i0 t1 t2 hi0 3 (by decide) _ (by rw [ht2, ht1]; rfl)] at hS
            have hl0 := hlen t2
            refine TW.ex rfl rfl rfl rfl (Ex.indexSl Try.underlying27 ti57 rfl rfl rfl (by omega)) hS.rd ?_
            refine TW.ex rfl rfl rfl rfl (Ex.fieldO 0 Try.underlying57 rfl rfl ti5 rfl) hS.rd ?_
            refine TW.hu rfl rfl rfl (Hv.storeSl (k := 0) ti5 hS rfl rfl rfl rfl (by first | (simp; done) | omega)) (fun _ _ h => (h.rd.erase 0)) fun _ w_50 hS => ?_
            dsimp only [List.set] at hS
            obtain ⟨t3, ht3⟩ : ∃ t3 : Area, t3 = ⟨t0.Key + y3, t0.X0 + m1, t0.Y0, t0.X1 + m2, t0.Y1⟩ := ⟨_, rfl⟩
            rw [area_set (made l) i0 t2 t3 hi0 0 (by decide) _ (by rw [ht3, ht2]; rfl)] at hS
            refine TW.nil fun aa ha => ?_
            obtain ⟨bs, μs, hms, hS, hφ⟩ := hS.shut 0 rfl
            dsimp only [List.eraseIdx] at hS
            have hsl7 : Sl μs (some ⟨gA, 0, none⟩) c55 ((made l).set i0 t3) := Sl.of_own hφ (areaReps _ _) (by rw [List.length_set])
            rw [show (made l).length = ((made l).set i0 t3).length by rw [List.length_set]] at hS
            refine hJ10 _ ((made l).set i0 t3) (some ⟨gA, 0, none⟩) (c55) (μs) hS (hsl7) (hms.mono (Nat.zero_le _)) aa (ha.sub ⟨rfl, rfl, rfl, rfl, rfl, trivial⟩)
          · have h10_3 := of_decide_eq_false h10_3
            refine LW.nil fun aa ha => hK21 _ _ _ ?_ aa ha
            refine CW.no rfl ?_
            refine CW.skip fun aa ha => ?_
            refine hJ10 _ (made l) (a0) (c0) (μ47) hS (hd0) (Mem.ext.refl _ _) aa (ha.sub ⟨rfl, rfl, rfl, rfl, rfl, trivial⟩)
end Go.Proofs.Ytphgjongflkolaa

