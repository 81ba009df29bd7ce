/-
  Areas: the walks of the reference's Valid, templates and chords.
-/
import Derived.Test.YtphgjongflkolaaArL
namespace Go.Proofs.Ytphgjongflkolaa
open Go.RowKit Sy

def tplsR (l : List Tpl) : Bool := rises okTpl (fun x y => keyLt x.Key y.Key) none l && decide (l.length ≤ 26)
theorem tplsR_not {l : List Tpl} (h : rises okTpl (fun x y => keyLt x.Key y.Key) none l = false) : tplsR l = false := by unfold tplsR; rw [h]; rfl
set_option maxRecDepth 100000 in
set_option maxHeartbeats 1000000 in
theorem reftpls_c (l : List Tpl) (ad : Option Addr) (c : Nat) (μ : Mem) (w : World) (hμ : Imm μ w) (hl : Sl μ ad c l) :
    Calls Try.prog 58 #[.slice ad l.length c] w (RetS w (.bool (tplsR l))) := by
  have hll : l.length ≤ 9223372036854775807 := by have := hl.1; have := hl.2.1; simp only [maxLen] at this; omega
  have hS := St.start w μ hμ
  refine calls_start 77 [.slice ad l.length c] Try.func58 rfl Try.ntmps58 rfl rfl ?_
  refine CW.seq fun K1 hK1 => ?_
  refine CW.region [0] rfl ?_
  refine LW.ex rfl rfl rfl rfl (Ex.assign rfl) hS.rd ?_
  refine LW.nil fun aa ha => hK1 _ _ _ ?_ aa ha
  refine CW.seq fun K2 hK2 => ?_
  refine CW.seq fun K3 hK3 => ?_
  refine CW.region [0] rfl ?_
  refine LW.ex rfl rfl rfl rfl (Ex.assign rfl) hS.rd ?_
  refine LW.nil fun aa ha => hK3 _ _ _ ?_ aa ha
  refine CW.block ?_
  refine CW.loop (fun q m wl2 => ∃ (i : Nat), i ≤ l.length ∧ q = l.length - i ∧ m = [(0, .slice ad l.length c), (3, .int .i64 i)] ∧ St w wl2 μ [] ∧ (rises okTpl (fun x y => keyLt x.Key y.Key) none l = rises okTpl (fun x y => keyLt x.Key y.Key) (prevOf l i) (l.drop i))) _ ⟨0, (by first | omega | (simp; done) | (simp; omega)), rfl, rfl, hS, rfl⟩ ⟨rfl, rfl, trivial⟩ ?_
  clear hS
  rintro q m wl2 ⟨i, hi, hq, rfl, hS, he⟩
  refine CW.seq fun K4 hK4 => ?_
  refine CW.seq fun K5 hK5 => ?_
  refine CW.region [0, 1, 2, 3] rfl ?_
  refine LW.ex rfl rfl rfl rfl (Ex.move rfl) hS.rd ?_
  refine LW.ex rfl rfl rfl rfl (Ex.move rfl) hS.rd ?_
  refine LW.ex rfl rfl rfl rfl (Ex.lenSl rfl Try.underlying28 rfl) hS.rd ?_
  refine LW.ex rfl rfl rfl rfl (Ex.lss rfl rfl rfl) hS.rd ?_
  refine LW.splitB (fun h2_3 => ?_) (fun h2_3 => ?_)
  · have h2_3 := of_decide_eq_true h2_3
    refine LW.nil fun aa ha => hK5 _ _ _ ?_ aa ha
    refine CW.yes rfl ?_
    refine CW.skip fun aa ha => hK4 _ _ _ ?_ aa ha
    refine CW.seq fun K6 hK6 => ?_
    refine CW.block ?_
    refine CW.seq fun K7 hK7 => ?_
    have hi2 : i < l.length := by omega
    have hnn : i - 1 < l.length := by omega
    obtain ⟨bl, ol, rfl, k0, ad1, c1, k1, k2⟩ := hl.at hi2
    obtain ⟨bl', ol', e', j0, ad2, c2, j1, j2⟩ := hl.at hnn
    cases e'
    have hJ4 : ∀ (wj : World) , St w wj μ [] → (isLet l[i].Key = true) → (2 ≤ l[i].P.length) → (l[i].P.length ≤ 12) → (0 < i → keyLt l[i - 1].Key l[i].Key = true) → KW K7 77 [(0, .slice (some ⟨bl, ol, none⟩) l.length c), (3, .int .i64 i)] wj := by
      intro wj  hS ho1 ho2 ho3 hlt
      refine hK7 _ _ _ ?_
      refine CW.seq fun K8 hK8 => ?_
      refine CW.region [0] rfl ?_
      refine LW.ex rfl rfl rfl rfl (Ex.assign rfl) hS.rd ?_
      refine LW.nil fun aa ha => hK8 _ _ _ ?_ aa ha
      refine CW.block ?_
      refine CW.loop (fun q m wl7 => ∃ (k : Nat), k ≤ l[i].P.length ∧ q = l[i].P.length - k ∧ m = [(0, .slice (some ⟨bl, ol, none⟩) l.length c), (3, .int .i64 i), (4, .int .i64 k)] ∧ St w wl7 μ [] ∧ (∀ j (h : j < l[i].P.length), j < k → inP l[i].P[j] = true)) _ ⟨0, (by first | omega | (simp; done) | (simp; omega)), rfl, rfl, hS, fun j _ hj => by omega⟩ ⟨rfl, rfl, rfl, trivial⟩ ?_
      clear hS
      rintro q m wl7 ⟨k, hk, hq, rfl, hS, hin⟩
      refine CW.seq fun K9 hK9 => ?_
      refine CW.seq fun K10 hK10 => ?_
      refine CW.region [0, 1, 2, 3, 4, 5, 6, 7] rfl ?_
      refine LW.ex rfl rfl rfl rfl (Ex.move rfl) hS.rd ?_
      refine LW.ex rfl rfl rfl rfl (Ex.move rfl) hS.rd ?_
      refine LW.ex rfl rfl rfl rfl (Ex.move rfl) hS.rd ?_
      refine LW.ex rfl rfl rfl rfl (Ex.indexSl Try.underlying28 ti55 rfl rfl rfl (by omega)) hS.rd ?_
      refine LW.ex rfl rfl rfl rfl (Ex.fieldO 1 Try.underlying55 rfl rfl ti53 rfl) hS.rd ?_
      refine LW.ex rfl rfl rfl rfl (Ex.load1 ti53 rfl rfl (by first | exact Rd.obj (k := 0) rfl rfl | exact Rd.obj (k := 1) rfl rfl | exact Rd.obj (k := 2) rfl rfl | exact Rd.obj (k := 3) rfl rfl | exact Rd.obj (k := 4) rfl rfl | exact Rd.imm (by assumption) | exact Rd.sl (k := 0) rfl (by assumption) | exact Rd.sl (k := 1) rfl (by assumption) | exact Rd.sl (k := 2) rfl (by assumption) | exact Rd.sl (k := 3) rfl (by assumption))) hS.rd ?_
      refine LW.ex rfl rfl rfl rfl (Ex.lenSl rfl Try.underlying53 rfl) hS.rd ?_
      refine LW.ex rfl rfl rfl rfl (Ex.lss rfl rfl rfl) hS.rd ?_
      refine LW.splitB (fun h7_7 => ?_) (fun h7_7 => ?_)
      · have h7_7 := of_decide_eq_true h7_7
        refine LW.nil fun aa ha => hK10 _ _ _ ?_ aa ha
        refine CW.yes rfl ?_
        refine CW.skip fun aa ha => hK9 _ _ _ ?_ aa ha
        refine CW.seq fun K11 hK11 => ?_
        refine CW.block ?_
        refine CW.seq fun K12 hK12 => ?_
        have hk7 : k < l[i].P.length := by omega
        obtain ⟨bp, op, rfl, q0, q1⟩ := k2.at hk7
        refine CW.region [0, 1, 2, 3, 4, 5, 6, 7, 8, 9] rfl ?_
        refine LW.ex rfl rfl rfl rfl (Ex.move rfl) hS.rd ?_
        refine LW.ex rfl rfl rfl rfl (Ex.move rfl) hS.rd ?_
        refine LW.ex rfl rfl rfl rfl (Ex.indexSl Try.underlying28 ti55 rfl rfl rfl (by omega)) hS.rd ?_
        refine LW.ex rfl rfl rfl rfl (Ex.fieldO 1 Try.underlying55 rfl rfl ti53 rfl) hS.rd ?_
        refine LW.ex rfl rfl rfl rfl (Ex.load1 ti53 rfl rfl (by first | exact Rd.obj (k := 0) rfl rfl | exact Rd.obj (k := 1) rfl rfl | exact Rd.obj (k := 2) rfl rfl | exact Rd.obj (k := 3) rfl rfl | exact Rd.obj (k := 4) rfl rfl | exact Rd.imm (by assumption) | exact Rd.sl (k := 0) rfl (by assumption) | exact Rd.sl (k := 1) rfl (by assumption) | exact Rd.sl (k := 2) rfl (by assumption) | exact Rd.sl (k := 3) rfl (by assumption))) hS.rd ?_
        refine LW.ex rfl rfl rfl rfl (Ex.move rfl) hS.rd ?_
        refine LW.ex rfl rfl rfl rfl (Ex.indexSl Try.underlying53 ti36 rfl rfl rfl (by omega)) hS.rd ?_
        refine LW.ex rfl rfl rfl rfl (Ex.load2c ti36 rfl rfl (by first | exact Rd.obj (k := 0) rfl rfl | exact Rd.obj (k := 1) rfl rfl | exact Rd.obj (k := 2) rfl rfl | exact Rd.obj (k := 3) rfl rfl | exact Rd.obj (k := 4) rfl rfl | exact Rd.imm (by assumption) | exact Rd.sl (k := 0) rfl (by assumption) | exact Rd.sl (k := 1) rfl (by assumption) | exact Rd.sl (k := 2) rfl (by assumption) | exact Rd.sl (k := 3) rfl (by assumption)) (by first | exact Rd.obj (k := 0) rfl rfl | exact Rd.obj (k := 1) rfl rfl | exact Rd.obj (k := 2) rfl rfl | exact Rd.obj (k := 3) rfl rfl | exact Rd.obj (k := 4) rfl rfl | exact Rd.imm (by assumption) | exact Rd.sl (k := 0) rfl (by assumption) | exact Rd.sl (k := 1) rfl (by assumption) | exact Rd.sl (k := 2) rfl (by assumption) | exact Rd.sl (k := 3) rfl (by assumption))) hS.rd ?_
        refine LW.hv rfl rfl rfl rfl (Hv.callS hS rfl rfl rfl cb39 (refinside_c l[i].P[k] _)) fun v w72 ⟨hv, hS⟩ => ?_
        subst hv
        refine LW.splitB (fun h9_8 => ?_) (fun h9_8 => ?_)
        · skip
          refine LW.ex rfl rfl rfl rfl (Ex.not rfl rfl) hS.rd ?_
          refine LW.nil fun aa ha => hK12 _ _ _ ?_ aa ha
          refine CW.no rfl ?_
          refine CW.skip fun aa ha => hK11 _ _ _ ?_ aa ha
          refine CW.region [0, 1, 2] rfl ?_
          refine LW.ex rfl rfl rfl rfl (Ex.move rfl) hS.rd ?_
          refine LW.ex rfl rfl rfl rfl (Ex.add rfl rfl (by first | exact inc64 (by omega) | exact addN (by omega) | exact w64 (by omega) (by omega))) hS.rd ?_
          refine LW.ex rfl rfl rfl rfl (Ex.assign rfl) hS.rd ?_
          refine LW.nil fun aa ha => ?_
          refine ⟨_, _, ?m7, ⟨k + 1, (by first | omega | (simp; done) | (simp; omega)), rfl, rfl, hS, ?_⟩, ha.sub ⟨rfl, rfl, rfl, trivial⟩⟩
          case m7 => omega
          intro j hj hjk
          by_cases hjk' : j = k
          · subst hjk'; exact h9_8
          · exact hin j hj (by omega)
        · skip
          refine LW.ex rfl rfl rfl rfl (Ex.not rfl rfl) hS.rd ?_
          refine LW.nil fun aa ha => hK12 _ _ _ ?_ aa ha
          refine CW.yes rfl ?_
          refine CW.seq fun K13 hK13 => ?_
          refine CW.region [0] rfl ?_
          refine LW.ex rfl rfl rfl rfl (Ex.assign rfl) hS.rd ?_
          refine LW.nil fun aa ha => hK13 _ _ _ ?_ aa ha
          refine CW.ret fun aa ha => ?_
          refine ret_one ha Try.results58 rfl ?_
          rw [tplsR_not (by rw [he, rises_not _ _ _ _ hi2 (by unfold okTpl; rw [Bool.and_eq_false_iff]; right; rw [List.all_eq_false]; exact ⟨_, List.getElem_mem hk7, by simpa using h9_8⟩)])]; exact hS.retS
      · have h7_7 := of_decide_eq_false h7_7
        refine LW.nil fun aa ha => hK10 _ _ _ ?_ aa ha
        refine CW.no rfl ?_
        refine CW.exit fun aa ha => hK6 _ _ _ ?_ aa ha
        refine CW.region [0, 1, 2] rfl ?_
        refine LW.ex rfl rfl rfl rfl (Ex.move rfl) hS.rd ?_
        refine LW.ex rfl rfl rfl rfl (Ex.add rfl rfl (by first | exact inc64 (by omega) | exact addN (by omega) | exact w64 (by omega) (by omega))) hS.rd ?_
        refine LW.ex rfl rfl rfl rfl (Ex.assign rfl) hS.rd ?_
        refine LW.nil fun aa ha => ?_
        refine ⟨_, _, ?m2, ⟨i + 1, (by first | omega | (simp; done) | (simp; omega)), rfl, rfl, hS, ?_⟩, ha.sub ⟨rfl, rfl, trivial⟩⟩
        case m2 => omega
        rw [he]; refine rises_step _ _ _ _ hi2 ?_ hlt
        unfold okTpl
        rw [ho1, decide_eq_true ho2, decide_eq_true ho3, List.all_eq_true.2 fun p hp => by obtain ⟨j, hj, rfl⟩ := List.getElem_of_mem hp; exact hin j hj (by omega)]; rfl
    refine CW.seq fun K14 hK14 => ?_
    have hS := hS.drew
    refine CW.draw 43 (.ex 0 <| .ex 1 <| .ex 2 <| .ex 3 <| .ex 4 <| .one 5 <| .ex 6 <| .ex 7 <| .ex 8 <| .ex 9 <| .ex 10 <| .ex 11 <| .ex 12 <| .ex 13 <| .ex 14 <| .ex 15 <| .ex 16 <| .ex 17 <| .ex 18 <| .ex 19 <| .ex 20 <| .ex 21 <| .ex 22 <| .ex 23 <| .ex 24 <| .ex 25 <| .ex 26 <| .ex 27 <| .ex 28 <| .ex 29 <| .ex 30 <| .ex 31 <| .ex 32 <| .ex 33 <| .ex 34 <| .ex 35 <| .ex 36 <| .ex 37 <| .ex 38 <| .ex 39 <| .ex 40 <| .ex 41 <| .ex 42 <| .done) [] (Rd _ _) mixed (by kernel_rfl) rfl rfl hS.rd ?_
    refine PW.ex rfl rfl rfl rfl (Ex.move rfl) ?_
    refine PW.ex rfl rfl rfl rfl (Ex.move rfl) ?_
    refine PW.ex rfl rfl rfl rfl (Ex.indexSl Try.underlying28 ti55 rfl rfl rfl (by omega)) ?_
    refine PW.ex rfl rfl rfl rfl (Ex.fieldO 0 Try.underlying55 rfl rfl ti5 rfl) ?_
    refine PW.ex rfl rfl rfl rfl (Ex.load1 ti5 rfl rfl (by first | exact Rd.obj (k := 0) rfl rfl | exact Rd.obj (k := 1) rfl rfl | exact Rd.obj (k := 2) rfl rfl | exact Rd.obj (k := 3) rfl rfl | exact Rd.obj (k := 4) rfl rfl | exact Rd.imm (by assumption) | exact Rd.sl (k := 0) rfl (by assumption) | exact Rd.sl (k := 1) rfl (by assumption) | exact Rd.sl (k := 2) rfl (by assumption) | exact Rd.sl (k := 3) rfl (by assumption))) ?_
    refine PW.hv rfl rfl rfl rfl (Hv.callS hS rfl rfl rfl cb61 (refletter_c _ _)) (fun _ _ h => h.2.rd) fun v w16 ⟨hv, hS⟩ => ?_
    subst hv
    refine PW.splitB (fun h4_5 => ?_) (fun h4_5 => ?_)
    · skip
      refine PW.ex rfl rfl rfl rfl (Ex.not rfl rfl) ?_
      refine PW.ex rfl rfl rfl rfl (Ex.move rfl) ?_
      refine PW.ex rfl rfl rfl rfl (Ex.move rfl) ?_
      refine PW.ex rfl rfl rfl rfl (Ex.gtr rfl rfl rfl) ?_
      refine PW.splitB (fun h4_9 => ?_) (fun h4_9 => ?_)
      · have h4_9 := of_decide_eq_true h4_9
        refine PW.ex rfl rfl rfl rfl (Ex.move rfl) ?_
        refine PW.ex rfl rfl rfl rfl (Ex.move rfl) ?_
        refine PW.ex rfl rfl rfl rfl (Ex.move rfl) ?_
        refine PW.ex rfl rfl rfl rfl (Ex.indexSl Try.underlying28 ti55 rfl rfl rfl (by omega)) ?_
        refine PW.ex rfl rfl rfl rfl (Ex.fieldO 0 Try.underlying55 rfl rfl ti5 rfl) ?_
        refine PW.ex rfl rfl rfl rfl (Ex.load1 ti5 rfl rfl (by first | exact Rd.obj (k := 0) rfl rfl | exact Rd.obj (k := 1) rfl rfl | exact Rd.obj (k := 2) rfl rfl | exact Rd.obj (k := 3) rfl rfl | exact Rd.obj (k := 4) rfl rfl | exact Rd.imm (by assumption) | exact Rd.sl (k := 0) rfl (by assumption) | exact Rd.sl (k := 1) rfl (by assumption) | exact Rd.sl (k := 2) rfl (by assumption) | exact Rd.sl (k := 3) rfl (by assumption))) ?_
        refine PW.ex rfl rfl rfl rfl (Ex.move rfl) ?_
        refine PW.ex rfl rfl rfl rfl (Ex.move rfl) ?_
        refine PW.ex rfl rfl rfl rfl (Ex.sub rfl rfl (by first | exact dec64 (by omega) (by omega) | exact subN (by omega) (by omega) | exact w64 (by omega) (by omega))) ?_
        refine PW.ex rfl rfl rfl rfl (Ex.indexSl Try.underlying28 ti55 rfl rfl rfl (by omega)) ?_
        refine PW.ex rfl rfl rfl rfl (Ex.fieldO 0 Try.underlying55 rfl rfl ti5 rfl) ?_
        refine PW.ex rfl rfl rfl rfl (Ex.load1 ti5 rfl rfl (by first | exact Rd.obj (k := 0) rfl rfl | exact Rd.obj (k := 1) rfl rfl | exact Rd.obj (k := 2) rfl rfl | exact Rd.obj (k := 3) rfl rfl | exact Rd.obj (k := 4) rfl rfl | exact Rd.imm (by assumption) | exact Rd.sl (k := 0) rfl (by assumption) | exact Rd.sl (k := 1) rfl (by assumption) | exact Rd.sl (k := 2) rfl (by assumption) | exact Rd.sl (k := 3) rfl (by assumption))) ?_
        refine PW.ex rfl rfl rfl rfl (Ex.leq rfl rfl rfl) ?_
        refine PW.splitB (fun h4_22 => ?_) (fun h4_22 => ?_)
        · have h4_22 := of_decide_eq_true h4_22
          refine PW.ex rfl rfl rfl rfl (by first | exact Ex.pick_yes rfl rfl | exact Ex.pick_no rfl rfl) ?_
          refine PW.ex rfl rfl rfl rfl (by first | exact Ex.pick_yes rfl rfl | exact Ex.pick_no rfl rfl) ?_
          refine PW.ex rfl rfl rfl rfl (Ex.move rfl) ?_
          refine PW.skip rfl rfl rfl rfl ?_
          refine PW.skip rfl rfl rfl rfl ?_
          refine PW.skip rfl rfl rfl rfl ?_
          refine PW.skip rfl rfl rfl rfl ?_
          refine PW.skip rfl rfl rfl rfl ?_
          refine PW.skip rfl rfl rfl rfl ?_
          refine PW.skip rfl rfl rfl rfl ?_
          refine PW.ex rfl rfl rfl rfl (by first | exact Ex.pick_yes rfl rfl | exact Ex.pick_no rfl rfl) ?_
          refine PW.ex rfl rfl rfl rfl (Ex.move rfl) ?_
          refine PW.skip rfl rfl rfl rfl ?_
          refine PW.skip rfl rfl rfl rfl ?_
          refine PW.skip rfl rfl rfl rfl ?_
          refine PW.skip rfl rfl rfl rfl ?_
          refine PW.skip rfl rfl rfl rfl ?_
          refine PW.skip rfl rfl rfl rfl ?_
          refine PW.skip rfl rfl rfl rfl ?_
          refine PW.ex rfl rfl rfl rfl (by first | exact Ex.pick_yes rfl rfl | exact Ex.pick_no rfl rfl) ?_
          refine PW.nil ?_
          refine LW.nil fun aa ha => hK14 _ _ _ ?_ aa ha
          refine CW.yes rfl ?_
          refine CW.seq fun K15 hK15 => ?_
          refine CW.region [0] rfl ?_
          refine LW.ex rfl rfl rfl rfl (Ex.assign rfl) hS.rd ?_
          refine LW.nil fun aa ha => hK15 _ _ _ ?_ aa ha
          refine CW.ret fun aa ha => ?_
          refine ret_one ha Try.results58 rfl ?_
          rw [tplsR_not (by rw [he, rises_not2 _ _ _ _ hi2 (by omega) (decide_eq_false (by omega))])]; exact hS.retS
        · have h4_22 := of_decide_eq_false h4_22
          refine PW.ex rfl rfl rfl rfl (by first | exact Ex.pick_yes rfl rfl | exact Ex.pick_no rfl rfl) ?_
          refine PW.ex rfl rfl rfl rfl (by first | exact Ex.pick_yes rfl rfl | exact Ex.pick_no rfl rfl) ?_
          refine PW.ex rfl rfl rfl rfl (Ex.move rfl) ?_
          refine PW.ex rfl rfl rfl rfl (Ex.move rfl) ?_
          refine PW.ex rfl rfl rfl rfl (Ex.move rfl) ?_
          refine PW.ex rfl rfl rfl rfl (Ex.indexSl Try.underlying28 ti55 rfl rfl rfl (by omega)) ?_
          refine PW.ex rfl rfl rfl rfl (Ex.fieldO 1 Try.underlying55 rfl rfl ti53 rfl) ?_
          refine PW.ex rfl rfl rfl rfl (Ex.load1 ti53 rfl rfl (by first | exact Rd.obj (k := 0) rfl rfl | exact Rd.obj (k := 1) rfl rfl | exact Rd.obj (k := 2) rfl rfl | exact Rd.obj (k := 3) rfl rfl | exact Rd.obj (k := 4) rfl rfl | exact Rd.imm (by assumption) | exact Rd.sl (k := 0) rfl (by assumption) | exact Rd.sl (k := 1) rfl (by assumption) | exact Rd.sl (k := 2) rfl (by assumption) | exact Rd.sl (k := 3) rfl (by assumption))) ?_
          refine PW.ex rfl rfl rfl rfl (Ex.lenSl rfl Try.underlying53 rfl) ?_
          refine PW.ex rfl rfl rfl rfl (Ex.lss rfl rfl rfl) ?_
          refine PW.splitB (fun h4_32 => ?_) (fun h4_32 => ?_)
          · have h4_32 := of_decide_eq_true h4_32
            refine PW.ex rfl rfl rfl rfl (by first | exact Ex.pick_yes rfl rfl | exact Ex.pick_no rfl rfl) ?_
            refine PW.ex rfl rfl rfl rfl (Ex.move rfl) ?_
            refine PW.skip rfl rfl rfl rfl ?_
            refine PW.skip rfl rfl rfl rfl ?_
            refine PW.skip rfl rfl rfl rfl ?_
            refine PW.skip rfl rfl rfl rfl ?_
            refine PW.skip rfl rfl rfl rfl ?_
            refine PW.skip rfl rfl rfl rfl ?_
            refine PW.skip rfl rfl rfl rfl ?_
            refine PW.ex rfl rfl rfl rfl (by first | exact Ex.pick_yes rfl rfl | exact Ex.pick_no rfl rfl) ?_
            refine PW.nil ?_
            refine LW.nil fun aa ha => hK14 _ _ _ ?_ aa ha
            refine CW.yes rfl ?_
            refine CW.seq fun K16 hK16 => ?_
            refine CW.region [0] rfl ?_
            refine LW.ex rfl rfl rfl rfl (Ex.assign rfl) hS.rd ?_
            refine LW.nil fun aa ha => hK16 _ _ _ ?_ aa ha
            refine CW.ret fun aa ha => ?_
            refine ret_one ha Try.results58 rfl ?_
            rw [tplsR_not (by rw [he, rises_not _ _ _ _ hi2 (by simp_all [okTpl]; try omega)])]; exact hS.retS
          · have h4_32 := of_decide_eq_false h4_32
            refine PW.ex rfl rfl rfl rfl (by first | exact Ex.pick_yes rfl rfl | exact Ex.pick_no rfl rfl) ?_
            refine PW.ex rfl rfl rfl rfl (Ex.move rfl) ?_
            refine PW.ex rfl rfl rfl rfl (Ex.move rfl) ?_
            refine PW.ex rfl rfl rfl rfl (Ex.move rfl) ?_
            refine PW.ex rfl rfl rfl rfl (Ex.indexSl Try.underlying28 ti55 rfl rfl rfl (by omega)) ?_
            refine PW.ex rfl rfl rfl rfl (Ex.fieldO 1 Try.underlying55 rfl rfl ti53 rfl) ?_
            refine PW.ex rfl rfl rfl rfl (Ex.load1 ti53 rfl rfl (by first | exact Rd.obj (k := 0) rfl rfl | exact Rd.obj (k := 1) rfl rfl | exact Rd.obj (k := 2) rfl rfl | exact Rd.obj (k := 3) rfl rfl | exact Rd.obj (k := 4) rfl rfl | exact Rd.imm (by assumption) | exact Rd.sl (k := 0) rfl (by assumption) | exact Rd.sl (k := 1) rfl (by assumption) | exact Rd.sl (k := 2) rfl (by assumption) | exact Rd.sl (k := 3) rfl (by assumption))) ?_
            refine PW.ex rfl rfl rfl rfl (Ex.lenSl rfl Try.underlying53 rfl) ?_
            refine PW.ex rfl rfl rfl rfl (Ex.gtr rfl rfl rfl) ?_
            refine PW.splitB (fun h4_41 => ?_) (fun h4_41 => ?_)
            · have h4_41 := of_decide_eq_true h4_41
              refine PW.ex rfl rfl rfl rfl (by first | exact Ex.pick_yes rfl rfl | exact Ex.pick_no rfl rfl) ?_
              refine PW.nil ?_
              refine LW.nil fun aa ha => hK14 _ _ _ ?_ aa ha
              refine CW.yes rfl ?_
              refine CW.seq fun K17 hK17 => ?_
              refine CW.region [0] rfl ?_
              refine LW.ex rfl rfl rfl rfl (Ex.assign rfl) hS.rd ?_
              refine LW.nil fun aa ha => hK17 _ _ _ ?_ aa ha
              refine CW.ret fun aa ha => ?_
              refine ret_one ha Try.results58 rfl ?_
              rw [tplsR_not (by rw [he, rises_not _ _ _ _ hi2 (by simp_all [okTpl]; try omega)])]; exact hS.retS
            · have h4_41 := of_decide_eq_false h4_41
              refine PW.ex rfl rfl rfl rfl (by first | exact Ex.pick_yes rfl rfl | exact Ex.pick_no rfl rfl) ?_
              refine PW.nil ?_
              refine LW.nil fun aa ha => hK14 _ _ _ ?_ aa ha
              refine CW.no rfl ?_
              refine CW.skip fun aa ha => ?_
              refine hJ4 _  hS (h4_5) (by omega) (by omega) (fun _ => decide_eq_true (by omega)) aa (ha.sub ⟨rfl, rfl, trivial⟩)
      · have h4_9 := of_decide_eq_false h4_9
        refine PW.ex rfl rfl rfl rfl (Ex.move rfl) ?_
        refine PW.skip rfl rfl rfl rfl ?_
        refine PW.skip rfl rfl rfl rfl ?_
        refine PW.skip rfl rfl rfl rfl ?_
        refine PW.skip rfl rfl rfl rfl ?_
        refine PW.skip rfl rfl rfl rfl ?_
        refine PW.skip rfl rfl rfl rfl ?_
        refine PW.skip rfl rfl rfl rfl ?_
        refine PW.skip rfl rfl rfl rfl ?_
        refine PW.skip rfl rfl rfl rfl ?_
        refine PW.skip rfl rfl rfl rfl ?_
        refine PW.skip rfl rfl rfl rfl ?_
        refine PW.skip rfl rfl rfl rfl ?_
        refine PW.ex rfl rfl rfl rfl (by first | exact Ex.pick_yes rfl rfl | exact Ex.pick_no rfl rfl) ?_
        refine PW.ex rfl rfl rfl rfl (by first | exact Ex.pick_yes rfl rfl | exact Ex.pick_no rfl rfl) ?_
        refine PW.ex rfl rfl rfl rfl (Ex.move rfl) ?_
        refine PW.ex rfl rfl rfl rfl (Ex.move rfl) ?_
        refine PW.ex rfl rfl rfl rfl (Ex.move rfl) ?_
        refine PW.ex rfl rfl rfl rfl (Ex.indexSl Try.underlying28 ti55 rfl rfl rfl (by omega)) ?_
        refine PW.ex rfl rfl rfl rfl (Ex.fieldO 1 Try.underlying55 rfl rfl ti53 rfl) ?_
        refine PW.ex rfl rfl rfl rfl (Ex.load1 ti53 rfl rfl (by first | exact Rd.obj (k := 0) rfl rfl | exact Rd.obj (k := 1) rfl rfl | exact Rd.obj (k := 2) rfl rfl | exact Rd.obj (k := 3) rfl rfl | exact Rd.obj (k := 4) rfl rfl | exact Rd.imm (by assumption) | exact Rd.sl (k := 0) rfl (by assumption) | exact Rd.sl (k := 1) rfl (by assumption) | exact Rd.sl (k := 2) rfl (by assumption) | exact Rd.sl (k := 3) rfl (by assumption))) ?_
        refine PW.ex rfl rfl rfl rfl (Ex.lenSl rfl Try.underlying53 rfl) ?_
        refine PW.ex rfl rfl rfl rfl (Ex.lss rfl rfl rfl) ?_
        refine PW.splitB (fun h4_32 => ?_) (fun h4_32 => ?_)
        · have h4_32 := of_decide_eq_true h4_32
          refine PW.ex rfl rfl rfl rfl (by first | exact Ex.pick_yes rfl rfl | exact Ex.pick_no rfl rfl) ?_
          refine PW.ex rfl rfl rfl rfl (Ex.move rfl) ?_
          refine PW.skip rfl rfl rfl rfl ?_
          refine PW.skip rfl rfl rfl rfl ?_
          refine PW.skip rfl rfl rfl rfl ?_
          refine PW.skip rfl rfl rfl rfl ?_
          refine PW.skip rfl rfl rfl rfl ?_
          refine PW.skip rfl rfl rfl rfl ?_
          refine PW.skip rfl rfl rfl rfl ?_
          refine PW.ex rfl rfl rfl rfl (by first | exact Ex.pick_yes rfl rfl | exact Ex.pick_no rfl rfl) ?_
          refine PW.nil ?_
          refine LW.nil fun aa ha => hK14 _ _ _ ?_ aa ha
          refine CW.yes rfl ?_
          refine CW.seq fun K18 hK18 => ?_
          refine CW.region [0] rfl ?_
          refine LW.ex rfl rfl rfl rfl (Ex.assign rfl) hS.rd ?_
          refine LW.nil fun aa ha => hK18 _ _ _ ?_ aa ha
          refine CW.ret fun aa ha => ?_
          refine ret_one ha Try.results58 rfl ?_
          rw [tplsR_not (by rw [he, rises_not _ _ _ _ hi2 (by simp_all [okTpl]; try omega)])]; exact hS.retS
        · have h4_32 := of_decide_eq_false h4_32
          refine PW.ex rfl rfl rfl rfl (by first | exact Ex.pick_yes rfl rfl | exact Ex.pick_no rfl rfl) ?_
          refine PW.ex rfl rfl rfl rfl (Ex.move rfl) ?_
          refine PW.ex rfl rfl rfl rfl (Ex.move rfl) ?_
          refine PW.ex rfl rfl rfl rfl (Ex.move rfl) ?_
          refine PW.ex rfl rfl rfl rfl (Ex.indexSl Try.underlying28 ti55 rfl rfl rfl (by omega)) ?_
          refine PW.ex rfl rfl rfl rfl (Ex.fieldO 1 Try.underlying55 rfl rfl ti53 rfl) ?_
          refine PW.ex rfl rfl rfl rfl (Ex.load1 ti53 rfl rfl (by first | exact Rd.obj (k := 0) rfl rfl | exact Rd.obj (k := 1) rfl rfl | exact Rd.obj (k := 2) rfl rfl | exact Rd.obj (k := 3) rfl rfl | exact Rd.obj (k := 4) rfl rfl | exact Rd.imm (by assumption) | exact Rd.sl (k := 0) rfl (by assumption) | exact Rd.sl (k := 1) rfl (by assumption) | exact Rd.sl (k := 2) rfl (by assumption) | exact Rd.sl (k := 3) rfl (by assumption))) ?_
          refine PW.ex rfl rfl rfl rfl (Ex.lenSl rfl Try.underlying53 rfl) ?_
          refine PW.ex rfl rfl rfl rfl (Ex.gtr rfl rfl rfl) ?_
          refine PW.splitB (fun h4_41 => ?_) (fun h4_41 => ?_)
          · have h4_41 := of_decide_eq_true h4_41
            refine PW.ex rfl rfl rfl rfl (by first | exact Ex.pick_yes rfl rfl | exact Ex.pick_no rfl rfl) ?_
            refine PW.nil ?_
            refine LW.nil fun aa ha => hK14 _ _ _ ?_ aa ha
            refine CW.yes rfl ?_
            refine CW.seq fun K19 hK19 => ?_
            refine CW.region [0] rfl ?_
            refine LW.ex rfl rfl rfl rfl (Ex.assign rfl) hS.rd ?_
            refine LW.nil fun aa ha => hK19 _ _ _ ?_ aa ha
            refine CW.ret fun aa ha => ?_
            refine ret_one ha Try.results58 rfl ?_
            rw [tplsR_not (by rw [he, rises_not _ _ _ _ hi2 (by simp_all [okTpl]; try omega)])]; exact hS.retS
          · have h4_41 := of_decide_eq_false h4_41
            refine PW.ex rfl rfl rfl rfl (by first | exact Ex.pick_yes rfl rfl | exact Ex.pick_no rfl rfl) ?_
            refine PW.nil ?_
            refine LW.nil fun aa ha => hK14 _ _ _ ?_ aa ha
            refine CW.no rfl ?_
            refine CW.skip fun aa ha => ?_
            refine hJ4 _  hS (h4_5) (by omega) (by omega) (fun h => by omega) aa (ha.sub ⟨rfl, rfl, trivial⟩)
    · skip
      refine PW.ex rfl rfl rfl rfl (Ex.not rfl rfl) ?_
      refine PW.ex rfl rfl rfl rfl (Ex.move rfl) ?_
      refine PW.skip rfl rfl rfl rfl ?_
      refine PW.skip rfl rfl rfl rfl ?_
      refine PW.skip rfl rfl rfl rfl ?_
      refine PW.skip rfl rfl rfl rfl ?_
      refine PW.skip rfl rfl rfl rfl ?_
      refine PW.skip rfl rfl rfl rfl ?_
      refine PW.skip rfl rfl rfl rfl ?_
      refine PW.skip rfl rfl rfl rfl ?_
      refine PW.skip rfl rfl rfl rfl ?_
      refine PW.skip rfl rfl rfl rfl ?_
      refine PW.skip rfl rfl rfl rfl ?_
      refine PW.skip rfl rfl rfl rfl ?_
      refine PW.skip rfl rfl rfl rfl ?_
      refine PW.skip rfl rfl rfl rfl ?_
      refine PW.skip rfl rfl rfl rfl ?_
      refine PW.skip rfl rfl rfl rfl ?_
      refine PW.ex rfl rfl rfl rfl (by first | exact Ex.pick_yes rfl rfl | exact Ex.pick_no rfl rfl) ?_
      refine PW.ex rfl rfl rfl rfl (Ex.move rfl) ?_
      refine PW.skip rfl rfl rfl rfl ?_
      refine PW.skip rfl rfl rfl rfl ?_
      refine PW.skip rfl rfl rfl rfl ?_
      refine PW.skip rfl rfl rfl rfl ?_
      refine PW.skip rfl rfl rfl rfl ?_
      refine PW.skip rfl rfl rfl rfl ?_
      refine PW.skip rfl rfl rfl rfl ?_
      refine PW.ex rfl rfl rfl rfl (by first | exact Ex.pick_yes rfl rfl | exact Ex.pick_no rfl rfl) ?_
      refine PW.ex rfl rfl rfl rfl (Ex.move rfl) ?_
      refine PW.skip rfl rfl rfl rfl ?_
      refine PW.skip rfl rfl rfl rfl ?_
      refine PW.skip rfl rfl rfl rfl ?_
      refine PW.skip rfl rfl rfl rfl ?_
      refine PW.skip rfl rfl rfl rfl ?_
      refine PW.skip rfl rfl rfl rfl ?_
      refine PW.skip rfl rfl rfl rfl ?_
      refine PW.ex rfl rfl rfl rfl (by first | exact Ex.pick_yes rfl rfl | exact Ex.pick_no rfl rfl) ?_
      refine PW.nil ?_
      refine LW.nil fun aa ha => hK14 _ _ _ ?_ aa ha
      refine CW.yes rfl ?_
      refine CW.seq fun K20 hK20 => ?_
      refine CW.region [0] rfl ?_
      refine LW.ex rfl rfl rfl rfl (Ex.assign rfl) hS.rd ?_
      refine LW.nil fun aa ha => hK20 _ _ _ ?_ aa ha
      refine CW.ret fun aa ha => ?_
      refine ret_one ha Try.results58 rfl ?_
      rw [tplsR_not (by rw [he, rises_not _ _ _ _ hi2 (by simp_all [okTpl]; try omega)])]; exact hS.retS
  · have h2_3 := of_decide_eq_false h2_3
    refine LW.nil fun aa ha => hK5 _ _ _ ?_ aa ha
    refine CW.no rfl ?_
    refine CW.exit fun aa ha => hK2 _ _ _ ?_ aa ha
    refine CW.seq fun K21 hK21 => ?_
    refine CW.region [0, 1, 2, 3] rfl ?_
    refine LW.ex rfl rfl rfl rfl (Ex.move rfl) hS.rd ?_
    refine LW.ex rfl rfl rfl rfl (Ex.lenSl rfl Try.underlying28 rfl) hS.rd ?_
    refine LW.ex rfl rfl rfl rfl (Ex.leq rfl rfl (by first | exact decide_eq_true (by omega) | exact decide_eq_false (by omega) | rfl)) hS.rd ?_
    refine LW.ex rfl rfl rfl rfl (Ex.assign rfl) hS.rd ?_
    refine LW.nil fun aa ha => hK21 _ _ _ ?_ aa ha
    refine CW.ret fun aa ha => ?_
    refine ret_one ha Try.results58 rfl ?_
    have hdr : rises okTpl (fun x y => keyLt x.Key y.Key) none l = true := by rw [he, List.drop_of_length_le (by omega)]; cases prevOf l i <;> rfl
    unfold tplsR
    rw [hdr]; exact hS.retB (by simp only [Bool.true_and]; exact decide_eq_decide.2 (by omega))

def risingR (s : ByteArray) : Bool := rises isLet keyLt none (bl s) && decide (2 ≤ s.size) && decide (s.size ≤ 4)
theorem refrising_c (s : ByteArray) (w : World) : Calls Try.prog 71 #[.string s] w (RetS w (.bool (risingR s))) := by
  have hS := St.start w (fun _ => none) (fun _ _ h => by cases h)
  refine calls_start 37 [.string s] Try.func71 rfl Try.ntmps71 rfl rfl ?_
  refine CW.seq fun K22 hK22 => ?_
  refine CW.region [0] rfl ?_
  refine LW.ex rfl rfl rfl rfl (Ex.assign rfl) hS.rd ?_
  refine LW.nil fun aa ha => hK22 _ _ _ ?_ aa ha
  refine CW.seq fun K23 hK23 => ?_
  refine CW.seq fun K24 hK24 => ?_
  refine CW.region [0] rfl ?_
  refine LW.ex rfl rfl rfl rfl (Ex.assign rfl) hS.rd ?_
  refine LW.nil fun aa ha => hK24 _ _ _ ?_ aa ha
  refine CW.block ?_
  refine CW.loop (fun q m wl2 => ∃ (i : Nat), i ≤ s.size ∧ q = s.size - i ∧ m = [(0, .string s), (3, .int .i64 i)] ∧ St w wl2 (fun _ => none) [] ∧ (rises isLet keyLt none (bl s) = rises isLet keyLt (prevOf (bl s) i) ((bl s).drop i)) ∧ (i ≤ 26 ∧ (0 < i → 96 + i ≤ (sAt s (i - 1)).toNat))) _ ⟨0, (by first | omega | (simp; done) | (simp; omega)), rfl, rfl, hS, rfl, ⟨by omega, fun h => by omega⟩⟩ ⟨rfl, rfl, trivial⟩ ?_
  clear hS
  rintro q m wl2 ⟨i, hi, hq, rfl, hS, he, hle⟩
  refine CW.seq fun K25 hK25 => ?_
  refine CW.seq fun K26 hK26 => ?_
  refine CW.region [0, 1, 2, 3] rfl ?_
  refine LW.ex rfl rfl rfl rfl (Ex.move rfl) hS.rd ?_
  refine LW.ex rfl rfl rfl rfl (Ex.move rfl) hS.rd ?_
  refine LW.ex rfl rfl rfl rfl (Ex.lenS rfl Try.underlying9 rfl) hS.rd ?_
  refine LW.ex rfl rfl rfl rfl (Ex.lss rfl rfl rfl) hS.rd ?_
  refine LW.splitB (fun h2_3 => ?_) (fun h2_3 => ?_)
  · have h2_3 := of_decide_eq_true h2_3
    refine LW.nil fun aa ha => hK26 _ _ _ ?_ aa ha
    refine CW.yes rfl ?_
    refine CW.skip fun aa ha => hK25 _ _ _ ?_ aa ha
    refine CW.seq fun K27 hK27 => ?_
    refine CW.block ?_
    refine CW.seq fun K28 hK28 => ?_
    have h2 : i < (bl s).length := by rw [bl_len]; omega
    have hnn : i - 1 < (bl s).length := by omega
    have hg := sAt_get _ _ h2
    have hg1 := sAt_get _ _ hnn
    have hS := hS.drew
    refine CW.draw 19 (.ex 0 <| .ex 1 <| .ex 2 <| .one 3 <| .ex 4 <| .ex 5 <| .ex 6 <| .ex 7 <| .ex 8 <| .ex 9 <| .ex 10 <| .ex 11 <| .ex 12 <| .ex 13 <| .ex 14 <| .ex 15 <| .ex 16 <| .ex 17 <| .ex 18 <| .done) [] (Rd _ _) mixed (by kernel_rfl) rfl rfl hS.rd ?_
    refine PW.ex rfl rfl rfl rfl (Ex.move rfl) ?_
    refine PW.ex rfl rfl rfl rfl (Ex.move rfl) ?_
    refine PW.ex rfl rfl rfl rfl (Ex.indexB Try.underlying9 rfl rfl rfl (by omega)) ?_
    refine PW.hv rfl rfl rfl rfl (Hv.callS hS rfl rfl rfl cb61 (refletter_c _ _)) (fun _ _ h => h.2.rd) fun v w13 ⟨hv, hS⟩ => ?_
    subst hv
    refine PW.splitB (fun h4_3 => ?_) (fun h4_3 => ?_)
    · skip
      refine PW.ex rfl rfl rfl rfl (Ex.not rfl rfl) ?_
      refine PW.ex rfl rfl rfl rfl (Ex.move rfl) ?_
      refine PW.ex rfl rfl rfl rfl (Ex.move rfl) ?_
      refine PW.ex rfl rfl rfl rfl (Ex.gtr rfl rfl rfl) ?_
      refine PW.splitB (fun h4_7 => ?_) (fun h4_7 => ?_)
      · have h4_7 := of_decide_eq_true h4_7
        refine PW.ex rfl rfl rfl rfl (Ex.move rfl) ?_
        refine PW.ex rfl rfl rfl rfl (Ex.move rfl) ?_
        refine PW.ex rfl rfl rfl rfl (Ex.move rfl) ?_
        refine PW.ex rfl rfl rfl rfl (Ex.indexB Try.underlying9 rfl rfl rfl (by omega)) ?_
        refine PW.ex rfl rfl rfl rfl (Ex.move rfl) ?_
        refine PW.ex rfl rfl rfl rfl (Ex.move rfl) ?_
        refine PW.ex rfl rfl rfl rfl (Ex.sub rfl rfl (by first | exact dec64 (by omega) (by omega) | exact subN (by omega) (by omega) | exact w64 (by omega) (by omega))) ?_
        refine PW.ex rfl rfl rfl rfl (Ex.indexB Try.underlying9 rfl rfl rfl (by omega)) ?_
        refine PW.ex rfl rfl rfl rfl (Ex.leq rfl rfl rfl) ?_
        refine PW.splitB (fun h4_16 => ?_) (fun h4_16 => ?_)
        · have h4_16 := of_decide_eq_true h4_16
          refine PW.ex rfl rfl rfl rfl (by first | exact Ex.pick_yes rfl rfl | exact Ex.pick_no rfl rfl) ?_
          refine PW.ex rfl rfl rfl rfl (by first | exact Ex.pick_yes rfl rfl | exact Ex.pick_no rfl rfl) ?_
          refine PW.nil ?_
          refine LW.nil fun aa ha => hK28 _ _ _ ?_ aa ha
          refine CW.yes rfl ?_
          refine CW.seq fun K29 hK29 => ?_
          refine CW.region [0] rfl ?_
          refine LW.ex rfl rfl rfl rfl (Ex.assign rfl) hS.rd ?_
          refine LW.nil fun aa ha => hK29 _ _ _ ?_ aa ha
          refine CW.ret fun aa ha => ?_
          refine ret_one ha Try.results71 rfl ?_
          have e : risingR s = false := by unfold risingR; rw [he, rises_not2 _ _ _ _ h2 (by omega) (by rw [hg, hg1]; exact decide_eq_false (by omega))]; rfl
          rw [e]; exact hS.retS
        · have h4_16 := of_decide_eq_false h4_16
          refine PW.ex rfl rfl rfl rfl (by first | exact Ex.pick_yes rfl rfl | exact Ex.pick_no rfl rfl) ?_
          refine PW.ex rfl rfl rfl rfl (by first | exact Ex.pick_yes rfl rfl | exact Ex.pick_no rfl rfl) ?_
          refine PW.nil ?_
          refine LW.nil fun aa ha => hK28 _ _ _ ?_ aa ha
          refine CW.no rfl ?_
          refine CW.skip fun aa ha => hK27 _ _ _ ?_ aa ha
          refine CW.region [0, 1, 2] rfl ?_
          refine LW.ex rfl rfl rfl rfl (Ex.move rfl) hS.rd ?_
          refine LW.ex rfl rfl rfl rfl (Ex.add rfl rfl (by first | exact inc64 (by omega) | exact addN (by omega) | exact w64 (by omega) (by omega))) hS.rd ?_
          refine LW.ex rfl rfl rfl rfl (Ex.assign rfl) hS.rd ?_
          refine LW.nil fun aa ha => ?_
          refine ⟨_, _, ?m2, ⟨i + 1, (by first | omega | (simp; done) | (simp; omega)), rfl, rfl, hS, ?_, ?_⟩, ha.sub ⟨rfl, rfl, trivial⟩⟩
          case m2 => omega
          · rw [he]; exact rises_step _ _ _ _ h2 (by rw [hg]; exact h4_3) (fun _ => by rw [hg, hg1]; exact decide_eq_true (by omega))
          · exact lets_step h4_3 hle (fun _ => by omega)
      · have h4_7 := of_decide_eq_false h4_7
        refine PW.ex rfl rfl rfl rfl (Ex.move rfl) ?_
        refine PW.skip rfl rfl rfl rfl ?_
        refine PW.skip rfl rfl rfl rfl ?_
        refine PW.skip rfl rfl rfl rfl ?_
        refine PW.skip rfl rfl rfl rfl ?_
        refine PW.skip rfl rfl rfl rfl ?_
        refine PW.skip rfl rfl rfl rfl ?_
        refine PW.skip rfl rfl rfl rfl ?_
        refine PW.skip rfl rfl rfl rfl ?_
        refine PW.ex rfl rfl rfl rfl (by first | exact Ex.pick_yes rfl rfl | exact Ex.pick_no rfl rfl) ?_
        refine PW.ex rfl rfl rfl rfl (by first | exact Ex.pick_yes rfl rfl | exact Ex.pick_no rfl rfl) ?_
        refine PW.nil ?_
        refine LW.nil fun aa ha => hK28 _ _ _ ?_ aa ha
        refine CW.no rfl ?_
        refine CW.skip fun aa ha => hK27 _ _ _ ?_ aa ha
        refine CW.region [0, 1, 2] rfl ?_
        refine LW.ex rfl rfl rfl rfl (Ex.move rfl) hS.rd ?_
        refine LW.ex rfl rfl rfl rfl (Ex.add rfl rfl (by first | exact inc64 (by omega) | exact addN (by omega) | exact w64 (by omega) (by omega))) hS.rd ?_
        refine LW.ex rfl rfl rfl rfl (Ex.assign rfl) hS.rd ?_
        refine LW.nil fun aa ha => ?_
        refine ⟨_, _, ?m2, ⟨i + 1, (by first | omega | (simp; done) | (simp; omega)), rfl, rfl, hS, ?_, ?_⟩, ha.sub ⟨rfl, rfl, trivial⟩⟩
        case m2 => omega
        · rw [he]; exact rises_step _ _ _ _ h2 (by rw [hg]; exact h4_3) (fun h => by omega)
        · exact lets_step h4_3 hle (fun h => by omega)
    · skip
      refine PW.ex rfl rfl rfl rfl (Ex.not rfl rfl) ?_
      refine PW.ex rfl rfl rfl rfl (Ex.move rfl) ?_
      refine PW.skip rfl rfl rfl rfl ?_
      refine PW.skip rfl rfl rfl rfl ?_
      refine PW.skip rfl rfl rfl rfl ?_
      refine PW.skip rfl rfl rfl rfl ?_
      refine PW.skip rfl rfl rfl rfl ?_
      refine PW.skip rfl rfl rfl rfl ?_
      refine PW.skip rfl rfl rfl rfl ?_
      refine PW.skip rfl rfl rfl rfl ?_
      refine PW.skip rfl rfl rfl rfl ?_
      refine PW.skip rfl rfl rfl rfl ?_
      refine PW.skip rfl rfl rfl rfl ?_
      refine PW.skip rfl rfl rfl rfl ?_
      refine PW.ex rfl rfl rfl rfl (by first | exact Ex.pick_yes rfl rfl | exact Ex.pick_no rfl rfl) ?_
      refine PW.nil ?_
      refine LW.nil fun aa ha => hK28 _ _ _ ?_ aa ha
      refine CW.yes rfl ?_
      refine CW.seq fun K30 hK30 => ?_
      refine CW.region [0] rfl ?_
      refine LW.ex rfl rfl rfl rfl (Ex.assign rfl) hS.rd ?_
      refine LW.nil fun aa ha => hK30 _ _ _ ?_ aa ha
      refine CW.ret fun aa ha => ?_
      refine ret_one ha Try.results71 rfl ?_
      have e : risingR s = false := by unfold risingR; rw [he, rises_not _ _ _ _ h2 (by rw [hg]; exact h4_3)]; rfl
      rw [e]; exact hS.retS
  · have h2_3 := of_decide_eq_false h2_3
    refine LW.nil fun aa ha => hK26 _ _ _ ?_ aa ha
    refine CW.no rfl ?_
    refine CW.exit fun aa ha => hK23 _ _ _ ?_ aa ha
    refine CW.seq fun K31 hK31 => ?_
    refine CW.region [0, 1, 2, 3, 4, 5, 6, 7, 8] rfl ?_
    refine LW.ex rfl rfl rfl rfl (Ex.move rfl) hS.rd ?_
    refine LW.ex rfl rfl rfl rfl (Ex.lenS rfl Try.underlying9 rfl) hS.rd ?_
    refine LW.ex rfl rfl rfl rfl (Ex.geq rfl rfl rfl) hS.rd ?_
    refine LW.splitB (fun h6_2 => ?_) (fun h6_2 => ?_)
    · have h6_2 := of_decide_eq_true h6_2
      refine LW.ex rfl rfl rfl rfl (Ex.move rfl) hS.rd ?_
      refine LW.ex rfl rfl rfl rfl (Ex.move rfl) hS.rd ?_
      refine LW.ex rfl rfl rfl rfl (Ex.lenS rfl Try.underlying9 rfl) hS.rd ?_
      refine LW.ex rfl rfl rfl rfl (Ex.leq rfl rfl (by first | exact decide_eq_true (by omega) | exact decide_eq_false (by omega) | rfl)) hS.rd ?_
      refine LW.ex rfl rfl rfl rfl (by first | exact Ex.pick_yes rfl rfl | exact Ex.pick_no rfl rfl) hS.rd ?_
      refine LW.ex rfl rfl rfl rfl (Ex.assign rfl) hS.rd ?_
      refine LW.nil fun aa ha => hK31 _ _ _ ?_ aa ha
      refine CW.ret fun aa ha => ?_
      refine ret_one ha Try.results71 rfl ?_
      have hdr : rises isLet keyLt none (bl s) = true := by rw [he, List.drop_of_length_le (by rw [bl_len]; omega)]; cases prevOf (bl s) i <;> rfl
      refine hS.retB ?_
      unfold risingR
      rw [hdr, Bool.eq_iff_iff]
      simp_all <;> omega
    · have h6_2 := of_decide_eq_false h6_2
      refine LW.ex rfl rfl rfl rfl (Ex.move rfl) hS.rd ?_
      refine LW.skip rfl rfl rfl rfl ?_
      refine LW.skip rfl rfl rfl rfl ?_
      refine LW.skip rfl rfl rfl rfl ?_
      refine LW.ex rfl rfl rfl rfl (by first | exact Ex.pick_yes rfl rfl | exact Ex.pick_no rfl rfl) hS.rd ?_
      refine LW.ex rfl rfl rfl rfl (Ex.assign rfl) hS.rd ?_
      refine LW.nil fun aa ha => hK31 _ _ _ ?_ aa ha
      refine CW.ret fun aa ha => ?_
      refine ret_one ha Try.results71 rfl ?_
      have hdr : rises isLet keyLt none (bl s) = true := by rw [he, List.drop_of_length_le (by rw [bl_len]; omega)]; cases prevOf (bl s) i <;> rfl
      refine hS.retB ?_
      unfold risingR
      rw [hdr, Bool.eq_iff_iff]
      simp_all <;> omega

def chordsR (l : List ChordKey) : Bool := rises okChord (fun x y => !(sLe y.Keys x.Keys)) none l && decide (l.length ≤ 26)
theorem chordsR_not {l : List ChordKey} (h : rises okChord (fun x y => !(sLe y.Keys x.Keys)) none l = false) : chordsR l = false := by unfold chordsR; rw [h]; rfl
theorem okChord_r (x : ChordKey) : okChord x = (risingR x.Keys && isLet x.Key) := by
  unfold okChord risingR
  cases rises isLet keyLt none (bl x.Keys) <;> cases isLet x.Key <;> simp
set_option maxRecDepth 100000 in
set_option maxHeartbeats 1000000 in
theorem refchords_c (l : List ChordKey) (ad : Option Addr) (c : Nat) (μ : Mem) (w : World) (hμ : Imm μ w) (hl : Sl μ ad c l) :
    Calls Try.prog 59 #[.slice ad l.length c] w (RetS w (.bool (chordsR l))) := by
  have hll : l.length ≤ 9223372036854775807 := by have := hl.1; have := hl.2.1; simp only [maxLen] at this; omega
  have hS := St.start w μ hμ
  refine calls_start 47 [.slice ad l.length c] Try.func59 rfl Try.ntmps59 rfl rfl ?_
  refine CW.seq fun K32 hK32 => ?_
  refine CW.region [0] rfl ?_
  refine LW.ex rfl rfl rfl rfl (Ex.assign rfl) hS.rd ?_
  refine LW.nil fun aa ha => hK32 _ _ _ ?_ aa ha
  refine CW.seq fun K33 hK33 => ?_
  refine CW.seq fun K34 hK34 => ?_
  refine CW.region [0] rfl ?_
  refine LW.ex rfl rfl rfl rfl (Ex.assign rfl) hS.rd ?_
  refine LW.nil fun aa ha => hK34 _ _ _ ?_ aa ha
  refine CW.block ?_
  refine CW.loop (fun q m wl2 => ∃ (i : Nat), i ≤ l.length ∧ q = l.length - i ∧ m = [(0, .slice ad l.length c), (3, .int .i64 i)] ∧ St w wl2 μ [] ∧ (rises okChord (fun x y => !(sLe y.Keys x.Keys)) none l = rises okChord (fun x y => !(sLe y.Keys x.Keys)) (prevOf l i) (l.drop i))) _ ⟨0, (by first | omega | (simp; done) | (simp; omega)), rfl, rfl, hS, rfl⟩ ⟨rfl, rfl, trivial⟩ ?_
  clear hS
  rintro q m wl2 ⟨i, hi, hq, rfl, hS, he⟩
  refine CW.seq fun K35 hK35 => ?_
  refine CW.seq fun K36 hK36 => ?_
  refine CW.region [0, 1, 2, 3] rfl ?_
  refine LW.ex rfl rfl rfl rfl (Ex.move rfl) hS.rd ?_
  refine LW.ex rfl rfl rfl rfl (Ex.move rfl) hS.rd ?_
  refine LW.ex rfl rfl rfl rfl (Ex.lenSl rfl Try.underlying29 rfl) hS.rd ?_
  refine LW.ex rfl rfl rfl rfl (Ex.lss rfl rfl rfl) hS.rd ?_
  refine LW.splitB (fun h2_3 => ?_) (fun h2_3 => ?_)
  · have h2_3 := of_decide_eq_true h2_3
    refine LW.nil fun aa ha => hK36 _ _ _ ?_ aa ha
    refine CW.yes rfl ?_
    refine CW.skip fun aa ha => hK35 _ _ _ ?_ aa ha
    refine CW.seq fun K37 hK37 => ?_
    refine CW.block ?_
    refine CW.seq fun K38 hK38 => ?_
    have hi2 : i < l.length := by omega
    have hnn : i - 1 < l.length := by omega
    obtain ⟨bl', ol, rfl, k0, k1⟩ := hl.at hi2
    obtain ⟨bl', ol', e', j0, j1⟩ := hl.at hnn
    cases e'
    have hS := hS.drew
    refine CW.draw 34 (.ex 0 <| .ex 1 <| .ex 2 <| .ex 3 <| .ex 4 <| .one 5 <| .ex 6 <| .ex 7 <| .ex 8 <| .ex 9 <| .ex 10 <| .ex 11 <| .ex 12 <| .one 13 <| .ex 14 <| .ex 15 <| .ex 16 <| .ex 17 <| .ex 18 <| .ex 19 <| .ex 20 <| .ex 21 <| .ex 22 <| .ex 23 <| .ex 24 <| .ex 25 <| .ex 26 <| .ex 27 <| .ex 28 <| .ex 29 <| .ex 30 <| .ex 31 <| .ex 32 <| .ex 33 <| .done) [] (Rd _ _) mixed (by kernel_rfl) rfl rfl hS.rd ?_
    refine PW.ex rfl rfl rfl rfl (Ex.move rfl) ?_
    refine PW.ex rfl rfl rfl rfl (Ex.move rfl) ?_
    refine PW.ex rfl rfl rfl rfl (Ex.indexSl Try.underlying29 ti60 rfl rfl rfl (by omega)) ?_
    refine PW.ex rfl rfl rfl rfl (Ex.fieldO 0 Try.underlying60 rfl rfl ti9 rfl) ?_
    refine PW.ex rfl rfl rfl rfl (Ex.load1 ti9 rfl rfl (by first | exact Rd.obj (k := 0) rfl rfl | exact Rd.obj (k := 1) rfl rfl | exact Rd.obj (k := 2) rfl rfl | exact Rd.obj (k := 3) rfl rfl | exact Rd.obj (k := 4) rfl rfl | exact Rd.imm (by assumption) | exact Rd.sl (k := 0) rfl (by assumption) | exact Rd.sl (k := 1) rfl (by assumption) | exact Rd.sl (k := 2) rfl (by assumption) | exact Rd.sl (k := 3) rfl (by assumption))) ?_
    refine PW.hv rfl rfl rfl rfl (Hv.callS hS rfl rfl rfl cb71 (refrising_c l[i].Keys _)) (fun _ _ h => h.2.rd) fun v w15 ⟨hv, hS⟩ => ?_
    subst hv
    refine PW.splitB (fun h4_5 => ?_) (fun h4_5 => ?_)
    · skip
      refine PW.ex rfl rfl rfl rfl (Ex.not rfl rfl) ?_
      refine PW.ex rfl rfl rfl rfl (Ex.move rfl) ?_
      refine PW.ex rfl rfl rfl rfl (Ex.move rfl) ?_
      refine PW.ex rfl rfl rfl rfl (Ex.move rfl) ?_
      refine PW.ex rfl rfl rfl rfl (Ex.indexSl Try.underlying29 ti60 rfl rfl rfl (by omega)) ?_
      refine PW.ex rfl rfl rfl rfl (Ex.fieldO 1 Try.underlying60 rfl rfl ti5 rfl) ?_
      refine PW.ex rfl rfl rfl rfl (Ex.load1 ti5 rfl rfl (by first | exact Rd.obj (k := 0) rfl rfl | exact Rd.obj (k := 1) rfl rfl | exact Rd.obj (k := 2) rfl rfl | exact Rd.obj (k := 3) rfl rfl | exact Rd.obj (k := 4) rfl rfl | exact Rd.imm (by assumption) | exact Rd.sl (k := 0) rfl (by assumption) | exact Rd.sl (k := 1) rfl (by assumption) | exact Rd.sl (k := 2) rfl (by assumption) | exact Rd.sl (k := 3) rfl (by assumption))) ?_
      refine PW.hv rfl rfl rfl rfl (Hv.callS hS rfl rfl rfl cb61 (refletter_c l[i].Key _)) (fun _ _ h => h.2.rd) fun v w23 ⟨hv, hS⟩ => ?_
      subst hv
      refine PW.splitB (fun h4_13 => ?_) (fun h4_13 => ?_)
      · skip
        refine PW.ex rfl rfl rfl rfl (Ex.not rfl rfl) ?_
        refine PW.ex rfl rfl rfl rfl (by first | exact Ex.pick_yes rfl rfl | exact Ex.pick_no rfl rfl) ?_
        refine PW.ex rfl rfl rfl rfl (Ex.move rfl) ?_
        refine PW.ex rfl rfl rfl rfl (Ex.move rfl) ?_
        refine PW.ex rfl rfl rfl rfl (Ex.gtr rfl rfl rfl) ?_
        refine PW.splitB (fun h4_18 => ?_) (fun h4_18 => ?_)
        · have h4_18 := of_decide_eq_true h4_18
          refine PW.ex rfl rfl rfl rfl (Ex.move rfl) ?_
          refine PW.ex rfl rfl rfl rfl (Ex.move rfl) ?_
          refine PW.ex rfl rfl rfl rfl (Ex.move rfl) ?_
          refine PW.ex rfl rfl rfl rfl (Ex.indexSl Try.underlying29 ti60 rfl rfl rfl (by omega)) ?_
          refine PW.ex rfl rfl rfl rfl (Ex.fieldO 0 Try.underlying60 rfl rfl ti9 rfl) ?_
          refine PW.ex rfl rfl rfl rfl (Ex.load1 ti9 rfl rfl (by first | exact Rd.obj (k := 0) rfl rfl | exact Rd.obj (k := 1) rfl rfl | exact Rd.obj (k := 2) rfl rfl | exact Rd.obj (k := 3) rfl rfl | exact Rd.obj (k := 4) rfl rfl | exact Rd.imm (by assumption) | exact Rd.sl (k := 0) rfl (by assumption) | exact Rd.sl (k := 1) rfl (by assumption) | exact Rd.sl (k := 2) rfl (by assumption) | exact Rd.sl (k := 3) rfl (by assumption))) ?_
          refine PW.ex rfl rfl rfl rfl (Ex.move rfl) ?_
          refine PW.ex rfl rfl rfl rfl (Ex.move rfl) ?_
          refine PW.ex rfl rfl rfl rfl (Ex.sub rfl rfl (by first | exact dec64 (by omega) (by omega) | exact subN (by omega) (by omega) | exact w64 (by omega) (by omega))) ?_
          refine PW.ex rfl rfl rfl rfl (Ex.indexSl Try.underlying29 ti60 rfl rfl rfl (by omega)) ?_
          refine PW.ex rfl rfl rfl rfl (Ex.fieldO 0 Try.underlying60 rfl rfl ti9 rfl) ?_
          refine PW.ex rfl rfl rfl rfl (Ex.load1 ti9 rfl rfl (by first | exact Rd.obj (k := 0) rfl rfl | exact Rd.obj (k := 1) rfl rfl | exact Rd.obj (k := 2) rfl rfl | exact Rd.obj (k := 3) rfl rfl | exact Rd.obj (k := 4) rfl rfl | exact Rd.imm (by assumption) | exact Rd.sl (k := 0) rfl (by assumption) | exact Rd.sl (k := 1) rfl (by assumption) | exact Rd.sl (k := 2) rfl (by assumption) | exact Rd.sl (k := 3) rfl (by assumption))) ?_
          refine PW.ex rfl rfl rfl rfl (Ex.leqS rfl rfl rfl) ?_
          refine PW.splitB (fun h4_31 => ?_) (fun h4_31 => ?_)
          · skip
            refine PW.ex rfl rfl rfl rfl (by first | exact Ex.pick_yes rfl rfl | exact Ex.pick_no rfl rfl) ?_
            refine PW.ex rfl rfl rfl rfl (by first | exact Ex.pick_yes rfl rfl | exact Ex.pick_no rfl rfl) ?_
            refine PW.nil ?_
            refine LW.nil fun aa ha => hK38 _ _ _ ?_ aa ha
            refine CW.yes rfl ?_
            refine CW.seq fun K39 hK39 => ?_
            refine CW.region [0] rfl ?_
            refine LW.ex rfl rfl rfl rfl (Ex.assign rfl) hS.rd ?_
            refine LW.nil fun aa ha => hK39 _ _ _ ?_ aa ha
            refine CW.ret fun aa ha => ?_
            refine ret_one ha Try.results59 rfl ?_
            rw [chordsR_not (by rw [he, rises_not2 _ _ _ _ hi2 (by omega) (by simp [h4_31])])]; exact hS.retS
          · skip
            refine PW.ex rfl rfl rfl rfl (by first | exact Ex.pick_yes rfl rfl | exact Ex.pick_no rfl rfl) ?_
            refine PW.ex rfl rfl rfl rfl (by first | exact Ex.pick_yes rfl rfl | exact Ex.pick_no rfl rfl) ?_
            refine PW.nil ?_
            refine LW.nil fun aa ha => hK38 _ _ _ ?_ aa ha
            refine CW.no rfl ?_
            refine CW.skip fun aa ha => hK37 _ _ _ ?_ aa ha
            refine CW.region [0, 1, 2] rfl ?_
            refine LW.ex rfl rfl rfl rfl (Ex.move rfl) hS.rd ?_
            refine LW.ex rfl rfl rfl rfl (Ex.add rfl rfl (by first | exact inc64 (by omega) | exact addN (by omega) | exact w64 (by omega) (by omega))) hS.rd ?_
            refine LW.ex rfl rfl rfl rfl (Ex.assign rfl) hS.rd ?_
            refine LW.nil fun aa ha => ?_
            refine ⟨_, _, ?m2, ⟨i + 1, (by first | omega | (simp; done) | (simp; omega)), rfl, rfl, hS, ?_⟩, ha.sub ⟨rfl, rfl, trivial⟩⟩
            case m2 => omega
            rw [he]; exact rises_step _ _ _ _ hi2 (by rw [okChord_r]; simp_all) (fun _ => by simp [h4_31])
        · have h4_18 := of_decide_eq_false h4_18
          refine PW.ex rfl rfl rfl rfl (Ex.move rfl) ?_
          refine PW.skip rfl rfl rfl rfl ?_
          refine PW.skip rfl rfl rfl rfl ?_
          refine PW.skip rfl rfl rfl rfl ?_
          refine PW.skip rfl rfl rfl rfl ?_
          refine PW.skip rfl rfl rfl rfl ?_
          refine PW.skip rfl rfl rfl rfl ?_
          refine PW.skip rfl rfl rfl rfl ?_
          refine PW.skip rfl rfl rfl rfl ?_
          refine PW.skip rfl rfl rfl rfl ?_
          refine PW.skip rfl rfl rfl rfl ?_
          refine PW.skip rfl rfl rfl rfl ?_
          refine PW.skip rfl rfl rfl rfl ?_
          refine PW.ex rfl rfl rfl rfl (by first | exact Ex.pick_yes rfl rfl | exact Ex.pick_no rfl rfl) ?_
          refine PW.ex rfl rfl rfl rfl (by first | exact Ex.pick_yes rfl rfl | exact Ex.pick_no rfl rfl) ?_
          refine PW.nil ?_
          refine LW.nil fun aa ha => hK38 _ _ _ ?_ aa ha
          refine CW.no rfl ?_
          refine CW.skip fun aa ha => hK37 _ _ _ ?_ aa ha
          refine CW.region [0, 1, 2] rfl ?_
          refine LW.ex rfl rfl rfl rfl (Ex.move rfl) hS.rd ?_
          refine LW.ex rfl rfl rfl rfl (Ex.add rfl rfl (by first | exact inc64 (by omega) | exact addN (by omega) | exact w64 (by omega) (by omega))) hS.rd ?_
          refine LW.ex rfl rfl rfl rfl (Ex.assign rfl) hS.rd ?_
          refine LW.nil fun aa ha => ?_
          refine ⟨_, _, ?m2, ⟨i + 1, (by first | omega | (simp; done) | (simp; omega)), rfl, rfl, hS, ?_⟩, ha.sub ⟨rfl, rfl, trivial⟩⟩
          case m2 => omega
          rw [he]; exact rises_step _ _ _ _ hi2 (by rw [okChord_r]; simp_all) (fun h => by omega)
      · skip
        refine PW.ex rfl rfl rfl rfl (Ex.not rfl rfl) ?_
        refine PW.ex rfl rfl rfl rfl (by first | exact Ex.pick_yes rfl rfl | exact Ex.pick_no rfl rfl) ?_
        refine PW.ex rfl rfl rfl rfl (Ex.move rfl) ?_
        refine PW.skip rfl rfl rfl rfl ?_
        refine PW.skip rfl rfl rfl rfl ?_
        refine PW.skip rfl rfl rfl rfl ?_
        refine PW.skip rfl rfl rfl rfl ?_
        refine PW.skip rfl rfl rfl rfl ?_
        refine PW.skip rfl rfl rfl rfl ?_
        refine PW.skip rfl rfl rfl rfl ?_
        refine PW.skip rfl rfl rfl rfl ?_
        refine PW.skip rfl rfl rfl rfl ?_
        refine PW.skip rfl rfl rfl rfl ?_
        refine PW.skip rfl rfl rfl rfl ?_
        refine PW.skip rfl rfl rfl rfl ?_
        refine PW.skip rfl rfl rfl rfl ?_
        refine PW.skip rfl rfl rfl rfl ?_
        refine PW.skip rfl rfl rfl rfl ?_
        refine PW.skip rfl rfl rfl rfl ?_
        refine PW.ex rfl rfl rfl rfl (by first | exact Ex.pick_yes rfl rfl | exact Ex.pick_no rfl rfl) ?_
        refine PW.nil ?_
        refine LW.nil fun aa ha => hK38 _ _ _ ?_ aa ha
        refine CW.yes rfl ?_
        refine CW.seq fun K40 hK40 => ?_
        refine CW.region [0] rfl ?_
        refine LW.ex rfl rfl rfl rfl (Ex.assign rfl) hS.rd ?_
        refine LW.nil fun aa ha => hK40 _ _ _ ?_ aa ha
        refine CW.ret fun aa ha => ?_
        refine ret_one ha Try.results59 rfl ?_
        rw [chordsR_not (by rw [he, rises_not _ _ _ _ hi2 (by rw [okChord_r]; simp_all)])]; exact hS.retS
    · skip
      refine PW.ex rfl rfl rfl rfl (Ex.not rfl rfl) ?_
      refine PW.ex rfl rfl rfl rfl (Ex.move rfl) ?_
      refine PW.skip rfl rfl rfl rfl ?_
      refine PW.skip rfl rfl rfl rfl ?_
      refine PW.skip rfl rfl rfl rfl ?_
      refine PW.skip rfl rfl rfl rfl ?_
      refine PW.skip rfl rfl rfl rfl ?_
      refine PW.skip1 rfl rfl rfl rfl ?_
      refine PW.skip rfl rfl rfl rfl ?_
      refine PW.ex rfl rfl rfl rfl (by first | exact Ex.pick_yes rfl rfl | exact Ex.pick_no rfl rfl) ?_
      refine PW.ex rfl rfl rfl rfl (Ex.move rfl) ?_
      refine PW.skip rfl rfl rfl rfl ?_
      refine PW.skip rfl rfl rfl rfl ?_
      refine PW.skip rfl rfl rfl rfl ?_
      refine PW.skip rfl rfl rfl rfl ?_
      refine PW.skip rfl rfl rfl rfl ?_
      refine PW.skip rfl rfl rfl rfl ?_
      refine PW.skip rfl rfl rfl rfl ?_
      refine PW.skip rfl rfl rfl rfl ?_
      refine PW.skip rfl rfl rfl rfl ?_
      refine PW.skip rfl rfl rfl rfl ?_
      refine PW.skip rfl rfl rfl rfl ?_
      refine PW.skip rfl rfl rfl rfl ?_
      refine PW.skip rfl rfl rfl rfl ?_
      refine PW.skip rfl rfl rfl rfl ?_
      refine PW.skip rfl rfl rfl rfl ?_
      refine PW.skip rfl rfl rfl rfl ?_
      refine PW.ex rfl rfl rfl rfl (by first | exact Ex.pick_yes rfl rfl | exact Ex.pick_no rfl rfl) ?_
      refine PW.nil ?_
      refine LW.nil fun aa ha => hK38 _ _ _ ?_ aa ha
      refine CW.yes rfl ?_
      refine CW.seq fun K41 hK41 => ?_
      refine CW.region [0] rfl ?_
      refine LW.ex rfl rfl rfl rfl (Ex.assign rfl) hS.rd ?_
      refine LW.nil fun aa ha => hK41 _ _ _ ?_ aa ha
      refine CW.ret fun aa ha => ?_
      refine ret_one ha Try.results59 rfl ?_
      rw [chordsR_not (by rw [he, rises_not _ _ _ _ hi2 (by rw [okChord_r]; simp_all)])]; exact hS.retS
  · have h2_3 := of_decide_eq_false h2_3
    refine LW.nil fun aa ha => hK36 _ _ _ ?_ aa ha
    refine CW.no rfl ?_
    refine CW.exit fun aa ha => hK33 _ _ _ ?_ aa ha
    refine CW.seq fun K42 hK42 => ?_
    refine CW.region [0, 1, 2, 3] rfl ?_
    refine LW.ex rfl rfl rfl rfl (Ex.move rfl) hS.rd ?_
    refine LW.ex rfl rfl rfl rfl (Ex.lenSl rfl Try.underlying29 rfl) hS.rd ?_
    refine LW.ex rfl rfl rfl rfl (Ex.leq rfl rfl (by first | exact decide_eq_true (by omega) | exact decide_eq_false (by omega) | rfl)) hS.rd ?_
    refine LW.ex rfl rfl rfl rfl (Ex.assign rfl) hS.rd ?_
    refine LW.nil fun aa ha => hK42 _ _ _ ?_ aa ha
    refine CW.ret fun aa ha => ?_
    refine ret_one ha Try.results59 rfl ?_
    have hdr : rises okChord (fun x y => !(sLe y.Keys x.Keys)) none l = true := by rw [he, List.drop_of_length_le (by omega)]; cases prevOf l i <;> rfl
    unfold chordsR
    rw [hdr]; exact hS.retB (by simp only [Bool.true_and]; exact decide_eq_decide.2 (by omega))
theorem valid_same (b : Brd) : validA b = (areasR b.Areas && tplsR b.Templates && chordsR b.Chords) := by
  have e : validA b = ((rises okArea (fun x y => keyLt x.Key y.Key) none b.Areas && decide (b.Areas.length ≤ 26)) && tplsR b.Templates && chordsR b.Chords && (List.range b.Areas.length).all fun i => (b.Areas.take i).all fun o => match b.Areas[i]? with | some a => apartA a o | none => true) := rfl
  rw [e]; unfold areasR
  cases rises okArea (fun x y => keyLt x.Key y.Key) none b.Areas <;> cases decide (b.Areas.length ≤ 26) <;> cases tplsR b.Templates <;> cases chordsR b.Chords <;> simp <;> rfl
theorem refvalid_c (b : Brd) (a0 a1 a2 : Option Addr) (c0 c1 c2 : Nat) (μ : Mem) (w : World) (hμ : Imm μ w) (h0 : Sl μ a0 c0 b.Areas) (h1 : Sl μ a1 c1 b.Templates) (h2 : Sl μ a2 c2 b.Chords) :
    Calls Try.prog 24 #[.agg #[.slice a0 b.Areas.length c0, .slice a1 b.Templates.length c1, .slice a2 b.Chords.length c2]] w (RetS w (.bool (validA b))) := by
  have hS := St.start w μ hμ
  refine calls_start 16 [.agg #[.slice a0 b.Areas.length c0, .slice a1 b.Templates.length c1, .slice a2 b.Chords.length c2]] Try.func24 rfl Try.ntmps24 rfl rfl ?_
  refine CW.seq fun K43 hK43 => ?_
  refine CW.region [0, 1] rfl ?_
  refine LW.hv rfl rfl rfl rfl (Hv.boxS hS rfl rfl) fun v w1 ⟨b1, hv, hb1, hS⟩ => ?_
  subst hv
  refine LW.ex rfl rfl rfl rfl (Ex.assign rfl) hS.rd ?_
  refine LW.nil fun aa ha => hK43 _ _ _ ?_ aa ha
  refine CW.seq fun K44 hK44 => ?_
  refine CW.region [0, 1, 2, 3, 4, 5, 6, 7, 8, 9, 10, 11, 12, 13] rfl ?_
  refine LW.ex rfl rfl rfl rfl (Ex.fieldO 0 Try.underlying31 rfl rfl ti27 rfl) hS.rd ?_
  refine LW.ex rfl rfl rfl rfl (Ex.load1 ti27 rfl rfl (by first | exact Rd.obj (k := 0) rfl rfl | exact Rd.obj (k := 1) rfl rfl | exact Rd.obj (k := 2) rfl rfl | exact Rd.obj (k := 3) rfl rfl | exact Rd.obj (k := 4) rfl rfl | exact Rd.imm (by assumption) | exact Rd.sl (k := 0) rfl (by assumption) | exact Rd.sl (k := 1) rfl (by assumption) | exact Rd.sl (k := 2) rfl (by assumption) | exact Rd.sl (k := 3) rfl (by assumption))) hS.rd ?_
  refine LW.hv rfl rfl rfl rfl (Hv.callS hS rfl rfl rfl cb57 (refareas_c b.Areas _ _ μ _ hS.imm h0)) fun v w5 ⟨hv, hS⟩ => ?_
  subst hv
  refine LW.splitB (fun h1_2 => ?_) (fun h1_2 => ?_)
  · skip
    refine LW.ex rfl rfl rfl rfl (Ex.move rfl) hS.rd ?_
    refine LW.ex rfl rfl rfl rfl (Ex.fieldO 1 Try.underlying31 rfl rfl ti28 rfl) hS.rd ?_
    refine LW.ex rfl rfl rfl rfl (Ex.load1 ti28 rfl rfl (by first | exact Rd.obj (k := 0) rfl rfl | exact Rd.obj (k := 1) rfl rfl | exact Rd.obj (k := 2) rfl rfl | exact Rd.obj (k := 3) rfl rfl | exact Rd.obj (k := 4) rfl rfl | exact Rd.imm (by assumption) | exact Rd.sl (k := 0) rfl (by assumption) | exact Rd.sl (k := 1) rfl (by assumption) | exact Rd.sl (k := 2) rfl (by assumption) | exact Rd.sl (k := 3) rfl (by assumption))) hS.rd ?_
    refine LW.hv rfl rfl rfl rfl (Hv.callS hS rfl rfl rfl cb58 (reftpls_c b.Templates _ _ μ _ hS.imm h1)) fun v w9 ⟨hv, hS⟩ => ?_
    subst hv
    refine LW.splitB (fun h1_6 => ?_) (fun h1_6 => ?_)
    · skip
      refine LW.ex rfl rfl rfl rfl (by first | exact Ex.pick_yes rfl rfl | exact Ex.pick_no rfl rfl) hS.rd ?_
      refine LW.ex rfl rfl rfl rfl (Ex.move rfl) hS.rd ?_
      refine LW.ex rfl rfl rfl rfl (Ex.fieldO 2 Try.underlying31 rfl rfl ti29 rfl) hS.rd ?_
      refine LW.ex rfl rfl rfl rfl (Ex.load1 ti29 rfl rfl (by first | exact Rd.obj (k := 0) rfl rfl | exact Rd.obj (k := 1) rfl rfl | exact Rd.obj (k := 2) rfl rfl | exact Rd.obj (k := 3) rfl rfl | exact Rd.obj (k := 4) rfl rfl | exact Rd.imm (by assumption) | exact Rd.sl (k := 0) rfl (by assumption) | exact Rd.sl (k := 1) rfl (by assumption) | exact Rd.sl (k := 2) rfl (by assumption) | exact Rd.sl (k := 3) rfl (by assumption))) hS.rd ?_
      refine LW.hv rfl rfl rfl rfl (Hv.callS hS rfl rfl rfl cb59 (refchords_c b.Chords _ _ μ _ hS.imm h2)) fun v w14 ⟨hv, hS⟩ => ?_
      subst hv
      refine LW.ex rfl rfl rfl rfl (by first | exact Ex.pick_yes rfl rfl | exact Ex.pick_no rfl rfl) hS.rd ?_
      refine LW.ex rfl rfl rfl rfl (Ex.assign rfl) hS.rd ?_
      refine LW.nil fun aa ha => hK44 _ _ _ ?_ aa ha
      refine CW.ret fun aa ha => ?_
      refine ret_one ha Try.results24 rfl ?_
      refine hS.retB ?_
      rw [valid_same]
      simp_all
    · skip
      refine LW.ex rfl rfl rfl rfl (by first | exact Ex.pick_yes rfl rfl | exact Ex.pick_no rfl rfl) hS.rd ?_
      refine LW.ex rfl rfl rfl rfl (Ex.move rfl) hS.rd ?_
      refine LW.skip rfl rfl rfl rfl ?_
      refine LW.skip rfl rfl rfl rfl ?_
      refine LW.skip rfl rfl rfl rfl ?_
      refine LW.ex rfl rfl rfl rfl (by first | exact Ex.pick_yes rfl rfl | exact Ex.pick_no rfl rfl) hS.rd ?_
      refine LW.ex rfl rfl rfl rfl (Ex.assign rfl) hS.rd ?_
      refine LW.nil fun aa ha => hK44 _ _ _ ?_ aa ha
      refine CW.ret fun aa ha => ?_
      refine ret_one ha Try.results24 rfl ?_
      refine hS.retB ?_
      rw [valid_same]
      simp_all
  · skip
    refine LW.ex rfl rfl rfl rfl (Ex.move rfl) hS.rd ?_
    refine LW.skip rfl rfl rfl rfl ?_
    refine LW.skip rfl rfl rfl rfl ?_
    refine LW.skip rfl rfl rfl rfl ?_
    refine LW.ex rfl rfl rfl rfl (by first | exact Ex.pick_yes rfl rfl | exact Ex.pick_no rfl rfl) hS.rd ?_
    refine LW.ex rfl rfl rfl rfl (Ex.move rfl) hS.rd ?_
    refine LW.skip rfl rfl rfl rfl ?_
    refine LW.skip rfl rfl rfl rfl ?_
    refine LW.skip rfl rfl rfl rfl ?_
    refine LW.ex rfl rfl rfl rfl (by first | exact Ex.pick_yes rfl rfl | exact Ex.pick_no rfl rfl) hS.rd ?_
    refine LW.ex rfl rfl rfl rfl (Ex.assign rfl) hS.rd ?_
    refine LW.nil fun aa ha => hK44 _ _ _ ?_ aa ha
    refine CW.ret fun aa ha => ?_
    refine ret_one ha Try.results24 rfl ?_
    refine hS.retB ?_
    rw [valid_same]
    simp_all
end Go.Proofs.Ytphgjongflkolaa

