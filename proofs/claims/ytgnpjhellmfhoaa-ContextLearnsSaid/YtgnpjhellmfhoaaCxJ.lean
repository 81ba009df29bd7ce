/-
  Context: the walks of the reference's Valid of models.
-/
import Derived.Test.YtgnpjhellmfhoaaCxI
namespace Go.Proofs.Ytgnpjhellmfhoaa
open Go.RowKit Sy


def WOk (m : Mdl) : Prop := 1 ≤ m.Words.length ∧ m.Words.length ≤ 200 ∧ m.Counts.length = m.Words.length ∧ rises wordOk sLt none m.Words = true ∧ (∀ x ∈ m.Counts, 0 ≤ x) ∧ m.Counts.sum ≤ 1073741824
open Classical in
noncomputable def okW (m : Mdl) : Bool := decide (WOk m)
theorem okW_iff {m : Mdl} : okW m = true ↔ WOk m := by unfold okW; exact @decide_eq_true_iff _ (Classical.propDecidable _)
theorem okW_no {m : Mdl} (h : ¬ WOk m) : okW m = false := by rw [Bool.eq_false_iff]; exact fun e => h (okW_iff.1 e)
theorem okW_false {m : Mdl} (h : okW m = false) : ¬ WOk m := fun e => by rw [okW_iff.2 e] at h; cases h
theorem MdlOk.w {m : Mdl} (h : MdlOk m) : WOk m := ⟨h.n1, h.n2, h.nc, h.words, h.c0, h.cs⟩
theorem inR_iff {n a b : Int} : inR n a b = true ↔ a ≤ n ∧ n ≤ b := by unfold inR; exact decide_eq_true_iff
theorem inR_no {n a b : Int} (h : inR n a b = false) : ¬ (a ≤ n ∧ n ≤ b) := fun e => by rw [inR_iff.2 e] at h; cases h
set_option maxRecDepth 100000 in
set_option maxHeartbeats 1000000 in
theorem rwords_c (m : Mdl) (hws : ∀ s ∈ m.Words, s.size ≤ 9223372036854775807) (a0 a1 a2 : Option Addr) (c0 c1 c2 : Nat) (μ : Mem) (w : World) (hμ : Imm μ w) (hm0 : Sl μ a0 c0 m.Words) (hm1 : Sl μ a1 c1 m.Counts) (hm2 : Sl μ a2 c2 m.Pairs) :
    Calls Try.prog 57 #[.agg #[.slice a0 m.Words.length c0, .slice a1 m.Counts.length c1, .slice a2 m.Pairs.length c2, .int .i64 m.Back]] w (RetS w (.bool (okW m))) := by
  have hl0 := hm0.1
  have hl0c := hm0.2.1
  have hl1 := hm1.1
  have hl1c := hm1.2.1
  simp only [maxLen] at hl0c hl1c
  have hS := St.start w μ hμ
  refine calls_start 61 [.agg #[.slice a0 m.Words.length c0, .slice a1 m.Counts.length c1, .slice a2 m.Pairs.length c2, .int .i64 m.Back]] Try.func57 rfl Try.ntmps57 rfl rfl ?_
  refine CW.seq fun K1 hK1 => ?_
  refine CW.region [0, 1] rfl ?_
  refine LW.hv rfl rfl rfl rfl (Hv.boxS hS rfl rfl) fun v w1 ⟨b1, hv, hb1, hS⟩ => ?_
  subst hv
  refine LW.ex rfl rfl rfl rfl (Ex.assign rfl) hS.rd ?_
  refine LW.nil fun aa ha => hK1 _ _ _ ?_ aa ha
  refine CW.seq fun K2 hK2 => ?_
  refine CW.region [0, 1, 2, 3] rfl ?_
  refine LW.ex rfl rfl rfl rfl (Ex.fieldO 0 Try.underlying34 rfl rfl ti30 rfl) hS.rd ?_
  refine LW.ex rfl rfl rfl rfl (Ex.load1 ti30 rfl rfl (by first | exact obT rfl | exact Rd.imm ‹_› | exact slT ‹_›)) hS.rd ?_
  refine LW.ex rfl rfl rfl rfl (Ex.lenSl rfl Try.underlying30 rfl) hS.rd ?_
  refine LW.ex rfl rfl rfl rfl (Ex.assign rfl) hS.rd ?_
  refine LW.nil fun aa ha => hK2 _ _ _ ?_ aa ha
  refine CW.seq fun K3 hK3 => ?_
  refine CW.seq fun K4 hK4 => ?_
  refine CW.region [0, 1, 2, 3, 4, 5, 6, 7, 8, 9] rfl ?_
  refine LW.ex rfl rfl rfl rfl (Ex.move rfl) hS.rd ?_
  refine LW.hv rfl rfl rfl rfl (Hv.callS hS rfl rfl rfl cb36 (in_c _ _ _ _)) fun v w9 ⟨hv, hS⟩ => ?_
  subst hv
  refine LW.splitB (fun h2_1 => ?_) (fun h2_1 => ?_)
  · have h2_1 := inR_iff.1 h2_1
    refine LW.ex rfl rfl rfl rfl (Ex.not rfl rfl) hS.rd ?_
    refine LW.ex rfl rfl rfl rfl (Ex.move rfl) hS.rd ?_
    refine LW.ex rfl rfl rfl rfl (Ex.fieldO 1 Try.underlying34 rfl rfl ti31 rfl) hS.rd ?_
    refine LW.ex rfl rfl rfl rfl (Ex.load1 ti31 rfl rfl (by first | exact obT rfl | exact Rd.imm ‹_› | exact slT ‹_›)) hS.rd ?_
    refine LW.ex rfl rfl rfl rfl (Ex.lenSl rfl Try.underlying31 rfl) hS.rd ?_
    refine LW.ex rfl rfl rfl rfl (Ex.move rfl) hS.rd ?_
    refine LW.ex rfl rfl rfl rfl (Ex.neq rfl rfl rfl) hS.rd ?_
    refine LW.splitB (fun h2_8 => ?_) (fun h2_8 => ?_)
    · have h2_8 := of_decide_eq_true h2_8
      refine LW.ex rfl rfl rfl rfl (by first | exact Ex.pick_yes rfl rfl | exact Ex.pick_no rfl rfl) hS.rd ?_
      refine LW.nil fun aa ha => hK4 _ _ _ ?_ aa ha
      refine CW.yes rfl ?_
      refine CW.seq fun K5 hK5 => ?_
      refine CW.region [0] rfl ?_
      refine LW.ex rfl rfl rfl rfl (Ex.assign rfl) hS.rd ?_
      refine LW.nil fun aa ha => hK5 _ _ _ ?_ aa ha
      refine CW.ret fun aa ha => ?_
      refine ret_one ha Try.results57 rfl ?_
      exact hS.retB (okW_no fun h => by obtain ⟨h1, h2, h3, _⟩ := h; omega).symm
    · have h2_8 := of_decide_eq_false h2_8
      refine LW.ex rfl rfl rfl rfl (by first | exact Ex.pick_yes rfl rfl | exact Ex.pick_no rfl rfl) hS.rd ?_
      refine LW.nil fun aa ha => hK4 _ _ _ ?_ aa ha
      refine CW.no rfl ?_
      refine CW.skip fun aa ha => hK3 _ _ _ ?_ aa ha
      refine CW.seq fun K6 hK6 => ?_
      refine CW.seq fun K7 hK7 => ?_
      refine CW.region [0] rfl ?_
      refine LW.ex rfl rfl rfl rfl (Ex.assign rfl) hS.rd ?_
      refine LW.nil fun aa ha => hK7 _ _ _ ?_ aa ha
      refine CW.block ?_
      refine CW.loop (fun qq frm wl5 => ∃ (i : Nat), i ≤ m.Words.length ∧ qq = m.Words.length - i ∧ frm = [(1, .pointer (some ⟨b1, 0, none⟩)), (3, .int .i64 m.Words.length), (4, .int .i64 i)] ∧ St w wl5 μ [Own.obj b1 [.slice a0 m.Words.length c0, .slice a1 m.Counts.length c1, .slice a2 m.Pairs.length c2, .int .i64 m.Back] 34] ∧ (rises wordOk sLt none m.Words = rises wordOk sLt (prevOf m.Words i) (m.Words.drop i)) ∧ (∀ k (hk : k < m.Counts.length), k < i → 0 ≤ m.Counts[k] ∧ m.Counts[k] ≤ 1073741824)) _ ⟨0, (by first | omega | (simp; done) | (simp; omega)), rfl, rfl, hS, rfl, fun k _ hk => by omega⟩ ⟨rfl, rfl, rfl, trivial⟩ ?_
      clear hS
      rintro qq frm wl5 ⟨i, hi, hq, rfl, hS, he, hc⟩
      refine CW.seq fun K8 hK8 => ?_
      refine CW.seq fun K9 hK9 => ?_
      refine CW.region [0, 1, 2] rfl ?_
      refine LW.ex rfl rfl rfl rfl (Ex.move rfl) hS.rd ?_
      refine LW.ex rfl rfl rfl rfl (Ex.move rfl) hS.rd ?_
      refine LW.ex rfl rfl rfl rfl (Ex.lss rfl rfl rfl) hS.rd ?_
      refine LW.splitB (fun h5_2 => ?_) (fun h5_2 => ?_)
      · have h5_2 := of_decide_eq_true h5_2
        refine LW.nil fun aa ha => hK9 _ _ _ ?_ aa ha
        refine CW.yes rfl ?_
        refine CW.skip fun aa ha => hK8 _ _ _ ?_ aa ha
        refine CW.seq fun K10 hK10 => ?_
        refine CW.block ?_
        refine CW.seq fun K11 hK11 => ?_
        have hi2 : i < m.Words.length := by omega
        have hi3 : i < m.Counts.length := by omega
        have hnn : i - 1 < m.Words.length := by omega
        obtain ⟨bl, ol, rfl, k0⟩ := hm0.at hi2
        obtain ⟨bl', ol', e', j0⟩ := hm0.at hnn
        cases e'
        obtain ⟨bc, oc, rfl, l0⟩ := hm1.at hi3
        have hS := hS.drew
        refine CW.draw 34 (.ex 0 <| .ex 1 <| .ex 2 <| .ex 3 <| .ex 4 <| .one 5 <| .ex 6 <| .ex 7 <| .ex 8 <| .ex 9 <| .ex 10 <| .ex 11 <| .ex 12 <| .one 13 <| .ex 14 <| .ex 15 <| .ex 16 <| .ex 17 <| .ex 18 <| .ex 19 <| .ex 20 <| .ex 21 <| .ex 22 <| .ex 23 <| .ex 24 <| .ex 25 <| .ex 26 <| .ex 27 <| .ex 28 <| .ex 29 <| .ex 30 <| .ex 31 <| .ex 32 <| .ex 33 <| .done) [] (Rd _ _) mixed (by kernel_rfl) rfl rfl hS.rd ?_
        refine PW.ex rfl rfl rfl rfl (Ex.fieldO 0 Try.underlying34 rfl rfl ti30 rfl) ?_
        refine PW.ex rfl rfl rfl rfl (Ex.load1 ti30 rfl rfl (by first | exact obT rfl | exact Rd.imm ‹_› | exact slT ‹_›)) ?_
        refine PW.ex rfl rfl rfl rfl (Ex.move rfl) ?_
        refine PW.ex rfl rfl rfl rfl (Ex.indexSl Try.underlying30 ti9 rfl rfl rfl (by omega)) ?_
        refine PW.ex rfl rfl rfl rfl (Ex.load1 ti9 rfl rfl (by first | exact obT rfl | exact Rd.imm ‹_› | exact slT ‹_›)) ?_
        refine PW.hv rfl rfl rfl rfl (Hv.callS hS rfl rfl rfl cb79 (refword_c m.Words[i] _ (hws _ (List.getElem_mem hi2)))) (fun _ _ h => h.2.rd) fun v w28 ⟨hv, hS⟩ => ?_
        subst hv
        refine PW.splitB (fun h7_5 => ?_) (fun h7_5 => ?_)
        · skip
          refine PW.ex rfl rfl rfl rfl (Ex.not rfl rfl) ?_
          refine PW.ex rfl rfl rfl rfl (Ex.move rfl) ?_
          refine PW.ex rfl rfl rfl rfl (Ex.fieldO 1 Try.underlying34 rfl rfl ti31 rfl) ?_
          refine PW.ex rfl rfl rfl rfl (Ex.load1 ti31 rfl rfl (by first | exact obT rfl | exact Rd.imm ‹_› | exact slT ‹_›)) ?_
          refine PW.ex rfl rfl rfl rfl (Ex.move rfl) ?_
          refine PW.ex rfl rfl rfl rfl (Ex.indexSl Try.underlying31 ti3 rfl rfl rfl (by omega)) ?_
          refine PW.ex rfl rfl rfl rfl (Ex.load1 ti3 rfl rfl (by first | exact obT rfl | exact Rd.imm ‹_› | exact slT ‹_›)) ?_
          refine PW.hv rfl rfl rfl rfl (Hv.callS hS rfl rfl rfl cb36 (in_c _ _ _ _)) (fun _ _ h => h.2.rd) fun v w36 ⟨hv, hS⟩ => ?_
          subst hv
          refine PW.splitB (fun h7_13 => ?_) (fun h7_13 => ?_)
          · have h7_13 := inR_iff.1 h7_13
            refine PW.ex rfl rfl rfl rfl (Ex.not rfl rfl) ?_
            refine PW.ex rfl rfl rfl rfl (by first | exact Ex.pick_yes rfl rfl | exact Ex.pick_no rfl rfl) ?_
            refine PW.ex rfl rfl rfl rfl (Ex.move rfl) ?_
            refine PW.ex rfl rfl rfl rfl (Ex.move rfl) ?_
            refine PW.ex rfl rfl rfl rfl (Ex.gtr rfl rfl rfl) ?_
            refine PW.splitB (fun h7_18 => ?_) (fun h7_18 => ?_)
            · have h7_18 := of_decide_eq_true h7_18
              refine PW.ex rfl rfl rfl rfl (Ex.move rfl) ?_
              refine PW.ex rfl rfl rfl rfl (Ex.fieldO 0 Try.underlying34 rfl rfl ti30 rfl) ?_
              refine PW.ex rfl rfl rfl rfl (Ex.load1 ti30 rfl rfl (by first | exact obT rfl | exact Rd.imm ‹_› | exact slT ‹_›)) ?_
              refine PW.ex rfl rfl rfl rfl (Ex.move rfl) ?_
              refine PW.ex rfl rfl rfl rfl (Ex.sub rfl rfl (by first | exact dec64 (by omega) (by omega) | exact subN (by omega) (by omega) | exact w64 (by omega) (by omega))) ?_
              refine PW.ex rfl rfl rfl rfl (Ex.indexSl Try.underlying30 ti9 rfl rfl rfl (by omega)) ?_
              refine PW.ex rfl rfl rfl rfl (Ex.load1 ti9 rfl rfl (by first | exact obT rfl | exact Rd.imm ‹_› | exact slT ‹_›)) ?_
              refine PW.ex rfl rfl rfl rfl (Ex.fieldO 0 Try.underlying34 rfl rfl ti30 rfl) ?_
              refine PW.ex rfl rfl rfl rfl (Ex.load1 ti30 rfl rfl (by first | exact obT rfl | exact Rd.imm ‹_› | exact slT ‹_›)) ?_
              refine PW.ex rfl rfl rfl rfl (Ex.move rfl) ?_
              refine PW.ex rfl rfl rfl rfl (Ex.indexSl Try.underlying30 ti9 rfl rfl rfl (by omega)) ?_
              refine PW.ex rfl rfl rfl rfl (Ex.load1 ti9 rfl rfl (by first | exact obT rfl | exact Rd.imm ‹_› | exact slT ‹_›)) ?_
              refine PW.ex rfl rfl rfl rfl (Ex.geqS rfl rfl rfl) ?_
              refine PW.splitB (fun h7_31 => ?_) (fun h7_31 => ?_)
              · skip
                refine PW.ex rfl rfl rfl rfl (by first | exact Ex.pick_yes rfl rfl | exact Ex.pick_no rfl rfl) ?_
                refine PW.ex rfl rfl rfl rfl (by first | exact Ex.pick_yes rfl rfl | exact Ex.pick_no rfl rfl) ?_
                refine PW.nil ?_
                refine LW.nil fun aa ha => hK11 _ _ _ ?_ aa ha
                refine CW.yes rfl ?_
                refine CW.seq fun K12 hK12 => ?_
                refine CW.region [0] rfl ?_
                refine LW.ex rfl rfl rfl rfl (Ex.assign rfl) hS.rd ?_
                refine LW.nil fun aa ha => hK12 _ _ _ ?_ aa ha
                refine CW.ret fun aa ha => ?_
                refine ret_one ha Try.results57 rfl ?_
                exact hS.retB (okW_no fun h => by have h1 := h.2.2.2.1; rw [he, rises_not2 _ _ _ _ hi2 (by omega) (by simpa using h7_31)] at h1; cases h1).symm
              · skip
                refine PW.ex rfl rfl rfl rfl (by first | exact Ex.pick_yes rfl rfl | exact Ex.pick_no rfl rfl) ?_
                refine PW.ex rfl rfl rfl rfl (by first | exact Ex.pick_yes rfl rfl | exact Ex.pick_no rfl rfl) ?_
                refine PW.nil ?_
                refine LW.nil fun aa ha => hK11 _ _ _ ?_ aa ha
                refine CW.no rfl ?_
                refine CW.skip fun aa ha => hK10 _ _ _ ?_ aa ha
                refine CW.region [0, 1, 2] rfl ?_
                refine LW.ex rfl rfl rfl rfl (Ex.move rfl) hS.rd ?_
                refine LW.ex rfl rfl rfl rfl (Ex.add rfl rfl (by first | exact inc64 (by omega) | exact addN (by omega) | exact w64 (by omega) (by omega))) hS.rd ?_
                refine LW.ex rfl rfl rfl rfl (Ex.assign rfl) hS.rd ?_
                refine LW.nil fun aa ha => ?_
                refine ⟨_, _, ?m5, ⟨i + 1, (by first | omega | (simp; done) | (simp; omega)), rfl, rfl, hS, ?_, ?_⟩, ha.sub ⟨rfl, rfl, rfl, trivial⟩⟩
                case m5 => omega
                · rw [he]; exact rises_step _ _ _ _ hi2 (by simpa using h7_5) (fun _ => by simpa using h7_31)
                · intro k hk hki; by_cases hk2 : k = i; (· subst hk2; exact h7_13); (· exact hc k hk (by omega))
            · have h7_18 := of_decide_eq_false h7_18
              refine PW.ex rfl rfl rfl rfl (Ex.move rfl) ?_
              refine PW.skip rfl rfl rfl rfl ?_
              refine PW.skip rfl rfl rfl rfl ?_
              refine PW.skip rfl rfl rfl rfl ?_
              refine PW.skip rfl rfl rfl rfl ?_
              refine PW.skip rfl rfl rfl rfl ?_
              refine PW.skip rfl rfl rfl rfl ?_
              refine PW.skip rfl rfl rfl rfl ?_
              refine PW.skip rfl rfl rfl rfl ?_
              refine PW.skip rfl rfl rfl rfl ?_
              refine PW.skip rfl rfl rfl rfl ?_
              refine PW.skip rfl rfl rfl rfl ?_
              refine PW.skip rfl rfl rfl rfl ?_
              refine PW.ex rfl rfl rfl rfl (by first | exact Ex.pick_yes rfl rfl | exact Ex.pick_no rfl rfl) ?_
              refine PW.ex rfl rfl rfl rfl (by first | exact Ex.pick_yes rfl rfl | exact Ex.pick_no rfl rfl) ?_
              refine PW.nil ?_
              refine LW.nil fun aa ha => hK11 _ _ _ ?_ aa ha
              refine CW.no rfl ?_
              refine CW.skip fun aa ha => hK10 _ _ _ ?_ aa ha
              refine CW.region [0, 1, 2] rfl ?_
              refine LW.ex rfl rfl rfl rfl (Ex.move rfl) hS.rd ?_
              refine LW.ex rfl rfl rfl rfl (Ex.add rfl rfl (by first | exact inc64 (by omega) | exact addN (by omega) | exact w64 (by omega) (by omega))) hS.rd ?_
              refine LW.ex rfl rfl rfl rfl (Ex.assign rfl) hS.rd ?_
              refine LW.nil fun aa ha => ?_
              refine ⟨_, _, ?m5, ⟨i + 1, (by first | omega | (simp; done) | (simp; omega)), rfl, rfl, hS, ?_, ?_⟩, ha.sub ⟨rfl, rfl, rfl, trivial⟩⟩
              case m5 => omega
              · rw [he]; exact rises_step _ _ _ _ hi2 (by simpa using h7_5) (fun h0 => by omega)
              · intro k hk hki; by_cases hk2 : k = i; (· subst hk2; exact h7_13); (· exact hc k hk (by omega))
          · have h7_13 := inR_no h7_13
            refine PW.ex rfl rfl rfl rfl (Ex.not rfl rfl) ?_
            refine PW.ex rfl rfl rfl rfl (by first | exact Ex.pick_yes rfl rfl | exact Ex.pick_no rfl rfl) ?_
            refine PW.ex rfl rfl rfl rfl (Ex.move rfl) ?_
            refine PW.skip rfl rfl rfl rfl ?_
            refine PW.skip rfl rfl rfl rfl ?_
            refine PW.skip rfl rfl rfl rfl ?_
            refine PW.skip rfl rfl rfl rfl ?_
            refine PW.skip rfl rfl rfl rfl ?_
            refine PW.skip rfl rfl rfl rfl ?_
            refine PW.skip rfl rfl rfl rfl ?_
            refine PW.skip rfl rfl rfl rfl ?_
            refine PW.skip rfl rfl rfl rfl ?_
            refine PW.skip rfl rfl rfl rfl ?_
            refine PW.skip rfl rfl rfl rfl ?_
            refine PW.skip rfl rfl rfl rfl ?_
            refine PW.skip rfl rfl rfl rfl ?_
            refine PW.skip rfl rfl rfl rfl ?_
            refine PW.skip rfl rfl rfl rfl ?_
            refine PW.skip rfl rfl rfl rfl ?_
            refine PW.ex rfl rfl rfl rfl (by first | exact Ex.pick_yes rfl rfl | exact Ex.pick_no rfl rfl) ?_
            refine PW.nil ?_
            refine LW.nil fun aa ha => hK11 _ _ _ ?_ aa ha
            refine CW.yes rfl ?_
            refine CW.seq fun K13 hK13 => ?_
            refine CW.region [0] rfl ?_
            refine LW.ex rfl rfl rfl rfl (Ex.assign rfl) hS.rd ?_
            refine LW.nil fun aa ha => hK13 _ _ _ ?_ aa ha
            refine CW.ret fun aa ha => ?_
            refine ret_one ha Try.results57 rfl ?_
            exact hS.retB (okW_no fun h => by have h1 := h.2.2.2.2.1 m.Counts[i] (List.getElem_mem hi3); have h2 := le_sum h.2.2.2.2.1 (List.getElem_mem hi3); have h3 := h.2.2.2.2.2; omega).symm
        · skip
          refine PW.ex rfl rfl rfl rfl (Ex.not rfl rfl) ?_
          refine PW.ex rfl rfl rfl rfl (Ex.move rfl) ?_
          refine PW.skip rfl rfl rfl rfl ?_
          refine PW.skip rfl rfl rfl rfl ?_
          refine PW.skip rfl rfl rfl rfl ?_
          refine PW.skip rfl rfl rfl rfl ?_
          refine PW.skip rfl rfl rfl rfl ?_
          refine PW.skip1 rfl rfl rfl rfl ?_
          refine PW.skip rfl rfl rfl rfl ?_
          refine PW.ex rfl rfl rfl rfl (by first | exact Ex.pick_yes rfl rfl | exact Ex.pick_no rfl rfl) ?_
          refine PW.ex rfl rfl rfl rfl (Ex.move rfl) ?_
          refine PW.skip rfl rfl rfl rfl ?_
          refine PW.skip rfl rfl rfl rfl ?_
          refine PW.skip rfl rfl rfl rfl ?_
          refine PW.skip rfl rfl rfl rfl ?_
          refine PW.skip rfl rfl rfl rfl ?_
          refine PW.skip rfl rfl rfl rfl ?_
          refine PW.skip rfl rfl rfl rfl ?_
          refine PW.skip rfl rfl rfl rfl ?_
          refine PW.skip rfl rfl rfl rfl ?_
          refine PW.skip rfl rfl rfl rfl ?_
          refine PW.skip rfl rfl rfl rfl ?_
          refine PW.skip rfl rfl rfl rfl ?_
          refine PW.skip rfl rfl rfl rfl ?_
          refine PW.skip rfl rfl rfl rfl ?_
          refine PW.skip rfl rfl rfl rfl ?_
          refine PW.skip rfl rfl rfl rfl ?_
          refine PW.ex rfl rfl rfl rfl (by first | exact Ex.pick_yes rfl rfl | exact Ex.pick_no rfl rfl) ?_
          refine PW.nil ?_
          refine LW.nil fun aa ha => hK11 _ _ _ ?_ aa ha
          refine CW.yes rfl ?_
          refine CW.seq fun K14 hK14 => ?_
          refine CW.region [0] rfl ?_
          refine LW.ex rfl rfl rfl rfl (Ex.assign rfl) hS.rd ?_
          refine LW.nil fun aa ha => hK14 _ _ _ ?_ aa ha
          refine CW.ret fun aa ha => ?_
          refine ret_one ha Try.results57 rfl ?_
          exact hS.retB (okW_no fun h => by have h1 := h.2.2.2.1; rw [he, rises_not _ _ _ _ hi2 (by simpa using h7_5)] at h1; cases h1).symm
      · have h5_2 := of_decide_eq_false h5_2
        refine LW.nil fun aa ha => hK9 _ _ _ ?_ aa ha
        refine CW.no rfl ?_
        refine CW.exit fun aa ha => hK6 _ _ _ ?_ aa ha
        refine CW.seq fun K15 hK15 => ?_
        have hc2 : ∀ x ∈ m.Counts, 0 ≤ x ∧ x ≤ 1073741824 := fun x hx => by obtain ⟨k, hk, rfl⟩ := List.getElem_of_mem hx; exact hc k hk (by omega)
        have hW : rises wordOk sLt none m.Words = true := by rw [he]; exact rises_end _ _ _ _ (by omega)
        refine CW.region [0, 1, 2, 3, 4] rfl ?_
        refine LW.ex rfl rfl rfl rfl (Ex.fieldO 1 Try.underlying34 rfl rfl ti31 rfl) hS.rd ?_
        refine LW.ex rfl rfl rfl rfl (Ex.load1 ti31 rfl rfl (by first | exact obT rfl | exact Rd.imm ‹_› | exact slT ‹_›)) hS.rd ?_
        refine LW.hv rfl rfl rfl rfl (Hv.callS hS rfl rfl rfl cb45 (refTotal_c m.Counts ⟨by omega, hc2⟩ _ _ _ _ hS.imm hm1)) fun v w59 ⟨hv, hS⟩ => ?_
        subst hv
        refine LW.ex rfl rfl rfl rfl (Ex.leq rfl rfl (by first | exact decide_eq_true (by omega) | exact decide_eq_false (by omega) | rfl)) hS.rd ?_
        refine LW.ex rfl rfl rfl rfl (Ex.assign rfl) hS.rd ?_
        refine LW.nil fun aa ha => hK15 _ _ _ ?_ aa ha
        refine CW.ret fun aa ha => ?_
        refine ret_one ha Try.results57 rfl ?_
        refine hS.retB ?_
        rw [Bool.eq_iff_iff, okW_iff, decide_eq_true_eq]
        exact ⟨fun h => ⟨by omega, by omega, by omega, hW, fun x hx => (hc2 x hx).1, h⟩, fun h => h.2.2.2.2.2⟩
  · have h2_1 := inR_no h2_1
    refine LW.ex rfl rfl rfl rfl (Ex.not rfl rfl) hS.rd ?_
    refine LW.ex rfl rfl rfl rfl (Ex.move rfl) hS.rd ?_
    refine LW.skip rfl rfl rfl rfl ?_
    refine LW.skip rfl rfl rfl rfl ?_
    refine LW.skip rfl rfl rfl rfl ?_
    refine LW.skip rfl rfl rfl rfl ?_
    refine LW.skip rfl rfl rfl rfl ?_
    refine LW.ex rfl rfl rfl rfl (by first | exact Ex.pick_yes rfl rfl | exact Ex.pick_no rfl rfl) hS.rd ?_
    refine LW.nil fun aa ha => hK4 _ _ _ ?_ aa ha
    refine CW.yes rfl ?_
    refine CW.seq fun K16 hK16 => ?_
    refine CW.region [0] rfl ?_
    refine LW.ex rfl rfl rfl rfl (Ex.assign rfl) hS.rd ?_
    refine LW.nil fun aa ha => hK16 _ _ _ ?_ aa ha
    refine CW.ret fun aa ha => ?_
    refine ret_one ha Try.results57 rfl ?_
    exact hS.retB (okW_no fun h => by obtain ⟨h1, h2, h3, _⟩ := h; omega).symm
set_option maxRecDepth 100000 in
set_option maxHeartbeats 1000000 in
theorem rvalid_c (m : Mdl) (hws : ∀ s ∈ m.Words, s.size ≤ 9223372036854775807) (hN : NSmall m.Pairs) (a0 a1 a2 : Option Addr) (c0 c1 c2 : Nat) (μ : Mem) (w : World) (hμ : Imm μ w) (hm0 : Sl μ a0 c0 m.Words) (hm1 : Sl μ a1 c1 m.Counts) (hm2 : Sl μ a2 c2 m.Pairs) :
    Calls Try.prog 34 #[.agg #[.slice a0 m.Words.length c0, .slice a1 m.Counts.length c1, .slice a2 m.Pairs.length c2, .int .i64 m.Back]] w (RetS w (.bool (okM m))) := by
  have hl2 := hm2.1
  have hNl := hN.1
  have hS := St.start w μ hμ
  refine calls_start 78 [.agg #[.slice a0 m.Words.length c0, .slice a1 m.Counts.length c1, .slice a2 m.Pairs.length c2, .int .i64 m.Back]] Try.func34 rfl Try.ntmps34 rfl rfl ?_
  refine CW.seq fun K17 hK17 => ?_
  refine CW.region [0, 1] rfl ?_
  refine LW.hv rfl rfl rfl rfl (Hv.boxS hS rfl rfl) fun v w1 ⟨b1, hv, hb1, hS⟩ => ?_
  subst hv
  refine LW.ex rfl rfl rfl rfl (Ex.assign rfl) hS.rd ?_
  refine LW.nil fun aa ha => hK17 _ _ _ ?_ aa ha
  refine CW.seq fun K18 hK18 => ?_
  refine CW.seq fun K19 hK19 => ?_
  refine CW.region [0, 1, 2, 3, 4, 5, 6, 7, 8, 9, 10, 11, 12, 13, 14] rfl ?_
  refine LW.ex rfl rfl rfl rfl (Ex.load4c ti34 rfl rfl (by first | exact obT rfl | exact Rd.imm ‹_› | exact slT ‹_›) (by first | exact obT rfl | exact Rd.imm ‹_› | exact slT ‹_›) (by first | exact obT rfl | exact Rd.imm ‹_› | exact slT ‹_›) (by first | exact obT rfl | exact Rd.imm ‹_› | exact slT ‹_›)) hS.rd ?_
  refine LW.hv rfl rfl rfl rfl (Hv.callS hS rfl rfl rfl cb57 (rwords_c m hws _ _ _ _ _ _ μ _ hS.imm hm0 hm1 hm2)) fun v w7 ⟨hv, hS⟩ => ?_
  subst hv
  refine LW.splitB (fun h1_1 => ?_) (fun h1_1 => ?_)
  · skip
    refine LW.ex rfl rfl rfl rfl (Ex.not rfl rfl) hS.rd ?_
    refine LW.ex rfl rfl rfl rfl (Ex.move rfl) hS.rd ?_
    refine LW.ex rfl rfl rfl rfl (Ex.fieldO 2 Try.underlying34 rfl rfl ti32 rfl) hS.rd ?_
    refine LW.ex rfl rfl rfl rfl (Ex.load1 ti32 rfl rfl (by first | exact obT rfl | exact Rd.imm ‹_› | exact slT ‹_›)) hS.rd ?_
    refine LW.ex rfl rfl rfl rfl (Ex.lenSl rfl Try.underlying32 rfl) hS.rd ?_
    refine LW.ex rfl rfl rfl rfl (Ex.gtr rfl rfl rfl) hS.rd ?_
    refine LW.splitB (fun h1_7 => ?_) (fun h1_7 => ?_)
    · have h1_7 := of_decide_eq_true h1_7
      refine LW.ex rfl rfl rfl rfl (by first | exact Ex.pick_yes rfl rfl | exact Ex.pick_no rfl rfl) hS.rd ?_
      refine LW.ex rfl rfl rfl rfl (Ex.move rfl) hS.rd ?_
      refine LW.skip rfl rfl rfl rfl ?_
      refine LW.skip rfl rfl rfl rfl ?_
      refine LW.skip rfl rfl rfl rfl ?_
      refine LW.skip rfl rfl rfl rfl ?_
      refine LW.ex rfl rfl rfl rfl (by first | exact Ex.pick_yes rfl rfl | exact Ex.pick_no rfl rfl) hS.rd ?_
      refine LW.nil fun aa ha => hK19 _ _ _ ?_ aa ha
      refine CW.yes rfl ?_
      refine CW.seq fun K20 hK20 => ?_
      refine CW.region [0] rfl ?_
      refine LW.ex rfl rfl rfl rfl (Ex.assign rfl) hS.rd ?_
      refine LW.nil fun aa ha => hK20 _ _ _ ?_ aa ha
      refine CW.ret fun aa ha => ?_
      refine ret_one ha Try.results34 rfl ?_
      exact hS.retB (okM_no fun h => by have := h.pl; have := h.b0; have := h.b1; omega).symm
    · have h1_7 := of_decide_eq_false h1_7
      refine LW.ex rfl rfl rfl rfl (by first | exact Ex.pick_yes rfl rfl | exact Ex.pick_no rfl rfl) hS.rd ?_
      refine LW.ex rfl rfl rfl rfl (Ex.move rfl) hS.rd ?_
      refine LW.ex rfl rfl rfl rfl (Ex.fieldO 3 Try.underlying34 rfl rfl ti3 rfl) hS.rd ?_
      refine LW.ex rfl rfl rfl rfl (Ex.load1 ti3 rfl rfl (by first | exact obT rfl | exact Rd.imm ‹_› | exact slT ‹_›)) hS.rd ?_
      refine LW.hv rfl rfl rfl rfl (Hv.callS hS rfl rfl rfl cb36 (in_c _ _ _ _)) fun v w18 ⟨hv, hS⟩ => ?_
      subst hv
      refine LW.splitB (fun h1_12 => ?_) (fun h1_12 => ?_)
      · have h1_12 := inR_iff.1 h1_12
        refine LW.ex rfl rfl rfl rfl (Ex.not rfl rfl) hS.rd ?_
        refine LW.ex rfl rfl rfl rfl (by first | exact Ex.pick_yes rfl rfl | exact Ex.pick_no rfl rfl) hS.rd ?_
        refine LW.nil fun aa ha => hK19 _ _ _ ?_ aa ha
        refine CW.no rfl ?_
        refine CW.skip fun aa ha => hK18 _ _ _ ?_ aa ha
        refine CW.seq fun K21 hK21 => ?_
        have hW := okW_iff.1 h1_1
        obtain ⟨hW1, hW2, hW3, hW4, hW5, hW6⟩ := hW
        refine CW.region [0, 1, 2, 3] rfl ?_
        refine LW.ex rfl rfl rfl rfl (Ex.fieldO 0 Try.underlying34 rfl rfl ti30 rfl) hS.rd ?_
        refine LW.ex rfl rfl rfl rfl (Ex.load1 ti30 rfl rfl (by first | exact obT rfl | exact Rd.imm ‹_› | exact slT ‹_›)) hS.rd ?_
        refine LW.ex rfl rfl rfl rfl (Ex.lenSl rfl Try.underlying30 rfl) hS.rd ?_
        refine LW.ex rfl rfl rfl rfl (Ex.assign rfl) hS.rd ?_
        refine LW.nil fun aa ha => hK21 _ _ _ ?_ aa ha
        refine CW.seq fun K22 hK22 => ?_
        refine CW.seq fun K23 hK23 => ?_
        refine CW.region [0] rfl ?_
        refine LW.ex rfl rfl rfl rfl (Ex.assign rfl) hS.rd ?_
        refine LW.nil fun aa ha => hK23 _ _ _ ?_ aa ha
        refine CW.block ?_
        refine CW.loop (fun qq frm wl5 => ∃ (i : Nat), i ≤ m.Pairs.length ∧ qq = m.Pairs.length - i ∧ frm = [(1, .pointer (some ⟨b1, 0, none⟩)), (3, .int .i64 m.Words.length), (4, .int .i64 i)] ∧ St w wl5 μ [Own.obj b1 [.slice a0 m.Words.length c0, .slice a1 m.Counts.length c1, .slice a2 m.Pairs.length c2, .int .i64 m.Back] 34] ∧ (rises (prIn m.Words.length) prLess none m.Pairs = rises (prIn m.Words.length) prLess (prevOf m.Pairs i) (m.Pairs.drop i)) ∧ (∀ k (hk : k < m.Pairs.length), k < i → 1 ≤ m.Pairs[k].N ∧ sumN m.Pairs m.Pairs[k].A ≤ 1073741824)) _ ⟨0, (by first | omega | (simp; done) | (simp; omega)), rfl, rfl, hS, rfl, fun k _ hk => by omega⟩ ⟨rfl, rfl, rfl, trivial⟩ ?_
        clear hS
        rintro qq frm wl5 ⟨i, hi, hq, rfl, hS, hf, hc⟩
        refine CW.seq fun K24 hK24 => ?_
        refine CW.seq fun K25 hK25 => ?_
        refine CW.region [0, 1, 2, 3, 4] rfl ?_
        refine LW.ex rfl rfl rfl rfl (Ex.move rfl) hS.rd ?_
        refine LW.ex rfl rfl rfl rfl (Ex.fieldO 2 Try.underlying34 rfl rfl ti32 rfl) hS.rd ?_
        refine LW.ex rfl rfl rfl rfl (Ex.load1 ti32 rfl rfl (by first | exact obT rfl | exact Rd.imm ‹_› | exact slT ‹_›)) hS.rd ?_
        refine LW.ex rfl rfl rfl rfl (Ex.lenSl rfl Try.underlying32 rfl) hS.rd ?_
        refine LW.ex rfl rfl rfl rfl (Ex.lss rfl rfl rfl) hS.rd ?_
        refine LW.splitB (fun h5_4 => ?_) (fun h5_4 => ?_)
        · have h5_4 := of_decide_eq_true h5_4
          refine LW.nil fun aa ha => hK25 _ _ _ ?_ aa ha
          refine CW.yes rfl ?_
          refine CW.skip fun aa ha => hK24 _ _ _ ?_ aa ha
          refine CW.seq fun K26 hK26 => ?_
          refine CW.block ?_
          refine CW.seq fun K27 hK27 => ?_
          have hi2 : i < m.Pairs.length := by omega
          have hnn : i - 1 < m.Pairs.length := by omega
          obtain ⟨bl, ol, rfl, k0, k1, k2⟩ := hm2.at hi2
          obtain ⟨bl', ol', e', j0, j1, j2⟩ := hm2.at hnn
          cases e'
          refine CW.region [0, 1, 2, 3, 4, 5, 6] rfl ?_
          refine LW.ex rfl rfl rfl rfl (Ex.fieldO 2 Try.underlying34 rfl rfl ti32 rfl) hS.rd ?_
          refine LW.ex rfl rfl rfl rfl (Ex.load1 ti32 rfl rfl (by first | exact obT rfl | exact Rd.imm ‹_› | exact slT ‹_›)) hS.rd ?_
          refine LW.ex rfl rfl rfl rfl (Ex.move rfl) hS.rd ?_
          refine LW.ex rfl rfl rfl rfl (Ex.indexSl Try.underlying32 ti87 rfl rfl rfl (by omega)) hS.rd ?_
          refine LW.ex rfl rfl rfl rfl (Ex.load3c ti87 rfl rfl (by first | exact obT rfl | exact Rd.imm ‹_› | exact slT ‹_›) (by first | exact obT rfl | exact Rd.imm ‹_› | exact slT ‹_›) (by first | exact obT rfl | exact Rd.imm ‹_› | exact slT ‹_›)) hS.rd ?_
          refine LW.hv rfl rfl rfl rfl (Hv.alloc ti87 hS) fun v w5 ⟨b5, hv, hb5, hS⟩ => ?_
          subst hv
          refine LW.hu rfl rfl rfl (Hv.storeN (k := 0) ti87 hS rfl rfl rfl rfl (by simp [Value.oneCell'])) fun _ w_6 hS => ?_
          dsimp only [List.set] at hS
          refine LW.nil fun aa ha => hK27 _ _ _ ?_ aa ha
          refine CW.seq fun K28 hK28 => ?_
          have hS := hS.drew
          refine CW.draw 42 (.ex 0 <| .ex 1 <| .ex 2 <| .ex 3 <| .one 4 <| .ex 5 <| .ex 6 <| .ex 7 <| .ex 8 <| .ex 9 <| .ex 10 <| .one 11 <| .ex 12 <| .ex 13 <| .ex 14 <| .ex 15 <| .ex 16 <| .one 17 <| .ex 18 <| .ex 19 <| .ex 20 <| .ex 21 <| .ex 22 <| .ex 23 <| .ex 24 <| .ex 25 <| .ex 26 <| .ex 27 <| .ex 28 <| .ex 29 <| .ex 30 <| .one 31 <| .ex 32 <| .ex 33 <| .ex 34 <| .ex 35 <| .ex 36 <| .ex 37 <| .ex 38 <| .one 39 <| .ex 40 <| .ex 41 <| .done) [] (Rd _ _) mixed (by kernel_rfl) rfl rfl hS.rd ?_
          refine PW.ex rfl rfl rfl rfl (Ex.fieldO 0 Try.underlying87 rfl rfl ti3 rfl) ?_
          refine PW.ex rfl rfl rfl rfl (Ex.load1 ti3 rfl rfl (by first | exact obT rfl | exact Rd.imm ‹_› | exact slT ‹_›)) ?_
          refine PW.ex rfl rfl rfl rfl (Ex.move rfl) ?_
          refine PW.ex rfl rfl rfl rfl (Ex.sub (r := ((m.Words.length : Int) - 1)) rfl rfl (w64 (by omega) (by omega))) ?_
          refine PW.hv rfl rfl rfl rfl (Hv.callS hS rfl rfl rfl cb36 (in_c _ _ _ _)) (fun _ _ h => h.2.rd) fun v w40 ⟨hv, hS⟩ => ?_
          subst hv
          refine PW.splitB (fun h8_4 => ?_) (fun h8_4 => ?_)
          · have h8_4 := inR_iff.1 h8_4
            refine PW.ex rfl rfl rfl rfl (Ex.not rfl rfl) ?_
            refine PW.ex rfl rfl rfl rfl (Ex.move rfl) ?_
            refine PW.ex rfl rfl rfl rfl (Ex.fieldO 1 Try.underlying87 rfl rfl ti3 rfl) ?_
            refine PW.ex rfl rfl rfl rfl (Ex.load1 ti3 rfl rfl (by first | exact obT rfl | exact Rd.imm ‹_› | exact slT ‹_›)) ?_
            refine PW.ex rfl rfl rfl rfl (Ex.move rfl) ?_
            refine PW.ex rfl rfl rfl rfl (Ex.sub (r := ((m.Words.length : Int) - 1)) rfl rfl (w64 (by omega) (by omega))) ?_
            refine PW.hv rfl rfl rfl rfl (Hv.callS hS rfl rfl rfl cb36 (in_c _ _ _ _)) (fun _ _ h => h.2.rd) fun v w47 ⟨hv, hS⟩ => ?_
            subst hv
            refine PW.splitB (fun h8_11 => ?_) (fun h8_11 => ?_)
            · have h8_11 := inR_iff.1 h8_11
              refine PW.ex rfl rfl rfl rfl (Ex.not rfl rfl) ?_
              refine PW.ex rfl rfl rfl rfl (by first | exact Ex.pick_yes rfl rfl | exact Ex.pick_no rfl rfl) ?_
              refine PW.ex rfl rfl rfl rfl (Ex.move rfl) ?_
              refine PW.ex rfl rfl rfl rfl (Ex.fieldO 2 Try.underlying87 rfl rfl ti3 rfl) ?_
              refine PW.ex rfl rfl rfl rfl (Ex.load1 ti3 rfl rfl (by first | exact obT rfl | exact Rd.imm ‹_› | exact slT ‹_›)) ?_
              refine PW.hv rfl rfl rfl rfl (Hv.callS hS rfl rfl rfl cb36 (in_c _ _ _ _)) (fun _ _ h => h.2.rd) fun v w53 ⟨hv, hS⟩ => ?_
              subst hv
              refine PW.splitB (fun h8_17 => ?_) (fun h8_17 => ?_)
              · have h8_17 := inR_iff.1 h8_17
                refine PW.ex rfl rfl rfl rfl (Ex.not rfl rfl) ?_
                refine PW.ex rfl rfl rfl rfl (by first | exact Ex.pick_yes rfl rfl | exact Ex.pick_no rfl rfl) ?_
                refine PW.ex rfl rfl rfl rfl (Ex.move rfl) ?_
                refine PW.ex rfl rfl rfl rfl (Ex.move rfl) ?_
                refine PW.ex rfl rfl rfl rfl (Ex.gtr rfl rfl rfl) ?_
                refine PW.splitB (fun h8_22 => ?_) (fun h8_22 => ?_)
                · have h8_22 := of_decide_eq_true h8_22
                  refine PW.ex rfl rfl rfl rfl (Ex.move rfl) ?_
                  refine PW.ex rfl rfl rfl rfl (Ex.fieldO 2 Try.underlying34 rfl rfl ti32 rfl) ?_
                  refine PW.ex rfl rfl rfl rfl (Ex.load1 ti32 rfl rfl (by first | exact obT rfl | exact Rd.imm ‹_› | exact slT ‹_›)) ?_
                  refine PW.ex rfl rfl rfl rfl (Ex.move rfl) ?_
                  refine PW.ex rfl rfl rfl rfl (Ex.sub rfl rfl (by first | exact dec64 (by omega) (by omega) | exact subN (by omega) (by omega) | exact w64 (by omega) (by omega))) ?_
                  refine PW.ex rfl rfl rfl rfl (Ex.indexSl Try.underlying32 ti87 rfl rfl rfl (by omega)) ?_
                  refine PW.ex rfl rfl rfl rfl (Ex.load3c ti87 rfl rfl (by first | exact obT rfl | exact Rd.imm ‹_› | exact slT ‹_›) (by first | exact obT rfl | exact Rd.imm ‹_› | exact slT ‹_›) (by first | exact obT rfl | exact Rd.imm ‹_› | exact slT ‹_›)) ?_
                  refine PW.ex rfl rfl rfl rfl (Ex.load3c ti87 rfl rfl (by first | exact obT rfl | exact Rd.imm ‹_› | exact slT ‹_›) (by first | exact obT rfl | exact Rd.imm ‹_› | exact slT ‹_›) (by first | exact obT rfl | exact Rd.imm ‹_› | exact slT ‹_›)) ?_
                  refine PW.hv rfl rfl rfl rfl (Hv.callS hS rfl rfl rfl cb53 (prLess_c m.Pairs[i - 1] m.Pairs[i] _)) (fun _ _ h => h.2.rd) fun v w67 ⟨hv, hS⟩ => ?_
                  subst hv
                  refine PW.splitB (fun h8_31 => ?_) (fun h8_31 => ?_)
                  · skip
                    refine PW.ex rfl rfl rfl rfl (Ex.not rfl rfl) ?_
                    refine PW.ex rfl rfl rfl rfl (by first | exact Ex.pick_yes rfl rfl | exact Ex.pick_no rfl rfl) ?_
                    refine PW.ex rfl rfl rfl rfl (by first | exact Ex.pick_yes rfl rfl | exact Ex.pick_no rfl rfl) ?_
                    refine PW.ex rfl rfl rfl rfl (Ex.move rfl) ?_
                    refine PW.ex rfl rfl rfl rfl (Ex.load4c ti34 rfl rfl (by first | exact obT rfl | exact Rd.imm ‹_› | exact slT ‹_›) (by first | exact obT rfl | exact Rd.imm ‹_› | exact slT ‹_›) (by first | exact obT rfl | exact Rd.imm ‹_› | exact slT ‹_›) (by first | exact obT rfl | exact Rd.imm ‹_› | exact slT ‹_›)) ?_
                    refine PW.ex rfl rfl rfl rfl (Ex.fieldO 0 Try.underlying87 rfl rfl ti3 rfl) ?_
                    refine PW.ex rfl rfl rfl rfl (Ex.load1 ti3 rfl rfl (by first | exact obT rfl | exact Rd.imm ‹_› | exact slT ‹_›)) ?_
                    refine PW.hv rfl rfl rfl rfl (Hv.callS hS rfl rfl rfl cb58 (rsum_c m m.Pairs[i].A hN _ _ _ _ _ _ μ _ hS.imm hm0 hm1 hm2)) (fun _ _ h => h.2.rd) fun v w75 ⟨hv, hS⟩ => ?_
                    subst hv
                    refine PW.ex rfl rfl rfl rfl (Ex.gtr rfl rfl rfl) ?_
                    refine PW.splitB (fun h8_40 => ?_) (fun h8_40 => ?_)
                    · have h8_40 := of_decide_eq_true h8_40
                      refine PW.ex rfl rfl rfl rfl (by first | exact Ex.pick_yes rfl rfl | exact Ex.pick_no rfl rfl) ?_
                      refine PW.nil ?_
                      refine LW.nil fun aa ha => hK28 _ _ _ ?_ aa ha
                      refine CW.yes rfl ?_
                      refine CW.seq fun K29 hK29 => ?_
                      refine CW.region [0] rfl ?_
                      refine LW.ex rfl rfl rfl rfl (Ex.assign rfl) hS.rd ?_
                      refine LW.nil fun aa ha => hK29 _ _ _ ?_ aa ha
                      refine CW.ret fun aa ha => ?_
                      refine ret_one ha Try.results34 rfl ?_
                      exact hS.retB (okM_no fun h => by have h1 := h.sum m.Pairs[i].A; omega).symm
                    · have h8_40 := of_decide_eq_false h8_40
                      refine PW.ex rfl rfl rfl rfl (by first | exact Ex.pick_yes rfl rfl | exact Ex.pick_no rfl rfl) ?_
                      refine PW.nil ?_
                      refine LW.nil fun aa ha => hK28 _ _ _ ?_ aa ha
                      refine CW.no rfl ?_
                      refine CW.skip fun aa ha => hK26 _ _ _ ?_ aa ha
                      refine CW.region [0, 1, 2] rfl ?_
                      refine LW.ex rfl rfl rfl rfl (Ex.move rfl) hS.rd ?_
                      refine LW.ex rfl rfl rfl rfl (Ex.add rfl rfl (by first | exact inc64 (by omega) | exact addN (by omega) | exact w64 (by omega) (by omega))) hS.rd ?_
                      refine LW.ex rfl rfl rfl rfl (Ex.assign rfl) hS.rd ?_
                      refine LW.nil fun aa ha => ?_
                      have hS := hS.drop 0 rfl
                      dsimp only [List.eraseIdx] at hS
                      refine ⟨_, _, ?m5, ⟨i + 1, (by first | omega | (simp; done) | (simp; omega)), rfl, rfl, hS, ?_, ?_⟩, ha.sub ⟨rfl, rfl, rfl, trivial⟩⟩
                      case m5 => omega
                      · rw [hf]; exact rises_step _ _ _ _ hi2 (decide_eq_true (by omega)) (fun _ => h8_31)
                      · intro k hk hki; by_cases hk2 : k = i; (· subst hk2; exact ⟨by omega, by omega⟩); (· exact hc k hk (by omega))
                  · skip
                    refine PW.ex rfl rfl rfl rfl (Ex.not rfl rfl) ?_
                    refine PW.ex rfl rfl rfl rfl (by first | exact Ex.pick_yes rfl rfl | exact Ex.pick_no rfl rfl) ?_
                    refine PW.ex rfl rfl rfl rfl (by first | exact Ex.pick_yes rfl rfl | exact Ex.pick_no rfl rfl) ?_
                    refine PW.ex rfl rfl rfl rfl (Ex.move rfl) ?_
                    refine PW.skip rfl rfl rfl rfl ?_
                    refine PW.skip rfl rfl rfl rfl ?_
                    refine PW.skip rfl rfl rfl rfl ?_
                    refine PW.skip1 rfl rfl rfl rfl ?_
                    refine PW.skip rfl rfl rfl rfl ?_
                    refine PW.ex rfl rfl rfl rfl (by first | exact Ex.pick_yes rfl rfl | exact Ex.pick_no rfl rfl) ?_
                    refine PW.nil ?_
                    refine LW.nil fun aa ha => hK28 _ _ _ ?_ aa ha
                    refine CW.yes rfl ?_
                    refine CW.seq fun K30 hK30 => ?_
                    refine CW.region [0] rfl ?_
                    refine LW.ex rfl rfl rfl rfl (Ex.assign rfl) hS.rd ?_
                    refine LW.nil fun aa ha => hK30 _ _ _ ?_ aa ha
                    refine CW.ret fun aa ha => ?_
                    refine ret_one ha Try.results34 rfl ?_
                    exact hS.retB (okM_no fun h => by have h1 := h.rises; rw [hf, rises_not2 _ _ _ _ hi2 (by omega) h8_31] at h1; cases h1).symm
                · have h8_22 := of_decide_eq_false h8_22
                  refine PW.ex rfl rfl rfl rfl (Ex.move rfl) ?_
                  refine PW.skip rfl rfl rfl rfl ?_
                  refine PW.skip rfl rfl rfl rfl ?_
                  refine PW.skip rfl rfl rfl rfl ?_
                  refine PW.skip rfl rfl rfl rfl ?_
                  refine PW.skip rfl rfl rfl rfl ?_
                  refine PW.skip rfl rfl rfl rfl ?_
                  refine PW.skip rfl rfl rfl rfl ?_
                  refine PW.skip1 rfl rfl rfl rfl ?_
                  refine PW.skip rfl rfl rfl rfl ?_
                  refine PW.ex rfl rfl rfl rfl (by first | exact Ex.pick_yes rfl rfl | exact Ex.pick_no rfl rfl) ?_
                  refine PW.ex rfl rfl rfl rfl (by first | exact Ex.pick_yes rfl rfl | exact Ex.pick_no rfl rfl) ?_
                  refine PW.ex rfl rfl rfl rfl (Ex.move rfl) ?_
                  refine PW.ex rfl rfl rfl rfl (Ex.load4c ti34 rfl rfl (by first | exact obT rfl | exact Rd.imm ‹_› | exact slT ‹_›) (by first | exact obT rfl | exact Rd.imm ‹_› | exact slT ‹_›) (by first | exact obT rfl | exact Rd.imm ‹_› | exact slT ‹_›) (by first | exact obT rfl | exact Rd.imm ‹_› | exact slT ‹_›)) ?_
                  refine PW.ex rfl rfl rfl rfl (Ex.fieldO 0 Try.underlying87 rfl rfl ti3 rfl) ?_
                  refine PW.ex rfl rfl rfl rfl (Ex.load1 ti3 rfl rfl (by first | exact obT rfl | exact Rd.imm ‹_› | exact slT ‹_›)) ?_
                  refine PW.hv rfl rfl rfl rfl (Hv.callS hS rfl rfl rfl cb58 (rsum_c m m.Pairs[i].A hN _ _ _ _ _ _ μ _ hS.imm hm0 hm1 hm2)) (fun _ _ h => h.2.rd) fun v w75 ⟨hv, hS⟩ => ?_
                  subst hv
                  refine PW.ex rfl rfl rfl rfl (Ex.gtr rfl rfl rfl) ?_
                  refine PW.splitB (fun h8_40 => ?_) (fun h8_40 => ?_)
                  · have h8_40 := of_decide_eq_true h8_40
                    refine PW.ex rfl rfl rfl rfl (by first | exact Ex.pick_yes rfl rfl | exact Ex.pick_no rfl rfl) ?_
                    refine PW.nil ?_
                    refine LW.nil fun aa ha => hK28 _ _ _ ?_ aa ha
                    refine CW.yes rfl ?_
                    refine CW.seq fun K31 hK31 => ?_
                    refine CW.region [0] rfl ?_
                    refine LW.ex rfl rfl rfl rfl (Ex.assign rfl) hS.rd ?_
                    refine LW.nil fun aa ha => hK31 _ _ _ ?_ aa ha
                    refine CW.ret fun aa ha => ?_
                    refine ret_one ha Try.results34 rfl ?_
                    exact hS.retB (okM_no fun h => by have h1 := h.sum m.Pairs[i].A; omega).symm
                  · have h8_40 := of_decide_eq_false h8_40
                    refine PW.ex rfl rfl rfl rfl (by first | exact Ex.pick_yes rfl rfl | exact Ex.pick_no rfl rfl) ?_
                    refine PW.nil ?_
                    refine LW.nil fun aa ha => hK28 _ _ _ ?_ aa ha
                    refine CW.no rfl ?_
                    refine CW.skip fun aa ha => hK26 _ _ _ ?_ aa ha
                    refine CW.region [0, 1, 2] rfl ?_
                    refine LW.ex rfl rfl rfl rfl (Ex.move rfl) hS.rd ?_
                    refine LW.ex rfl rfl rfl rfl (Ex.add rfl rfl (by first | exact inc64 (by omega) | exact addN (by omega) | exact w64 (by omega) (by omega))) hS.rd ?_
                    refine LW.ex rfl rfl rfl rfl (Ex.assign rfl) hS.rd ?_
                    refine LW.nil fun aa ha => ?_
                    have hS := hS.drop 0 rfl
                    dsimp only [List.eraseIdx] at hS
                    refine ⟨_, _, ?m5, ⟨i + 1, (by first | omega | (simp; done) | (simp; omega)), rfl, rfl, hS, ?_, ?_⟩, ha.sub ⟨rfl, rfl, rfl, trivial⟩⟩
                    case m5 => omega
                    · rw [hf]; exact rises_step _ _ _ _ hi2 (decide_eq_true (by omega)) (fun h0 => by omega)
                    · intro k hk hki; by_cases hk2 : k = i; (· subst hk2; exact ⟨by omega, by omega⟩); (· exact hc k hk (by omega))
              · have h8_17 := inR_no h8_17
                refine PW.ex rfl rfl rfl rfl (Ex.not rfl rfl) ?_
                refine PW.ex rfl rfl rfl rfl (by first | exact Ex.pick_yes rfl rfl | exact Ex.pick_no rfl rfl) ?_
                refine PW.ex rfl rfl rfl rfl (Ex.move rfl) ?_
                refine PW.skip rfl rfl rfl rfl ?_
                refine PW.skip rfl rfl rfl rfl ?_
                refine PW.skip rfl rfl rfl rfl ?_
                refine PW.skip rfl rfl rfl rfl ?_
                refine PW.skip rfl rfl rfl rfl ?_
                refine PW.skip rfl rfl rfl rfl ?_
                refine PW.skip rfl rfl rfl rfl ?_
                refine PW.skip rfl rfl rfl rfl ?_
                refine PW.skip rfl rfl rfl rfl ?_
                refine PW.skip rfl rfl rfl rfl ?_
                refine PW.skip1 rfl rfl rfl rfl ?_
                refine PW.skip rfl rfl rfl rfl ?_
                refine PW.skip rfl rfl rfl rfl ?_
                refine PW.ex rfl rfl rfl rfl (by first | exact Ex.pick_yes rfl rfl | exact Ex.pick_no rfl rfl) ?_
                refine PW.ex rfl rfl rfl rfl (Ex.move rfl) ?_
                refine PW.skip rfl rfl rfl rfl ?_
                refine PW.skip rfl rfl rfl rfl ?_
                refine PW.skip rfl rfl rfl rfl ?_
                refine PW.skip1 rfl rfl rfl rfl ?_
                refine PW.skip rfl rfl rfl rfl ?_
                refine PW.ex rfl rfl rfl rfl (by first | exact Ex.pick_yes rfl rfl | exact Ex.pick_no rfl rfl) ?_
                refine PW.nil ?_
                refine LW.nil fun aa ha => hK28 _ _ _ ?_ aa ha
                refine CW.yes rfl ?_
                refine CW.seq fun K32 hK32 => ?_
                refine CW.region [0] rfl ?_
                refine LW.ex rfl rfl rfl rfl (Ex.assign rfl) hS.rd ?_
                refine LW.nil fun aa ha => hK32 _ _ _ ?_ aa ha
                refine CW.ret fun aa ha => ?_
                refine ret_one ha Try.results34 rfl ?_
                exact hS.retB (okM_no fun h => by have h1 := h.N1 (List.getElem_mem hi2); omega).symm
            · have h8_11 := inR_no h8_11
              refine PW.ex rfl rfl rfl rfl (Ex.not rfl rfl) ?_
              refine PW.ex rfl rfl rfl rfl (by first | exact Ex.pick_yes rfl rfl | exact Ex.pick_no rfl rfl) ?_
              refine PW.ex rfl rfl rfl rfl (Ex.move rfl) ?_
              refine PW.skip rfl rfl rfl rfl ?_
              refine PW.skip rfl rfl rfl rfl ?_
              refine PW.skip1 rfl rfl rfl rfl ?_
              refine PW.skip rfl rfl rfl rfl ?_
              refine PW.ex rfl rfl rfl rfl (by first | exact Ex.pick_yes rfl rfl | exact Ex.pick_no rfl rfl) ?_
              refine PW.ex rfl rfl rfl rfl (Ex.move rfl) ?_
              refine PW.skip rfl rfl rfl rfl ?_
              refine PW.skip rfl rfl rfl rfl ?_
              refine PW.skip rfl rfl rfl rfl ?_
              refine PW.skip rfl rfl rfl rfl ?_
              refine PW.skip rfl rfl rfl rfl ?_
              refine PW.skip rfl rfl rfl rfl ?_
              refine PW.skip rfl rfl rfl rfl ?_
              refine PW.skip rfl rfl rfl rfl ?_
              refine PW.skip rfl rfl rfl rfl ?_
              refine PW.skip rfl rfl rfl rfl ?_
              refine PW.skip1 rfl rfl rfl rfl ?_
              refine PW.skip rfl rfl rfl rfl ?_
              refine PW.skip rfl rfl rfl rfl ?_
              refine PW.ex rfl rfl rfl rfl (by first | exact Ex.pick_yes rfl rfl | exact Ex.pick_no rfl rfl) ?_
              refine PW.ex rfl rfl rfl rfl (Ex.move rfl) ?_
              refine PW.skip rfl rfl rfl rfl ?_
              refine PW.skip rfl rfl rfl rfl ?_
              refine PW.skip rfl rfl rfl rfl ?_
              refine PW.skip1 rfl rfl rfl rfl ?_
              refine PW.skip rfl rfl rfl rfl ?_
              refine PW.ex rfl rfl rfl rfl (by first | exact Ex.pick_yes rfl rfl | exact Ex.pick_no rfl rfl) ?_
              refine PW.nil ?_
              refine LW.nil fun aa ha => hK28 _ _ _ ?_ aa ha
              refine CW.yes rfl ?_
              refine CW.seq fun K33 hK33 => ?_
              refine CW.region [0] rfl ?_
              refine LW.ex rfl rfl rfl rfl (Ex.assign rfl) hS.rd ?_
              refine LW.nil fun aa ha => hK33 _ _ _ ?_ aa ha
              refine CW.ret fun aa ha => ?_
              refine ret_one ha Try.results34 rfl ?_
              exact hS.retB (okM_no fun h => by have h1 := h.rises; rw [hf, rises_not _ _ _ _ hi2 (decide_eq_false (by omega))] at h1; cases h1).symm
          · have h8_4 := inR_no h8_4
            refine PW.ex rfl rfl rfl rfl (Ex.not rfl rfl) ?_
            refine PW.ex rfl rfl rfl rfl (Ex.move rfl) ?_
            refine PW.skip rfl rfl rfl rfl ?_
            refine PW.skip rfl rfl rfl rfl ?_
            refine PW.skip rfl rfl rfl rfl ?_
            refine PW.skip rfl rfl rfl rfl ?_
            refine PW.skip1 rfl rfl rfl rfl ?_
            refine PW.skip rfl rfl rfl rfl ?_
            refine PW.ex rfl rfl rfl rfl (by first | exact Ex.pick_yes rfl rfl | exact Ex.pick_no rfl rfl) ?_
            refine PW.ex rfl rfl rfl rfl (Ex.move rfl) ?_
            refine PW.skip rfl rfl rfl rfl ?_
            refine PW.skip rfl rfl rfl rfl ?_
            refine PW.skip1 rfl rfl rfl rfl ?_
            refine PW.skip rfl rfl rfl rfl ?_
            refine PW.ex rfl rfl rfl rfl (by first | exact Ex.pick_yes rfl rfl | exact Ex.pick_no rfl rfl) ?_
            refine PW.ex rfl rfl rfl rfl (Ex.move rfl) ?_
            refine PW.skip rfl rfl rfl rfl ?_
            refine PW.skip rfl rfl rfl rfl ?_
            refine PW.skip rfl rfl rfl rfl ?_
            refine PW.skip rfl rfl rfl rfl ?_
            refine PW.skip rfl rfl rfl rfl ?_
            refine PW.skip rfl rfl rfl rfl ?_
            refine PW.skip rfl rfl rfl rfl ?_
            refine PW.skip rfl rfl rfl rfl ?_
            refine PW.skip rfl rfl rfl rfl ?_
            refine PW.skip rfl rfl rfl rfl ?_
            refine PW.skip1 rfl rfl rfl rfl ?_
            refine PW.skip rfl rfl rfl rfl ?_
            refine PW.skip rfl rfl rfl rfl ?_
            refine PW.ex rfl rfl rfl rfl (by first | exact Ex.pick_yes rfl rfl | exact Ex.pick_no rfl rfl) ?_
            refine PW.ex rfl rfl rfl rfl (Ex.move rfl) ?_
            refine PW.skip rfl rfl rfl rfl ?_
            refine PW.skip rfl rfl rfl rfl ?_
            refine PW.skip rfl rfl rfl rfl ?_
            refine PW.skip1 rfl rfl rfl rfl ?_
            refine PW.skip rfl rfl rfl rfl ?_
            refine PW.ex rfl rfl rfl rfl (by first | exact Ex.pick_yes rfl rfl | exact Ex.pick_no rfl rfl) ?_
            refine PW.nil ?_
            refine LW.nil fun aa ha => hK28 _ _ _ ?_ aa ha
            refine CW.yes rfl ?_
            refine CW.seq fun K34 hK34 => ?_
            refine CW.region [0] rfl ?_
            refine LW.ex rfl rfl rfl rfl (Ex.assign rfl) hS.rd ?_
            refine LW.nil fun aa ha => hK34 _ _ _ ?_ aa ha
            refine CW.ret fun aa ha => ?_
            refine ret_one ha Try.results34 rfl ?_
            exact hS.retB (okM_no fun h => by have h1 := h.rises; rw [hf, rises_not _ _ _ _ hi2 (decide_eq_false (by omega))] at h1; cases h1).symm
        · have h5_4 := of_decide_eq_false h5_4
          refine LW.nil fun aa ha => hK25 _ _ _ ?_ aa ha
          refine CW.no rfl ?_
          refine CW.exit fun aa ha => hK22 _ _ _ ?_ aa ha
          refine CW.seq fun K35 hK35 => ?_
          refine CW.region [0] rfl ?_
          refine LW.ex rfl rfl rfl rfl (Ex.assign rfl) hS.rd ?_
          refine LW.nil fun aa ha => hK35 _ _ _ ?_ aa ha
          refine CW.ret fun aa ha => ?_
          refine ret_one ha Try.results34 rfl ?_
          have hP : rises (prIn m.Words.length) prLess none m.Pairs = true := by rw [hf]; exact rises_end _ _ _ _ (by omega)
          have hc2 : ∀ p ∈ m.Pairs, 1 ≤ p.N ∧ sumN m.Pairs p.A ≤ 1073741824 := fun x hx => by obtain ⟨k, hk, rfl⟩ := List.getElem_of_mem hx; exact hc k hk (by omega)
          refine hS.retB (okM_yes ⟨hW1, hW2, hW3, hW4, hW5, hW6, by omega, (rises_pair prLess_trans hP).1, fun p hp => ?_, fun a => ?_, by omega, by omega⟩).symm
          · have h1 := rises_all hP p hp
            unfold prIn at h1; rw [decide_eq_true_eq] at h1
            have h2 := hc2 p hp
            omega
          · by_cases ha : ∃ p ∈ m.Pairs, p.A = a
            · obtain ⟨p, hp, rfl⟩ := ha; exact (hc2 p hp).2
            · have e : afterL m.Pairs a = [] := by
                unfold afterL; rw [List.filter_eq_nil_iff]; intro x hx hxa; exact ha ⟨x, hx, of_decide_eq_true hxa⟩
              unfold sumN; rw [e]; decide
      · have h1_12 := inR_no h1_12
        refine LW.ex rfl rfl rfl rfl (Ex.not rfl rfl) hS.rd ?_
        refine LW.ex rfl rfl rfl rfl (by first | exact Ex.pick_yes rfl rfl | exact Ex.pick_no rfl rfl) hS.rd ?_
        refine LW.nil fun aa ha => hK19 _ _ _ ?_ aa ha
        refine CW.yes rfl ?_
        refine CW.seq fun K36 hK36 => ?_
        refine CW.region [0] rfl ?_
        refine LW.ex rfl rfl rfl rfl (Ex.assign rfl) hS.rd ?_
        refine LW.nil fun aa ha => hK36 _ _ _ ?_ aa ha
        refine CW.ret fun aa ha => ?_
        refine ret_one ha Try.results34 rfl ?_
        exact hS.retB (okM_no fun h => by have := h.pl; have := h.b0; have := h.b1; omega).symm
  · skip
    refine LW.ex rfl rfl rfl rfl (Ex.not rfl rfl) hS.rd ?_
    refine LW.ex rfl rfl rfl rfl (Ex.move rfl) hS.rd ?_
    refine LW.skip rfl rfl rfl rfl ?_
    refine LW.skip rfl rfl rfl rfl ?_
    refine LW.skip rfl rfl rfl rfl ?_
    refine LW.skip rfl rfl rfl rfl ?_
    refine LW.ex rfl rfl rfl rfl (by first | exact Ex.pick_yes rfl rfl | exact Ex.pick_no rfl rfl) hS.rd ?_
    refine LW.ex rfl rfl rfl rfl (Ex.move rfl) hS.rd ?_
    refine LW.skip rfl rfl rfl rfl ?_
    refine LW.skip rfl rfl rfl rfl ?_
    refine LW.skip rfl rfl rfl rfl ?_
    refine LW.skip rfl rfl rfl rfl ?_
    refine LW.ex rfl rfl rfl rfl (by first | exact Ex.pick_yes rfl rfl | exact Ex.pick_no rfl rfl) hS.rd ?_
    refine LW.nil fun aa ha => hK19 _ _ _ ?_ aa ha
    refine CW.yes rfl ?_
    refine CW.seq fun K37 hK37 => ?_
    refine CW.region [0] rfl ?_
    refine LW.ex rfl rfl rfl rfl (Ex.assign rfl) hS.rd ?_
    refine LW.nil fun aa ha => hK37 _ _ _ ?_ aa ha
    refine CW.ret fun aa ha => ?_
    refine ret_one ha Try.results34 rfl ?_
    exact hS.retB (okM_no fun h => okW_false h1_1 h.w).symm
end Go.Proofs.Ytgnpjhellmfhoaa

