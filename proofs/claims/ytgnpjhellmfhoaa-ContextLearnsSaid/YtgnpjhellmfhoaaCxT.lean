/-
  Context: the walks of the reference's making of models: words, sorted lists of words, pairs.
-/
import Derived.Test.YtgnpjhellmfhoaaCxG
import Derived.Test.YtgnpjhellmfhoaaCxI
namespace Go.Proofs.Ytgnpjhellmfhoaa
open Go.RowKit Sy


/-! ### Words -/
def ab6 : ByteArray := ⟨#[97, 98, 99, 65, 66, 49]⟩
def pieceR (c : UInt8) : ByteArray := ab6.extract (c.toNat % 6) (c.toNat % 6 + 1)
def wordTo (l : List UInt8) : ByteArray := l.foldl (fun o c => o ++ pieceR c) ⟨#[]⟩
def wordR (l : List UInt8) : ByteArray := if (wordTo (l.take 3) == ⟨#[]⟩) = true then ⟨#[97]⟩ else wordTo (l.take 3)
theorem piece_bl (c : UInt8) : ∃ b : UInt8, bl (pieceR c) = [b] ∧ 1 ≤ classN b ∧ classN b ≤ 3 := by
  have h : c.toNat % 6 < 6 := Nat.mod_lt _ (by decide)
  unfold pieceR
  generalize c.toNat % 6 = r at h
  match r, h with
  | 0, _ => exact ⟨97, rfl, by decide, by decide⟩
  | 1, _ => exact ⟨98, rfl, by decide, by decide⟩
  | 2, _ => exact ⟨99, rfl, by decide, by decide⟩
  | 3, _ => exact ⟨65, rfl, by decide, by decide⟩
  | 4, _ => exact ⟨66, rfl, by decide, by decide⟩
  | 5, _ => exact ⟨49, rfl, by decide, by decide⟩
theorem bl_append (s u : ByteArray) : bl (s ++ u) = bl s ++ bl u := by simp [bl]
theorem wordTo_snoc (l : List UInt8) (c : UInt8) : wordTo (l ++ [c]) = wordTo l ++ pieceR c := by unfold wordTo; rw [List.foldl_append]; rfl
theorem wordTo_bl : ∀ (n : Nat) (l : List UInt8), l.length = n → (bl (wordTo l)).length = n ∧ ∀ b ∈ bl (wordTo l), 1 ≤ classN b ∧ classN b ≤ 3
  | 0, l, h => by
    obtain rfl := List.eq_nil_of_length_eq_zero h
    exact ⟨rfl, fun b hb => by cases hb⟩
  | n + 1, l, h => by
    obtain ⟨l', c, rfl⟩ : ∃ l' c, l = l' ++ [c] := ⟨l.dropLast, l.getLast (by intro e; subst e; simp at h), (List.dropLast_concat_getLast (by intro e; subst e; simp at h)).symm⟩
    obtain ⟨ih1, ih2⟩ := wordTo_bl n l' (by simpa using h)
    obtain ⟨b, hb, hb1, hb2⟩ := piece_bl c
    rw [wordTo_snoc, bl_append, hb]
    refine ⟨by simp [ih1], fun d hd => ?_⟩
    rcases List.mem_append.1 hd with hd | hd
    · exact ih2 d hd
    · obtain rfl := List.mem_singleton.1 hd; exact ⟨hb1, hb2⟩
theorem wordOk_of {s : ByteArray} (h1 : 1 ≤ (bl s).length) (h2 : (bl s).length ≤ 20) (h3 : ∀ b ∈ bl s, 1 ≤ classN b ∧ classN b ≤ 3) : wordOk s = true := by
  rw [bl_len] at h1 h2
  unfold wordOk allC
  rw [decide_eq_true h1, decide_eq_true h2, List.all_eq_true.2 fun b hb => by
    have := h3 b hb
    simp only [Bool.and_eq_true, Bool.not_eq_true', decide_eq_false_iff_not, decide_eq_true_eq]; omega]
  rfl
theorem wordR_ok (l : List UInt8) : wordOk (wordR l) = true ∧ (wordR l).size ≤ 3 := by
  unfold wordR
  split
  · exact ⟨wordOk_of (by decide) (by decide) (by decide), by decide⟩
  · rename_i h
    obtain ⟨h1, h2⟩ := wordTo_bl _ (l.take 3) rfl
    have h3 : (l.take 3).length ≤ 3 := by rw [List.length_take]; omega
    refine ⟨wordOk_of ?_ (by omega) h2, by rw [← bl_len]; omega⟩
    rcases Nat.lt_or_ge 0 (bl (wordTo (l.take 3))).length with h4 | h4
    · exact h4
    · exfalso; apply h
      rw [bl_eq, decide_eq_true_eq]
      exact List.eq_nil_of_length_eq_zero (by omega)
theorem rem6 {a : Nat} : ((a : Int)).tmod 6 = ((a % 6 : Nat) : Int) := by rw [Int.tmod_eq_emod_of_nonneg (by omega)]; omega
set_option maxRecDepth 100000 in
theorem mword_c (l : List UInt8) (ad : Option Addr) (c : Nat) (μ : Mem) (w : World) (hμ : Imm μ w) (hl : Sl μ ad c l) :
    Calls Try.prog 29 #[.slice ad l.length c] w (RetS w (.string (wordR l))) := by
  have hll := hl.1
  have hlc := hl.2.1
  simp only [maxLen] at hlc
  have hS := St.start w μ hμ
  refine calls_start 32 [.slice ad l.length c] Try.func29 rfl Try.ntmps29 rfl rfl ?_
  refine CW.seq fun K1 hK1 => ?_
  refine CW.region [0] rfl ?_
  refine LW.ex rfl rfl rfl rfl (Ex.assign rfl) hS.rd ?_
  refine LW.nil fun aa ha => hK1 _ _ _ ?_ aa ha
  refine CW.seq fun K2 hK2 => ?_
  refine CW.region [0] rfl ?_
  refine LW.ex rfl rfl rfl rfl (Ex.assign rfl) hS.rd ?_
  refine LW.nil fun aa ha => hK2 _ _ _ ?_ aa ha
  refine CW.seq fun K3 hK3 => ?_
  refine CW.seq fun K4 hK4 => ?_
  refine CW.region [0] rfl ?_
  refine LW.ex rfl rfl rfl rfl (Ex.assign rfl) hS.rd ?_
  refine LW.nil fun aa ha => hK4 _ _ _ ?_ aa ha
  refine CW.block ?_
  refine CW.loop (fun qq frm wl3 => ∃ (i : Nat), i ≤ l.length ∧ i ≤ 3 ∧ qq = 3 - i ∧ frm = [(0, .slice ad l.length c), (3, .string (wordTo (l.take i))), (4, .int .i64 i)] ∧ St w wl3 μ []) _ ⟨0, (by first | omega | (simp; done) | (simp; omega)), (by first | omega | (simp; done) | (simp; omega)), rfl, rfl, hS⟩ ⟨rfl, rfl, rfl, trivial⟩ ?_
  clear hS
  rintro qq frm wl3 ⟨i, hi, hi3, hq, rfl, hS⟩
  refine CW.seq fun K5 hK5 => ?_
  refine CW.seq fun K6 hK6 => ?_
  refine CW.region [0, 1, 2, 3, 4, 5, 6, 7] rfl ?_
  refine LW.ex rfl rfl rfl rfl (Ex.move rfl) hS.rd ?_
  refine LW.ex rfl rfl rfl rfl (Ex.move rfl) hS.rd ?_
  refine LW.ex rfl rfl rfl rfl (Ex.lenSl rfl Try.underlying24 rfl) hS.rd ?_
  refine LW.ex rfl rfl rfl rfl (Ex.lss rfl rfl rfl) hS.rd ?_
  refine LW.splitB (fun h3_3 => ?_) (fun h3_3 => ?_)
  · have h3_3 := of_decide_eq_true h3_3
    refine LW.ex rfl rfl rfl rfl (Ex.move rfl) hS.rd ?_
    refine LW.ex rfl rfl rfl rfl (Ex.move rfl) hS.rd ?_
    refine LW.ex rfl rfl rfl rfl (Ex.lss rfl rfl rfl) hS.rd ?_
    refine LW.splitB (fun h3_6 => ?_) (fun h3_6 => ?_)
    · have h3_6 := of_decide_eq_true h3_6
      refine LW.ex rfl rfl rfl rfl (by first | exact Ex.pick_yes rfl rfl | exact Ex.pick_no rfl rfl) hS.rd ?_
      refine LW.nil fun aa ha => hK6 _ _ _ ?_ aa ha
      refine CW.yes rfl ?_
      refine CW.skip fun aa ha => hK5 _ _ _ ?_ aa ha
      refine CW.seq fun K7 hK7 => ?_
      refine CW.block ?_
      have hi2 : i < l.length := by omega
      obtain ⟨bl', ol, rfl, k0⟩ := hl.at hi2
      have hr6 : l[i].toNat % 6 < 6 := Nat.mod_lt _ (by decide)
      have hp1 : (pieceR l[i]).size = 1 := by obtain ⟨b, hb, _⟩ := piece_bl l[i]; rw [← bl_len, hb]; rfl
      have hw1 := (wordTo_bl _ (l.take i) rfl).1
      rw [bl_len, List.length_take] at hw1
      have hsn := wordTo_snoc (l.take i) l[i]
      rw [← List.take_succ_eq_append_getElem hi2] at hsn
      have hS := hS.drew
      refine CW.draw 15 (.ex 0 <| .ex 1 <| .ex 2 <| .ex 3 <| .ex 4 <| .ex 5 <| .ex 6 <| .ex 7 <| .ex 8 <| .ex 9 <| .ex 10 <| .ex 11 <| .ex 12 <| .ex 13 <| .ex 14 <| .done) [] (Rd _ _) mixed (by kernel_rfl) rfl rfl hS.rd ?_
      refine PW.ex rfl rfl rfl rfl (Ex.move rfl) ?_
      refine PW.ex rfl rfl rfl rfl (Ex.move rfl) ?_
      refine PW.ex rfl rfl rfl rfl (Ex.move rfl) ?_
      refine PW.ex rfl rfl rfl rfl (Ex.indexSl Try.underlying24 ti5 rfl rfl rfl (by omega)) ?_
      refine PW.ex rfl rfl rfl rfl (Ex.load1 ti5 rfl rfl (by first | exact obT rfl | exact Rd.imm ‹_› | exact slT ‹_›)) ?_
      refine PW.ex rfl rfl rfl rfl (Ex.rem (r := ((l[i].toNat % 6 : Nat) : Int)) rfl rfl (by omega) rem6) ?_
      refine PW.ex rfl rfl rfl rfl (Ex.move rfl) ?_
      refine PW.ex rfl rfl rfl rfl (Ex.move rfl) ?_
      refine PW.ex rfl rfl rfl rfl (Ex.indexSl Try.underlying24 ti5 rfl rfl rfl (by omega)) ?_
      refine PW.ex rfl rfl rfl rfl (Ex.load1 ti5 rfl rfl (by first | exact obT rfl | exact Rd.imm ‹_› | exact slT ‹_›)) ?_
      refine PW.ex rfl rfl rfl rfl (Ex.rem (r := ((l[i].toNat % 6 : Nat) : Int)) rfl rfl (by omega) rem6) ?_
      refine PW.ex rfl rfl rfl rfl (Ex.add (r := ((l[i].toNat % 6 + 1 : Nat) : Int)) rfl rfl (by rw [wu8 (by omega) (by omega)]; omega)) ?_
      refine PW.ex rfl rfl rfl rfl (Ex.sliceStr (s := ab6) (i := l[i].toNat % 6) (j := l[i].toNat % 6 + 1) Try.underlying9 rfl rfl rfl rfl rfl (by omega) (by show _ ≤ 6; omega)) ?_
      refine PW.ex rfl rfl rfl rfl (Ex.addS (s := wordTo (l.take i)) (u := pieceR l[i]) rfl rfl (by omega)) ?_
      refine PW.ex rfl rfl rfl rfl (Ex.assign rfl) ?_
      refine PW.nil ?_
      refine LW.nil fun aa ha => hK7 _ _ _ ?_ aa ha
      refine CW.region [0, 1, 2] rfl ?_
      refine LW.ex rfl rfl rfl rfl (Ex.move rfl) hS.rd ?_
      refine LW.ex rfl rfl rfl rfl (Ex.add rfl rfl (by first | exact inc64 (by omega) | exact addN (by omega) | exact w64 (by omega) (by omega))) hS.rd ?_
      refine LW.ex rfl rfl rfl rfl (Ex.assign rfl) hS.rd ?_
      refine LW.nil fun aa ha => ?_
      rw [← hsn] at ha
      refine ⟨_, _, ?m3, ⟨i + 1, (by first | omega | (simp; done) | (simp; omega)), (by first | omega | (simp; done) | (simp; omega)), rfl, rfl, hS⟩, ha.sub ⟨rfl, rfl, rfl, trivial⟩⟩
      case m3 => omega
    · have h3_6 := of_decide_eq_false h3_6
      refine LW.ex rfl rfl rfl rfl (by first | exact Ex.pick_yes rfl rfl | exact Ex.pick_no rfl rfl) hS.rd ?_
      refine LW.nil fun aa ha => hK6 _ _ _ ?_ aa ha
      refine CW.no rfl ?_
      refine CW.exit fun aa ha => hK3 _ _ _ ?_ aa ha
      refine CW.seq fun K8 hK8 => ?_
      refine CW.seq fun K9 hK9 => ?_
      have htk : l.take i = l.take 3 := by
        by_cases h : i = 3
        · rw [h]
        · rw [List.take_of_length_le (by omega), List.take_of_length_le (by omega)]
      refine CW.region [0, 1] rfl ?_
      refine LW.ex rfl rfl rfl rfl (Ex.move rfl) hS.rd ?_
      refine LW.ex rfl rfl rfl rfl (Ex.eqlS (b := wordTo (l.take i) == ⟨#[]⟩) rfl rfl rfl) hS.rd ?_
      refine LW.splitB (fun h6_1 => ?_) (fun h6_1 => ?_)
      · skip
        refine LW.nil fun aa ha => hK9 _ _ _ ?_ aa ha
        refine CW.yes rfl ?_
        refine CW.seq fun K10 hK10 => ?_
        refine CW.region [0] rfl ?_
        refine LW.ex rfl rfl rfl rfl (Ex.assign rfl) hS.rd ?_
        refine LW.nil fun aa ha => hK10 _ _ _ ?_ aa ha
        refine CW.ret fun aa ha => ?_
        refine ret_one ha Try.results29 rfl ?_
        have e : wordR l = ⟨#[97]⟩ := by unfold wordR; rw [← htk, if_pos h6_1]
        rw [e]; exact hS.retS
      · skip
        refine LW.nil fun aa ha => hK9 _ _ _ ?_ aa ha
        refine CW.no rfl ?_
        refine CW.skip fun aa ha => hK8 _ _ _ ?_ aa ha
        refine CW.seq fun K11 hK11 => ?_
        refine CW.region [0, 1] rfl ?_
        refine LW.ex rfl rfl rfl rfl (Ex.move rfl) hS.rd ?_
        refine LW.ex rfl rfl rfl rfl (Ex.assign rfl) hS.rd ?_
        refine LW.nil fun aa ha => hK11 _ _ _ ?_ aa ha
        refine CW.ret fun aa ha => ?_
        refine ret_one ha Try.results29 rfl ?_
        have e : wordR l = wordTo (l.take i) := by unfold wordR; rw [← htk, if_neg (by rw [h6_1]; decide)]
        rw [e]; exact hS.retS
  · have h3_3 := of_decide_eq_false h3_3
    refine LW.ex rfl rfl rfl rfl (Ex.move rfl) hS.rd ?_
    refine LW.skip rfl rfl rfl rfl ?_
    refine LW.skip rfl rfl rfl rfl ?_
    refine LW.ex rfl rfl rfl rfl (by first | exact Ex.pick_yes rfl rfl | exact Ex.pick_no rfl rfl) hS.rd ?_
    refine LW.nil fun aa ha => hK6 _ _ _ ?_ aa ha
    refine CW.no rfl ?_
    refine CW.exit fun aa ha => hK3 _ _ _ ?_ aa ha
    refine CW.seq fun K12 hK12 => ?_
    refine CW.seq fun K13 hK13 => ?_
    have htk : l.take i = l.take 3 := by
      by_cases h : i = 3
      · rw [h]
      · rw [List.take_of_length_le (by omega), List.take_of_length_le (by omega)]
    refine CW.region [0, 1] rfl ?_
    refine LW.ex rfl rfl rfl rfl (Ex.move rfl) hS.rd ?_
    refine LW.ex rfl rfl rfl rfl (Ex.eqlS (b := wordTo (l.take i) == ⟨#[]⟩) rfl rfl rfl) hS.rd ?_
    refine LW.splitB (fun h6_1 => ?_) (fun h6_1 => ?_)
    · skip
      refine LW.nil fun aa ha => hK13 _ _ _ ?_ aa ha
      refine CW.yes rfl ?_
      refine CW.seq fun K14 hK14 => ?_
      refine CW.region [0] rfl ?_
      refine LW.ex rfl rfl rfl rfl (Ex.assign rfl) hS.rd ?_
      refine LW.nil fun aa ha => hK14 _ _ _ ?_ aa ha
      refine CW.ret fun aa ha => ?_
      refine ret_one ha Try.results29 rfl ?_
      have e : wordR l = ⟨#[97]⟩ := by unfold wordR; rw [← htk, if_pos h6_1]
      rw [e]; exact hS.retS
    · skip
      refine LW.nil fun aa ha => hK13 _ _ _ ?_ aa ha
      refine CW.no rfl ?_
      refine CW.skip fun aa ha => hK12 _ _ _ ?_ aa ha
      refine CW.seq fun K15 hK15 => ?_
      refine CW.region [0, 1] rfl ?_
      refine LW.ex rfl rfl rfl rfl (Ex.move rfl) hS.rd ?_
      refine LW.ex rfl rfl rfl rfl (Ex.assign rfl) hS.rd ?_
      refine LW.nil fun aa ha => hK15 _ _ _ ?_ aa ha
      refine CW.ret fun aa ha => ?_
      refine ret_one ha Try.results29 rfl ?_
      have e : wordR l = wordTo (l.take i) := by unfold wordR; rw [← htk, if_neg (by rw [h6_1]; decide)]
      rw [e]; exact hS.retS
end Go.Proofs.Ytgnpjhellmfhoaa

