/-
  Context: sums of counts.
-/
import Derived.Test.YtgnpjhellmfhoaaCxC
namespace Go.Proofs.Ytgnpjhellmfhoaa
open Go.RowKit Sy

def totalGo (b : Int) : Int → List Int → Int × Bool
  | acc, [] => (acc, decide (acc ≤ 1073741824))
  | acc, x :: l => if x < b ∨ 1073741824 < x then (0, false) else totalGo b (acc + x) l
theorem drop_cons {α : Type} {l : List α} {i : Nat} (h : i < l.length) : l.drop i = l[i] :: l.drop (i + 1) := (List.getElem_cons_drop h).symm

set_option maxRecDepth 100000 in
theorem total_c (l : List Int) (b : Int) (hb : 0 ≤ b) (hl : l.length ≤ 4294967296) (ad : Option Addr) (c : Nat) (μ : Mem) (w : World) (hμ : Imm μ w) (hs : Sl μ ad c l) :
    Calls Try.prog 62 #[.slice ad l.length c, .int .i64 b] w (RetS w (.tuple #[.int .i64 (totalGo b 0 l).1, .bool (totalGo b 0 l).2])) := by
  have hS := St.start w μ hμ
  refine calls_start 29 [.slice ad l.length c, .int .i64 b] Try.func62 rfl Try.ntmps62 rfl rfl ?_
  refine CW.seq fun K1 hK1 => ?_
  refine CW.region [0, 1] rfl ?_
  refine LW.ex rfl rfl rfl rfl (Ex.assign rfl) hS.rd ?_
  refine LW.ex rfl rfl rfl rfl (Ex.assign rfl) hS.rd ?_
  refine LW.nil fun aa ha => hK1 _ _ _ ?_ aa ha
  refine CW.seq fun K2 hK2 => ?_
  refine CW.region [0] rfl ?_
  refine LW.ex rfl rfl rfl rfl (Ex.assign rfl) hS.rd ?_
  refine LW.nil fun aa ha => hK2 _ _ _ ?_ aa ha
  refine CW.seq fun K3 hK3 => ?_
  refine CW.seq fun K4 hK4 => ?_
  refine CW.region [0, 1, 2] rfl ?_
  refine LW.ex rfl rfl rfl rfl (Ex.move rfl) hS.rd ?_
  refine LW.ex rfl rfl rfl rfl (Ex.lenSl rfl Try.underlying31 rfl) hS.rd ?_
  refine LW.ex rfl rfl rfl rfl (Ex.move rfl) hS.rd ?_
  refine LW.nil fun aa ha => hK4 _ _ _ ?_ aa ha
  refine CW.block ?_
  refine CW.loop (fun qq frm wl3 => ∃ (i : Nat) (s : Int), i ≤ l.length ∧ 0 ≤ s ∧ s ≤ i * 1073741824 ∧ qq = l.length - i ∧ frm = [(1, .int .i64 b), (6, .int .i64 s), (9, .slice ad l.length c), (10, .int .i64 ((l.length : Nat) : Int)), (11, .int .i64 i)] ∧ St w wl3 μ [] ∧ (totalGo b 0 l = totalGo b s (l.drop i))) _ ⟨0, 0, (by first | omega | (simp; done) | (simp; omega)), (by first | omega | (simp; done) | (simp; omega)), (by first | omega | (simp; done) | (simp; omega)), rfl, rfl, hS, rfl⟩ ⟨rfl, rfl, rfl, rfl, rfl, trivial⟩ ?_
  clear hS
  rintro qq frm wl3 ⟨i, s, hi, hs0, hs1, hq, rfl, hS, he⟩
  refine CW.seq fun K5 hK5 => ?_
  refine CW.region [0] rfl ?_
  refine LW.ex rfl rfl rfl rfl (Ex.lss rfl rfl rfl) hS.rd ?_
  refine LW.splitB (fun h3_0 => ?_) (fun h3_0 => ?_)
  · have h3_0 := of_decide_eq_true h3_0
    refine LW.nil fun aa ha => hK5 _ _ _ ?_ aa ha
    refine CW.seq fun K6 hK6 => ?_
    refine CW.yes rfl ?_
    refine CW.skip fun aa ha => hK6 _ _ _ ?_ aa ha
    refine CW.seq fun K7 hK7 => ?_
    refine CW.block ?_
    refine CW.seq fun K8 hK8 => ?_
    have hi2 : i < l.length := by omega
    obtain ⟨bl, ol, rfl, k0⟩ := hs.at hi2
    rw [drop_cons hi2, totalGo] at he
    refine CW.region [0, 1, 2] rfl ?_
    refine LW.ex rfl rfl rfl rfl (Ex.indexSl Try.underlying31 ti3 rfl rfl rfl (by omega)) hS.rd ?_
    refine LW.ex rfl rfl rfl rfl (Ex.load1 ti3 rfl rfl (by first | exact obT rfl | exact Rd.imm ‹_› | exact slT ‹_›)) hS.rd ?_
    refine LW.ex rfl rfl rfl rfl (Ex.assign rfl) hS.rd ?_
    refine LW.nil fun aa ha => hK8 _ _ _ ?_ aa ha
    refine CW.seq fun K9 hK9 => ?_
    refine CW.seq fun K10 hK10 => ?_
    refine CW.region [0, 1, 2, 3, 4, 5, 6] rfl ?_
    refine LW.ex rfl rfl rfl rfl (Ex.move rfl) hS.rd ?_
    refine LW.ex rfl rfl rfl rfl (Ex.move rfl) hS.rd ?_
    refine LW.ex rfl rfl rfl rfl (Ex.lss rfl rfl rfl) hS.rd ?_
    refine LW.splitB (fun h5_2 => ?_) (fun h5_2 => ?_)
    · have h5_2 := of_decide_eq_true h5_2
      refine LW.ex rfl rfl rfl rfl (Ex.move rfl) hS.rd ?_
      refine LW.skip rfl rfl rfl rfl ?_
      refine LW.skip rfl rfl rfl rfl ?_
      refine LW.ex rfl rfl rfl rfl (by first | exact Ex.pick_yes rfl rfl | exact Ex.pick_no rfl rfl) hS.rd ?_
      refine LW.nil fun aa ha => hK10 _ _ _ ?_ aa ha
      refine CW.yes rfl ?_
      refine CW.seq fun K11 hK11 => ?_
      refine CW.region [0, 1] rfl ?_
      refine LW.ex rfl rfl rfl rfl (Ex.assign rfl) hS.rd ?_
      refine LW.ex rfl rfl rfl rfl (Ex.assign rfl) hS.rd ?_
      refine LW.nil fun aa ha => hK11 _ _ _ ?_ aa ha
      refine CW.ret fun aa ha => ?_
      refine ret_two ha Try.results62 rfl rfl ?_
      exact hS.retE (by rw [he, if_pos (by omega)])
    · have h5_2 := of_decide_eq_false h5_2
      refine LW.ex rfl rfl rfl rfl (Ex.move rfl) hS.rd ?_
      refine LW.ex rfl rfl rfl rfl (Ex.move rfl) hS.rd ?_
      refine LW.ex rfl rfl rfl rfl (Ex.gtr rfl rfl rfl) hS.rd ?_
      refine LW.splitB (fun h5_5 => ?_) (fun h5_5 => ?_)
      · have h5_5 := of_decide_eq_true h5_5
        refine LW.ex rfl rfl rfl rfl (by first | exact Ex.pick_yes rfl rfl | exact Ex.pick_no rfl rfl) hS.rd ?_
        refine LW.nil fun aa ha => hK10 _ _ _ ?_ aa ha
        refine CW.yes rfl ?_
        refine CW.seq fun K12 hK12 => ?_
        refine CW.region [0, 1] rfl ?_
        refine LW.ex rfl rfl rfl rfl (Ex.assign rfl) hS.rd ?_
        refine LW.ex rfl rfl rfl rfl (Ex.assign rfl) hS.rd ?_
        refine LW.nil fun aa ha => hK12 _ _ _ ?_ aa ha
        refine CW.ret fun aa ha => ?_
        refine ret_two ha Try.results62 rfl rfl ?_
        exact hS.retE (by rw [he, if_pos (by omega)])
      · have h5_5 := of_decide_eq_false h5_5
        refine LW.ex rfl rfl rfl rfl (by first | exact Ex.pick_yes rfl rfl | exact Ex.pick_no rfl rfl) hS.rd ?_
        refine LW.nil fun aa ha => hK10 _ _ _ ?_ aa ha
        refine CW.no rfl ?_
        refine CW.skip fun aa ha => hK9 _ _ _ ?_ aa ha
        refine CW.region [0, 1, 2, 3] rfl ?_
        refine LW.ex rfl rfl rfl rfl (Ex.move rfl) hS.rd ?_
        refine LW.ex rfl rfl rfl rfl (Ex.move rfl) hS.rd ?_
        refine LW.ex rfl rfl rfl rfl (Ex.add rfl rfl (by first | exact inc64 (by omega) | exact addN (by omega) | exact w64 (by omega) (by omega))) hS.rd ?_
        refine LW.ex rfl rfl rfl rfl (Ex.assign rfl) hS.rd ?_
        refine LW.nil fun aa ha => hK7 _ _ _ ?_ aa ha
        refine CW.region [0, 1] rfl ?_
        refine LW.ex rfl rfl rfl rfl (Ex.add rfl rfl (by first | exact inc64 (by omega) | exact addN (by omega) | exact w64 (by omega) (by omega))) hS.rd ?_
        refine LW.ex rfl rfl rfl rfl (Ex.move rfl) hS.rd ?_
        refine LW.nil fun aa ha => ?_
        refine ⟨_, _, ?m3, ⟨i + 1, s + l[i], (by first | omega | (simp; done) | (simp; omega)), (by first | omega | (simp; done) | (simp; omega)), (by first | omega | (simp; done) | (simp; omega)), rfl, rfl, hS, by rw [he, if_neg (by omega)]⟩, ha.sub ⟨rfl, rfl, rfl, rfl, rfl, trivial⟩⟩
        case m3 => omega
  · have h3_0 := of_decide_eq_false h3_0
    refine LW.nil fun aa ha => hK5 _ _ _ ?_ aa ha
    refine CW.seq fun K13 hK13 => ?_
    refine CW.no rfl ?_
    refine CW.exit fun aa ha => hK3 _ _ _ ?_ aa ha
    refine CW.seq fun K14 hK14 => ?_
    refine CW.region [0, 1, 2, 3, 4] rfl ?_
    refine LW.ex rfl rfl rfl rfl (Ex.move rfl) hS.rd ?_
    refine LW.ex rfl rfl rfl rfl (Ex.move rfl) hS.rd ?_
    refine LW.ex rfl rfl rfl rfl (Ex.leq rfl rfl (by first | exact decide_eq_true (by omega) | exact decide_eq_false (by omega) | rfl)) hS.rd ?_
    refine LW.ex rfl rfl rfl rfl (Ex.assign rfl) hS.rd ?_
    refine LW.ex rfl rfl rfl rfl (Ex.assign rfl) hS.rd ?_
    refine LW.nil fun aa ha => hK14 _ _ _ ?_ aa ha
    refine CW.ret fun aa ha => ?_
    refine ret_two ha Try.results62 rfl rfl ?_
    exact hS.retE (by rw [he, show i = l.length by omega, List.drop_length, totalGo])
def small (l : List Int) : Prop := l.length ≤ 4294967296 ∧ ∀ x ∈ l, 0 ≤ x ∧ x ≤ 1073741824
theorem sum_take {l : List Int} {i : Nat} (h : i < l.length) : (l.take (i + 1)).sum = (l.take i).sum + l[i] := by
  rw [List.take_succ_eq_append_getElem h, List.sum_append]; simp
theorem sum_small {l : List Int} (hs : small l) (i : Nat) (hi : i ≤ l.length) : 0 ≤ (l.take i).sum ∧ (l.take i).sum ≤ i * 1073741824 := by
  induction i with
  | zero => simp
  | succ i ih =>
    have h1 := ih (by omega)
    rw [sum_take (by omega)]
    have h2 := hs.2 l[i] (List.getElem_mem (by omega))
    omega
set_option maxRecDepth 100000 in
theorem refTotal_c (l : List Int) (hl : small l) (ad : Option Addr) (c : Nat) (μ : Mem) (w : World) (hμ : Imm μ w) (hs : Sl μ ad c l) :
    Calls Try.prog 45 #[.slice ad l.length c] w (RetS w (.int .i64 l.sum)) := by
  have hll := hl.1
  have hS := St.start w μ hμ
  refine calls_start 18 [.slice ad l.length c] Try.func45 rfl Try.ntmps45 rfl rfl ?_
  refine CW.seq fun K15 hK15 => ?_
  refine CW.region [0] rfl ?_
  refine LW.ex rfl rfl rfl rfl (Ex.assign rfl) hS.rd ?_
  refine LW.nil fun aa ha => hK15 _ _ _ ?_ aa ha
  refine CW.seq fun K16 hK16 => ?_
  refine CW.region [0] rfl ?_
  refine LW.ex rfl rfl rfl rfl (Ex.assign rfl) hS.rd ?_
  refine LW.nil fun aa ha => hK16 _ _ _ ?_ aa ha
  refine CW.seq fun K17 hK17 => ?_
  refine CW.seq fun K18 hK18 => ?_
  refine CW.region [0] rfl ?_
  refine LW.ex rfl rfl rfl rfl (Ex.assign rfl) hS.rd ?_
  refine LW.nil fun aa ha => hK18 _ _ _ ?_ aa ha
  refine CW.block ?_
  refine CW.loop (fun qq frm wl3 => ∃ (i : Nat) (s : Int), i ≤ l.length ∧ qq = l.length - i ∧ frm = [(0, .slice ad l.length c), (3, .int .i64 s), (4, .int .i64 i)] ∧ St w wl3 μ [] ∧ (s = (l.take i).sum)) _ ⟨0, 0, (by first | omega | (simp; done) | (simp; omega)), rfl, rfl, hS, rfl⟩ ⟨rfl, rfl, rfl, trivial⟩ ?_
  clear hS
  rintro qq frm wl3 ⟨i, s, hi, hq, rfl, hS, he⟩
  refine CW.seq fun K19 hK19 => ?_
  refine CW.seq fun K20 hK20 => ?_
  refine CW.region [0, 1, 2, 3] rfl ?_
  refine LW.ex rfl rfl rfl rfl (Ex.move rfl) hS.rd ?_
  refine LW.ex rfl rfl rfl rfl (Ex.move rfl) hS.rd ?_
  refine LW.ex rfl rfl rfl rfl (Ex.lenSl rfl Try.underlying31 rfl) hS.rd ?_
  refine LW.ex rfl rfl rfl rfl (Ex.lss rfl rfl rfl) hS.rd ?_
  refine LW.splitB (fun h3_3 => ?_) (fun h3_3 => ?_)
  · have h3_3 := of_decide_eq_true h3_3
    refine LW.nil fun aa ha => hK20 _ _ _ ?_ aa ha
    refine CW.yes rfl ?_
    refine CW.skip fun aa ha => hK19 _ _ _ ?_ aa ha
    refine CW.seq fun K21 hK21 => ?_
    refine CW.block ?_
    have hi2 : i < l.length := by omega
    obtain ⟨bl, ol, rfl, k0⟩ := hs.at hi2
    have hb0 := sum_small hl i hi
    have hb1 := hl.2 l[i] (List.getElem_mem hi2)
    rw [← he] at hb0
    refine CW.region [0, 1, 2, 3, 4, 5, 6] rfl ?_
    refine LW.ex rfl rfl rfl rfl (Ex.move rfl) hS.rd ?_
    refine LW.ex rfl rfl rfl rfl (Ex.move rfl) hS.rd ?_
    refine LW.ex rfl rfl rfl rfl (Ex.move rfl) hS.rd ?_
    refine LW.ex rfl rfl rfl rfl (Ex.indexSl Try.underlying31 ti3 rfl rfl rfl (by omega)) hS.rd ?_
    refine LW.ex rfl rfl rfl rfl (Ex.load1 ti3 rfl rfl (by first | exact obT rfl | exact Rd.imm ‹_› | exact slT ‹_›)) hS.rd ?_
    refine LW.ex rfl rfl rfl rfl (Ex.add rfl rfl (by first | exact inc64 (by omega) | exact addN (by omega) | exact w64 (by omega) (by omega))) hS.rd ?_
    refine LW.ex rfl rfl rfl rfl (Ex.assign rfl) hS.rd ?_
    refine LW.nil fun aa ha => hK21 _ _ _ ?_ aa ha
    refine CW.region [0, 1, 2] rfl ?_
    refine LW.ex rfl rfl rfl rfl (Ex.move rfl) hS.rd ?_
    refine LW.ex rfl rfl rfl rfl (Ex.add rfl rfl (by first | exact inc64 (by omega) | exact addN (by omega) | exact w64 (by omega) (by omega))) hS.rd ?_
    refine LW.ex rfl rfl rfl rfl (Ex.assign rfl) hS.rd ?_
    refine LW.nil fun aa ha => ?_
    refine ⟨_, _, ?m3, ⟨i + 1, s + l[i], (by first | omega | (simp; done) | (simp; omega)), rfl, rfl, hS, by rw [sum_take hi2, he]⟩, ha.sub ⟨rfl, rfl, rfl, trivial⟩⟩
    case m3 => omega
  · have h3_3 := of_decide_eq_false h3_3
    refine LW.nil fun aa ha => hK20 _ _ _ ?_ aa ha
    refine CW.no rfl ?_
    refine CW.exit fun aa ha => hK17 _ _ _ ?_ aa ha
    refine CW.seq fun K22 hK22 => ?_
    refine CW.region [0, 1] rfl ?_
    refine LW.ex rfl rfl rfl rfl (Ex.move rfl) hS.rd ?_
    refine LW.ex rfl rfl rfl rfl (Ex.assign rfl) hS.rd ?_
    refine LW.nil fun aa ha => hK22 _ _ _ ?_ aa ha
    refine CW.ret fun aa ha => ?_
    refine ret_one ha Try.results45 rfl ?_
    exact hS.retE (by rw [he, show i = l.length by omega, List.take_length])
set_option maxRecDepth 100000 in
theorem ints_c (a b : List Int) (ada adb : Option Addr) (ca cb : Nat) (μ : Mem) (w : World) (hμ : Imm μ w) (ha0 : Sl μ ada ca a) (hb0 : Sl μ adb cb b) :
    Calls Try.prog 18 #[.slice ada a.length ca, .slice adb b.length cb] w (RetS w (.bool (decide (a = b)))) := by
  have hal : a.length ≤ 9223372036854775807 := by have := ha0.1; have := ha0.2.1; simp only [maxLen] at this; omega
  have hS := St.start w μ hμ
  refine calls_start 26 [.slice ada a.length ca, .slice adb b.length cb] Try.func18 rfl Try.ntmps18 rfl rfl ?_
  refine CW.seq fun K23 hK23 => ?_
  refine CW.region [0] rfl ?_
  refine LW.ex rfl rfl rfl rfl (Ex.assign rfl) hS.rd ?_
  refine LW.nil fun aa ha => hK23 _ _ _ ?_ aa ha
  refine CW.seq fun K24 hK24 => ?_
  refine CW.seq fun K25 hK25 => ?_
  refine CW.region [0, 1, 2, 3, 4] rfl ?_
  refine LW.ex rfl rfl rfl rfl (Ex.move rfl) hS.rd ?_
  refine LW.ex rfl rfl rfl rfl (Ex.lenSl rfl Try.underlying31 rfl) hS.rd ?_
  refine LW.ex rfl rfl rfl rfl (Ex.move rfl) hS.rd ?_
  refine LW.ex rfl rfl rfl rfl (Ex.lenSl rfl Try.underlying31 rfl) hS.rd ?_
  refine LW.ex rfl rfl rfl rfl (Ex.neq rfl rfl rfl) hS.rd ?_
  refine LW.splitB (fun h1_4 => ?_) (fun h1_4 => ?_)
  · have h1_4 := of_decide_eq_true h1_4
    refine LW.nil fun aa ha => hK25 _ _ _ ?_ aa ha
    refine CW.yes rfl ?_
    refine CW.seq fun K26 hK26 => ?_
    refine CW.region [0] rfl ?_
    refine LW.ex rfl rfl rfl rfl (Ex.assign rfl) hS.rd ?_
    refine LW.nil fun aa ha => hK26 _ _ _ ?_ aa ha
    refine CW.ret fun aa ha => ?_
    refine ret_one ha Try.results18 rfl ?_
    exact hS.retE (by rw [decide_eq_false (fun h => by rw [h] at h1_4; exact h1_4 rfl)])
  · have h1_4 := of_decide_eq_false h1_4
    refine LW.nil fun aa ha => hK25 _ _ _ ?_ aa ha
    refine CW.no rfl ?_
    refine CW.skip fun aa ha => hK24 _ _ _ ?_ aa ha
    refine CW.seq fun K27 hK27 => ?_
    refine CW.seq fun K28 hK28 => ?_
    refine CW.region [0] rfl ?_
    refine LW.ex rfl rfl rfl rfl (Ex.assign rfl) hS.rd ?_
    refine LW.nil fun aa ha => hK28 _ _ _ ?_ aa ha
    refine CW.block ?_
    refine CW.loop (fun qq frm wl4 => ∃ (i : Nat), i ≤ a.length ∧ qq = a.length - i ∧ frm = [(0, .slice ada a.length ca), (1, .slice adb b.length cb), (5, .int .i64 i)] ∧ St w wl4 μ [] ∧ (a.take i = b.take i)) _ ⟨0, (by first | omega | (simp; done) | (simp; omega)), rfl, rfl, hS, rfl⟩ ⟨rfl, rfl, rfl, trivial⟩ ?_
    clear hS
    rintro qq frm wl4 ⟨i, hi, hq, rfl, hS, he⟩
    refine CW.seq fun K29 hK29 => ?_
    refine CW.seq fun K30 hK30 => ?_
    refine CW.region [0, 1, 2, 3] rfl ?_
    refine LW.ex rfl rfl rfl rfl (Ex.move rfl) hS.rd ?_
    refine LW.ex rfl rfl rfl rfl (Ex.move rfl) hS.rd ?_
    refine LW.ex rfl rfl rfl rfl (Ex.lenSl rfl Try.underlying31 rfl) hS.rd ?_
    refine LW.ex rfl rfl rfl rfl (Ex.lss rfl rfl rfl) hS.rd ?_
    refine LW.splitB (fun h4_3 => ?_) (fun h4_3 => ?_)
    · have h4_3 := of_decide_eq_true h4_3
      refine LW.nil fun aa ha => hK30 _ _ _ ?_ aa ha
      refine CW.yes rfl ?_
      refine CW.skip fun aa ha => hK29 _ _ _ ?_ aa ha
      refine CW.seq fun K31 hK31 => ?_
      refine CW.block ?_
      refine CW.seq fun K32 hK32 => ?_
      have hi2 : i < a.length := by omega
      have hi3 : i < b.length := by omega
      obtain ⟨bl, ol, rfl, k0⟩ := ha0.at hi2
      obtain ⟨bl2, ol2, rfl, j0⟩ := hb0.at hi3
      have hS := hS.drew
      refine CW.draw 9 (.ex 0 <| .ex 1 <| .ex 2 <| .ex 3 <| .ex 4 <| .ex 5 <| .ex 6 <| .ex 7 <| .ex 8 <| .done) [] (Rd _ _) mixed (by kernel_rfl) rfl rfl hS.rd ?_
      refine PW.ex rfl rfl rfl rfl (Ex.move rfl) ?_
      refine PW.ex rfl rfl rfl rfl (Ex.move rfl) ?_
      refine PW.ex rfl rfl rfl rfl (Ex.indexSl Try.underlying31 ti3 rfl rfl rfl (by omega)) ?_
      refine PW.ex rfl rfl rfl rfl (Ex.load1 ti3 rfl rfl (by first | exact obT rfl | exact Rd.imm ‹_› | exact slT ‹_›)) ?_
      refine PW.ex rfl rfl rfl rfl (Ex.move rfl) ?_
      refine PW.ex rfl rfl rfl rfl (Ex.move rfl) ?_
      refine PW.ex rfl rfl rfl rfl (Ex.indexSl Try.underlying31 ti3 rfl rfl rfl (by omega)) ?_
      refine PW.ex rfl rfl rfl rfl (Ex.load1 ti3 rfl rfl (by first | exact obT rfl | exact Rd.imm ‹_› | exact slT ‹_›)) ?_
      refine PW.ex rfl rfl rfl rfl (Ex.neq rfl rfl rfl) ?_
      refine PW.splitB (fun h6_8 => ?_) (fun h6_8 => ?_)
      · have h6_8 := of_decide_eq_true h6_8
        refine PW.nil ?_
        refine LW.nil fun aa ha => hK32 _ _ _ ?_ aa ha
        refine CW.yes rfl ?_
        refine CW.seq fun K33 hK33 => ?_
        refine CW.region [0] rfl ?_
        refine LW.ex rfl rfl rfl rfl (Ex.assign rfl) hS.rd ?_
        refine LW.nil fun aa ha => hK33 _ _ _ ?_ aa ha
        refine CW.ret fun aa ha => ?_
        refine ret_one ha Try.results18 rfl ?_
        exact hS.retE (by rw [decide_eq_false (fun h => by subst h; exact h6_8 rfl)])
      · have h6_8 := of_decide_eq_false h6_8
        refine PW.nil ?_
        refine LW.nil fun aa ha => hK32 _ _ _ ?_ aa ha
        refine CW.no rfl ?_
        refine CW.skip fun aa ha => hK31 _ _ _ ?_ aa ha
        refine CW.region [0, 1, 2] rfl ?_
        refine LW.ex rfl rfl rfl rfl (Ex.move rfl) hS.rd ?_
        refine LW.ex rfl rfl rfl rfl (Ex.add rfl rfl (by first | exact inc64 (by omega) | exact addN (by omega) | exact w64 (by omega) (by omega))) hS.rd ?_
        refine LW.ex rfl rfl rfl rfl (Ex.assign rfl) hS.rd ?_
        refine LW.nil fun aa ha => ?_
        refine ⟨_, _, ?m4, ⟨i + 1, (by first | omega | (simp; done) | (simp; omega)), rfl, rfl, hS, by rw [List.take_succ_eq_append_getElem hi2, List.take_succ_eq_append_getElem hi3, he, show a[i] = b[i] by omega]⟩, ha.sub ⟨rfl, rfl, rfl, trivial⟩⟩
        case m4 => omega
    · have h4_3 := of_decide_eq_false h4_3
      refine LW.nil fun aa ha => hK30 _ _ _ ?_ aa ha
      refine CW.no rfl ?_
      refine CW.exit fun aa ha => hK27 _ _ _ ?_ aa ha
      refine CW.seq fun K34 hK34 => ?_
      refine CW.region [0] rfl ?_
      refine LW.ex rfl rfl rfl rfl (Ex.assign rfl) hS.rd ?_
      refine LW.nil fun aa ha => hK34 _ _ _ ?_ aa ha
      refine CW.ret fun aa ha => ?_
      refine ret_one ha Try.results18 rfl ?_
      exact hS.retE (by rw [decide_eq_true (by have h1 : i = a.length := (by omega); have h2 : a.length = b.length := (by omega); rw [h1, List.take_length, h2, List.take_length] at he; exact he)])
end Go.Proofs.Ytgnpjhellmfhoaa

