/-
  Context: searching in sorted lists; pairs of words.
-/
import Derived.Test.YtgnpjhellmfhoaaCxD
import Derived.Test.YtgnpjhellmfhoaaCmp
import Derived.Test.YtgnpjhellmfhoaaFun
import Derived.Test.YtgnpjhellmfhoaaRise
namespace Go.Proofs.Ytgnpjhellmfhoaa
open Go.RowKit Sy

/-! ### Binary search -/
def lbL {α : Type} (cf : α → Int) (xs : List α) : Nat := xs.countP (fun x => decide (cf x < 0))
def hitL {α : Type} (cf : α → Int) (xs : List α) : Bool := match xs[lbL cf xs]? with | some x => decide (cf x = 0) | none => false
theorem lbL_of {α : Type} {cf : α → Int} {xs : List α} {i : Nat} (hi : i ≤ xs.length) (h1 : ∀ k (h : k < xs.length), k < i → cf xs[k] < 0) (h2 : ∀ k (h : k < xs.length), i ≤ k → 0 ≤ cf xs[k]) : lbL cf xs = i := by
  unfold lbL
  have e : xs = xs.take i ++ xs.drop i := (List.take_append_drop i xs).symm
  have e1 : (xs.take i).countP (fun x => decide (cf x < 0)) = i := by
    rw [List.countP_eq_length.2 fun x hx => ?_, List.length_take, Nat.min_eq_left hi]
    obtain ⟨k, hk, rfl⟩ := List.getElem_of_mem hx
    rw [List.length_take] at hk
    rw [List.getElem_take]
    exact decide_eq_true (h1 k (by omega) (by omega))
  have e2 : (xs.drop i).countP (fun x => decide (cf x < 0)) = 0 := by
    rw [List.countP_eq_zero]
    intro x hx
    obtain ⟨k, hk, rfl⟩ := List.getElem_of_mem hx
    rw [List.length_drop] at hk
    rw [List.getElem_drop, decide_eq_true_eq]
    have := h2 (i + k) (by omega) (by omega)
    omega
  conv => lhs; rw [e]
  rw [List.countP_append, e1, e2, Nat.add_zero]
theorem lbL_le {α : Type} (cf : α → Int) (xs : List α) : lbL cf xs ≤ xs.length := List.countP_le_length
theorem mono_at {α : Type} {cf : α → Int} {xs : List α} (h : xs.Pairwise fun x y => 0 ≤ cf x → 0 ≤ cf y) {i j : Nat} (hi : i < xs.length) (hj : j < xs.length) (hij : i ≤ j) (h0 : 0 ≤ cf xs[i]) : 0 ≤ cf xs[j] := by
  rcases Nat.lt_or_eq_of_le hij with h1 | h1
  · exact List.pairwise_iff_getElem.1 h i j hi hj h1 h0
  · subst h1; exact h0
theorem lbL_lt {α : Type} {cf : α → Int} {xs : List α} (h : xs.Pairwise fun x y => 0 ≤ cf x → 0 ≤ cf y) {k : Nat} (hk : k < xs.length) : k < lbL cf xs ↔ cf xs[k] < 0 := by
  -- the first place with 0 ≤ cf
  have key : ∃ i, i ≤ xs.length ∧ (∀ k (h : k < xs.length), k < i → cf xs[k] < 0) ∧ (∀ k (h : k < xs.length), i ≤ k → 0 ≤ cf xs[k]) := by
    by_cases hx : ∃ i, ∃ hi : i < xs.length, 0 ≤ cf xs[i]
    · have hd : ∃ i, ∃ hi : i < xs.length, 0 ≤ cf xs[i] ∧ ∀ k (hk : k < xs.length), k < i → cf xs[k] < 0 := by
        obtain ⟨i, hi, h0⟩ := hx
        induction i using Nat.strongRecOn with
        | _ i ih =>
          by_cases hs : ∃ k, k < i ∧ ∃ hk : k < xs.length, 0 ≤ cf xs[k]
          · obtain ⟨k, hki, hkl, hk0⟩ := hs
            exact ih k hki hkl hk0
          · refine ⟨i, hi, h0, fun k hk hki => ?_⟩
            rcases Int.lt_or_le (cf xs[k]) 0 with h | h
            · exact h
            · exact absurd ⟨k, hki, hk, h⟩ hs
      obtain ⟨i, hi, h0, h1⟩ := hd
      exact ⟨i, by omega, h1, fun k hk hik => mono_at h hi hk hik h0⟩
    · refine ⟨xs.length, Nat.le_refl _, fun k hk _ => ?_, fun k hk h => by omega⟩
      rcases Int.lt_or_le (cf xs[k]) 0 with h | h
      · exact h
      · exact absurd ⟨k, hk, h⟩ hx
  obtain ⟨i, hi, h1, h2⟩ := key
  rw [lbL_of hi h1 h2]
  constructor
  · intro h; exact h1 k hk h
  · intro h
    rcases Nat.lt_or_ge k i with h3 | h3
    · exact h3
    · have := h2 k hk h3; omega
theorem wrapU {n : Nat} (h : n < 4611686018427387904) : IntKind.u64.wrap (n : Int) = n := by simp [IntKind.wrap, IntKind.bits, IntKind.signed]; omega
set_option maxRecDepth 100000 in
theorem bsearchPr_c (xs : List Pr) (tv : Value) (f : Nat) (cap : Array Value) (cf : Pr → Int) (hf : Callable Try.prog f) (ad : Option Addr) (c : Nat) (μ : Mem) (w : World) (hμ : Imm μ w) (hl : Sl μ ad c xs) (hbig : xs.length < 1099511627776)
    (hm : xs.Pairwise fun x y => 0 ≤ cf x → 0 ≤ cf y) (hcf : ∀ x ∈ xs, ∀ w', Imm μ w' → Calls Try.prog f ([prV x, tv] ++ cap.toList).toArray w' (RetS w' (.int .i64 (cf x)))) :
    Calls Try.prog 85 #[.slice ad xs.length c, tv, .func (.func f) #[] cap] w (RetS w (.tuple #[.int .i64 (lbL cf xs : Nat), .bool (hitL cf xs)])) := by
  have hS := St.start w μ hμ
  refine calls_start 49 [.slice ad xs.length c, tv, .func (.func f) #[] cap] Try.func85 rfl Try.ntmps85 rfl rfl ?_
  refine CW.seq fun K1 hK1 => ?_
  refine CW.region [0, 1] rfl ?_
  refine LW.ex rfl rfl rfl rfl (Ex.assign rfl) hS.rd ?_
  refine LW.ex rfl rfl rfl rfl (Ex.assign rfl) hS.rd ?_
  refine LW.nil fun aa ha => hK1 _ _ _ ?_ aa ha
  refine CW.seq fun K2 hK2 => ?_
  refine CW.region [0, 1, 2] rfl ?_
  refine LW.ex rfl rfl rfl rfl (Ex.move rfl) hS.rd ?_
  refine LW.ex rfl rfl rfl rfl (Ex.lenSl rfl Try.underlying32 rfl) hS.rd ?_
  refine LW.ex rfl rfl rfl rfl (Ex.assign rfl) hS.rd ?_
  refine LW.nil fun aa ha => hK2 _ _ _ ?_ aa ha
  refine CW.seq fun K3 hK3 => ?_
  refine CW.region [0, 1, 2] rfl ?_
  refine LW.ex rfl rfl rfl rfl (Ex.move rfl) hS.rd ?_
  refine LW.ex rfl rfl rfl rfl (Ex.assign rfl) hS.rd ?_
  refine LW.ex rfl rfl rfl rfl (Ex.assign rfl) hS.rd ?_
  refine LW.nil fun aa ha => hK3 _ _ _ ?_ aa ha
  refine CW.seq fun K4 hK4 => ?_
  refine CW.block ?_
  refine CW.loop (fun qq frm wl3 => ∃ (i : Nat) (j : Nat), i ≤ j ∧ j ≤ xs.length ∧ qq = j - i ∧ frm = [(0, .slice ad xs.length c), (1, tv), (2, .func (.func f) #[] cap), (8, .int .i64 ((xs.length : Nat) : Int)), (9, .int .i64 i), (10, .int .i64 j)] ∧ St w wl3 μ [] ∧ (∀ k (h : k < xs.length), k < i → cf xs[k] < 0) ∧ (∀ k (h : k < xs.length), j ≤ k → 0 ≤ cf xs[k])) _ ⟨0, xs.length, (by first | omega | (simp; done) | (simp; omega)), (by first | omega | (simp; done) | (simp; omega)), rfl, rfl, hS, fun k _ hk => by omega, fun k hk h => by omega⟩ ⟨rfl, rfl, rfl, rfl, rfl, rfl, trivial⟩ ?_
  clear hS
  rintro qq frm wl3 ⟨i, j, hij, hjn, hq, rfl, hS, h1, h2⟩
  refine CW.seq fun K5 hK5 => ?_
  refine CW.seq fun K6 hK6 => ?_
  refine CW.region [0, 1, 2] rfl ?_
  refine LW.ex rfl rfl rfl rfl (Ex.move rfl) hS.rd ?_
  refine LW.ex rfl rfl rfl rfl (Ex.move rfl) hS.rd ?_
  refine LW.ex rfl rfl rfl rfl (Ex.lss rfl rfl rfl) hS.rd ?_
  refine LW.splitB (fun h3_2 => ?_) (fun h3_2 => ?_)
  · have h3_2 := of_decide_eq_true h3_2
    refine LW.nil fun aa ha => hK6 _ _ _ ?_ aa ha
    refine CW.yes rfl ?_
    refine CW.skip fun aa ha => hK5 _ _ _ ?_ aa ha
    refine CW.block ?_
    refine CW.seq fun K7 hK7 => ?_
    have hij2 : i < j := by omega
    obtain ⟨h, hh⟩ : ∃ h, h = (i + j) / 2 := ⟨_, rfl⟩
    have hhi : i ≤ h := by omega
    have hhj : h < j := by omega
    have hhx : h < xs.length := by omega
    obtain ⟨bl, ol, hade, k0, k1, k2⟩ := hl.at hhx
    refine CW.region [0, 1, 2, 3, 4, 5, 6] rfl ?_
    refine LW.ex rfl rfl rfl rfl (Ex.move rfl) hS.rd ?_
    refine LW.ex rfl rfl rfl rfl (Ex.move rfl) hS.rd ?_
    refine LW.ex rfl rfl rfl rfl (Ex.add (r := ((i + j : Nat) : Int)) rfl rfl (addN (by omega))) hS.rd ?_
    refine LW.ex rfl rfl rfl rfl (Ex.conv Try.underlying3 Try.underlying157 rfl (wrapU (by omega))) hS.rd ?_
    refine LW.ex rfl rfl rfl rfl (Ex.shr1 (r := (h : Int)) rfl rfl (by omega)) hS.rd ?_
    refine LW.ex rfl rfl rfl rfl (Ex.conv Try.underlying157 Try.underlying3 rfl (w64 (by omega) (by omega))) hS.rd ?_
    refine LW.ex rfl rfl rfl rfl (Ex.assign rfl) hS.rd ?_
    refine LW.nil fun aa ha => hK7 _ _ _ ?_ aa ha
    refine CW.seq fun K8 hK8 => ?_
    subst hade
    refine CW.region [0, 1, 2, 3, 4, 5, 6, 7] rfl ?_
    refine LW.ex rfl rfl rfl rfl (Ex.move rfl) hS.rd ?_
    refine LW.ex rfl rfl rfl rfl (Ex.move rfl) hS.rd ?_
    refine LW.ex rfl rfl rfl rfl (Ex.move rfl) hS.rd ?_
    refine LW.ex rfl rfl rfl rfl (Ex.indexSl Try.underlying32 ti87 rfl rfl rfl (by omega)) hS.rd ?_
    refine LW.ex rfl rfl rfl rfl (Ex.load3c ti87 rfl rfl (by first | exact obT rfl | exact Rd.imm ‹_› | exact slT ‹_›) (by first | exact obT rfl | exact Rd.imm ‹_› | exact slT ‹_›) (by first | exact obT rfl | exact Rd.imm ‹_› | exact slT ‹_›)) hS.rd ?_
    refine LW.ex rfl rfl rfl rfl (Ex.move rfl) hS.rd ?_
    refine LW.hv rfl rfl rfl rfl (Hv.callS hS rfl rfl rfl hf (hcf xs[h] (List.getElem_mem hhx) _ hS.imm)) fun v w30 ⟨hv, hS⟩ => ?_
    subst hv
    refine LW.ex rfl rfl rfl rfl (Ex.lss rfl rfl rfl) hS.rd ?_
    refine LW.splitB (fun h5_7 => ?_) (fun h5_7 => ?_)
    · have h5_7 := of_decide_eq_true h5_7
      refine LW.nil fun aa ha => hK8 _ _ _ ?_ aa ha
      refine CW.yes rfl ?_
      refine CW.region [0, 1, 2] rfl ?_
      refine LW.ex rfl rfl rfl rfl (Ex.move rfl) hS.rd ?_
      refine LW.ex rfl rfl rfl rfl (Ex.add rfl rfl (by first | exact inc64 (by omega) | exact addN (by omega) | exact w64 (by omega) (by omega))) hS.rd ?_
      refine LW.ex rfl rfl rfl rfl (Ex.assign rfl) hS.rd ?_
      refine LW.nil fun aa ha => ?_
      have hlt := h5_7
      refine ⟨_, _, ?m3, ⟨h + 1, j, (by first | omega | (simp; done) | (simp; omega)), (by first | omega | (simp; done) | (simp; omega)), rfl, rfl, hS, fun k hk hki => by rcases Int.lt_or_le (cf xs[k]) 0 with h | h5; (· exact h); (· have := mono_at hm hk hhx (by omega) h5; omega), h2⟩, ha.sub ⟨rfl, rfl, rfl, rfl, rfl, rfl, trivial⟩⟩
      case m3 => omega
    · have h5_7 := of_decide_eq_false h5_7
      refine LW.nil fun aa ha => hK8 _ _ _ ?_ aa ha
      refine CW.no rfl ?_
      refine CW.region [0, 1] rfl ?_
      refine LW.ex rfl rfl rfl rfl (Ex.move rfl) hS.rd ?_
      refine LW.ex rfl rfl rfl rfl (Ex.assign rfl) hS.rd ?_
      refine LW.nil fun aa ha => ?_
      refine ⟨_, _, ?m3, ⟨i, h, (by first | omega | (simp; done) | (simp; omega)), (by first | omega | (simp; done) | (simp; omega)), rfl, rfl, hS, h1, fun k hk hki => mono_at hm hhx hk hki (by omega)⟩, ha.sub ⟨rfl, rfl, rfl, rfl, rfl, rfl, trivial⟩⟩
      case m3 => omega
  · have h3_2 := of_decide_eq_false h3_2
    refine LW.nil fun aa ha => hK6 _ _ _ ?_ aa ha
    refine CW.no rfl ?_
    refine CW.exit fun aa ha => hK4 _ _ _ ?_ aa ha
    refine CW.seq fun K9 hK9 => ?_
    have hie : i = j := by omega
    subst hie
    have hlb : lbL cf xs = i := lbL_of (by omega) h1 h2
    refine CW.region [0, 1, 2, 3, 4, 5, 6, 7, 8, 9, 10, 11, 12, 13, 14, 15] rfl ?_
    refine LW.ex rfl rfl rfl rfl (Ex.move rfl) hS.rd ?_
    refine LW.ex rfl rfl rfl rfl (Ex.move rfl) hS.rd ?_
    refine LW.ex rfl rfl rfl rfl (Ex.move rfl) hS.rd ?_
    refine LW.ex rfl rfl rfl rfl (Ex.lss rfl rfl rfl) hS.rd ?_
    refine LW.splitB (fun h8_3 => ?_) (fun h8_3 => ?_)
    · have h8_3 := of_decide_eq_true h8_3
      have hix : i < xs.length := by omega
      obtain ⟨bl, ol, hade, k0, k1, k2⟩ := hl.at hix
      subst hade
      refine LW.ex rfl rfl rfl rfl (Ex.move rfl) hS.rd ?_
      refine LW.ex rfl rfl rfl rfl (Ex.move rfl) hS.rd ?_
      refine LW.ex rfl rfl rfl rfl (Ex.move rfl) hS.rd ?_
      refine LW.ex rfl rfl rfl rfl (Ex.move rfl) hS.rd ?_
      refine LW.ex rfl rfl rfl rfl (Ex.indexSl Try.underlying32 ti87 rfl rfl rfl (by omega)) hS.rd ?_
      refine LW.ex rfl rfl rfl rfl (Ex.load3c ti87 rfl rfl (by first | exact obT rfl | exact Rd.imm ‹_› | exact slT ‹_›) (by first | exact obT rfl | exact Rd.imm ‹_› | exact slT ‹_›) (by first | exact obT rfl | exact Rd.imm ‹_› | exact slT ‹_›)) hS.rd ?_
      refine LW.ex rfl rfl rfl rfl (Ex.move rfl) hS.rd ?_
      refine LW.hv rfl rfl rfl rfl (Hv.callS hS rfl rfl rfl hf (hcf xs[i] (List.getElem_mem hix) _ hS.imm)) fun v w46 ⟨hv, hS⟩ => ?_
      subst hv
      refine LW.ex rfl rfl rfl rfl (Ex.eql rfl rfl (by first | exact decide_eq_true (by omega) | exact decide_eq_false (by omega) | rfl)) hS.rd ?_
      refine LW.ex rfl rfl rfl rfl (by first | exact Ex.pick_yes rfl rfl | exact Ex.pick_no rfl rfl) hS.rd ?_
      refine LW.ex rfl rfl rfl rfl (Ex.assign rfl) hS.rd ?_
      refine LW.ex rfl rfl rfl rfl (Ex.assign rfl) hS.rd ?_
      refine LW.nil fun aa ha => hK9 _ _ _ ?_ aa ha
      refine CW.ret fun aa ha => ?_
      refine ret_two ha Try.results85 rfl rfl ?_
      have hhit : hitL cf xs = decide (cf xs[i] = 0) := by unfold hitL; rw [hlb, List.getElem?_eq_getElem hix]
      rw [hlb, hhit]; exact hS.retS
    · have h8_3 := of_decide_eq_false h8_3
      refine LW.ex rfl rfl rfl rfl (Ex.move rfl) hS.rd ?_
      refine LW.skip rfl rfl rfl rfl ?_
      refine LW.skip rfl rfl rfl rfl ?_
      refine LW.skip rfl rfl rfl rfl ?_
      refine LW.skip rfl rfl rfl rfl ?_
      refine LW.skip rfl rfl rfl rfl ?_
      refine LW.skip rfl rfl rfl rfl ?_
      refine LW.skip rfl rfl rfl rfl ?_
      refine LW.skip rfl rfl rfl rfl ?_
      refine LW.ex rfl rfl rfl rfl (by first | exact Ex.pick_yes rfl rfl | exact Ex.pick_no rfl rfl) hS.rd ?_
      refine LW.ex rfl rfl rfl rfl (Ex.assign rfl) hS.rd ?_
      refine LW.ex rfl rfl rfl rfl (Ex.assign rfl) hS.rd ?_
      refine LW.nil fun aa ha => hK9 _ _ _ ?_ aa ha
      refine CW.ret fun aa ha => ?_
      refine ret_two ha Try.results85 rfl rfl ?_
      have hhit : hitL cf xs = false := by unfold hitL; rw [hlb, List.getElem?_eq_none (by omega)]
      rw [hlb, hhit]; exact hS.retS
set_option maxRecDepth 100000 in
theorem bsearchEd_c (xs : List Edge) (tv : Value) (f : Nat) (cap : Array Value) (cf : Edge → Int) (hf : Callable Try.prog f) (ad : Option Addr) (c : Nat) (μ : Mem) (w : World) (hμ : Imm μ w) (hl : Sl μ ad c xs) (hbig : xs.length < 1099511627776)
    (hm : xs.Pairwise fun x y => 0 ≤ cf x → 0 ≤ cf y) (hcf : ∀ x ∈ xs, ∀ w', Imm μ w' → Calls Try.prog f ([edgeV x, tv] ++ cap.toList).toArray w' (RetS w' (.int .i64 (cf x)))) :
    Calls Try.prog 77 #[.slice ad xs.length c, tv, .func (.func f) #[] cap] w (RetS w (.tuple #[.int .i64 (lbL cf xs : Nat), .bool (hitL cf xs)])) := by
  have hS := St.start w μ hμ
  refine calls_start 49 [.slice ad xs.length c, tv, .func (.func f) #[] cap] Try.func77 rfl Try.ntmps77 rfl rfl ?_
  refine CW.seq fun K10 hK10 => ?_
  refine CW.region [0, 1] rfl ?_
  refine LW.ex rfl rfl rfl rfl (Ex.assign rfl) hS.rd ?_
  refine LW.ex rfl rfl rfl rfl (Ex.assign rfl) hS.rd ?_
  refine LW.nil fun aa ha => hK10 _ _ _ ?_ aa ha
  refine CW.seq fun K11 hK11 => ?_
  refine CW.region [0, 1, 2] rfl ?_
  refine LW.ex rfl rfl rfl rfl (Ex.move rfl) hS.rd ?_
  refine LW.ex rfl rfl rfl rfl (Ex.lenSl rfl Try.underlying36 rfl) hS.rd ?_
  refine LW.ex rfl rfl rfl rfl (Ex.assign rfl) hS.rd ?_
  refine LW.nil fun aa ha => hK11 _ _ _ ?_ aa ha
  refine CW.seq fun K12 hK12 => ?_
  refine CW.region [0, 1, 2] rfl ?_
  refine LW.ex rfl rfl rfl rfl (Ex.move rfl) hS.rd ?_
  refine LW.ex rfl rfl rfl rfl (Ex.assign rfl) hS.rd ?_
  refine LW.ex rfl rfl rfl rfl (Ex.assign rfl) hS.rd ?_
  refine LW.nil fun aa ha => hK12 _ _ _ ?_ aa ha
  refine CW.seq fun K13 hK13 => ?_
  refine CW.block ?_
  refine CW.loop (fun qq frm wl3 => ∃ (i : Nat) (j : Nat), i ≤ j ∧ j ≤ xs.length ∧ qq = j - i ∧ frm = [(0, .slice ad xs.length c), (1, tv), (2, .func (.func f) #[] cap), (8, .int .i64 ((xs.length : Nat) : Int)), (9, .int .i64 i), (10, .int .i64 j)] ∧ St w wl3 μ [] ∧ (∀ k (h : k < xs.length), k < i → cf xs[k] < 0) ∧ (∀ k (h : k < xs.length), j ≤ k → 0 ≤ cf xs[k])) _ ⟨0, xs.length, (by first | omega | (simp; done) | (simp; omega)), (by first | omega | (simp; done) | (simp; omega)), rfl, rfl, hS, fun k _ hk => by omega, fun k hk h => by omega⟩ ⟨rfl, rfl, rfl, rfl, rfl, rfl, trivial⟩ ?_
  clear hS
  rintro qq frm wl3 ⟨i, j, hij, hjn, hq, rfl, hS, h1, h2⟩
  refine CW.seq fun K14 hK14 => ?_
  refine CW.seq fun K15 hK15 => ?_
  refine CW.region [0, 1, 2] rfl ?_
  refine LW.ex rfl rfl rfl rfl (Ex.move rfl) hS.rd ?_
  refine LW.ex rfl rfl rfl rfl (Ex.move rfl) hS.rd ?_
  refine LW.ex rfl rfl rfl rfl (Ex.lss rfl rfl rfl) hS.rd ?_
  refine LW.splitB (fun h3_2 => ?_) (fun h3_2 => ?_)
  · have h3_2 := of_decide_eq_true h3_2
    refine LW.nil fun aa ha => hK15 _ _ _ ?_ aa ha
    refine CW.yes rfl ?_
    refine CW.skip fun aa ha => hK14 _ _ _ ?_ aa ha
    refine CW.block ?_
    refine CW.seq fun K16 hK16 => ?_
    have hij2 : i < j := by omega
    obtain ⟨h, hh⟩ : ∃ h, h = (i + j) / 2 := ⟨_, rfl⟩
    have hhi : i ≤ h := by omega
    have hhj : h < j := by omega
    have hhx : h < xs.length := by omega
    obtain ⟨bl, ol, hade, k0, k1, k2, k3⟩ := hl.at hhx
    refine CW.region [0, 1, 2, 3, 4, 5, 6] rfl ?_
    refine LW.ex rfl rfl rfl rfl (Ex.move rfl) hS.rd ?_
    refine LW.ex rfl rfl rfl rfl (Ex.move rfl) hS.rd ?_
    refine LW.ex rfl rfl rfl rfl (Ex.add (r := ((i + j : Nat) : Int)) rfl rfl (addN (by omega))) hS.rd ?_
    refine LW.ex rfl rfl rfl rfl (Ex.conv Try.underlying3 Try.underlying157 rfl (wrapU (by omega))) hS.rd ?_
    refine LW.ex rfl rfl rfl rfl (Ex.shr1 (r := (h : Int)) rfl rfl (by omega)) hS.rd ?_
    refine LW.ex rfl rfl rfl rfl (Ex.conv Try.underlying157 Try.underlying3 rfl (w64 (by omega) (by omega))) hS.rd ?_
    refine LW.ex rfl rfl rfl rfl (Ex.assign rfl) hS.rd ?_
    refine LW.nil fun aa ha => hK16 _ _ _ ?_ aa ha
    refine CW.seq fun K17 hK17 => ?_
    subst hade
    refine CW.region [0, 1, 2, 3, 4, 5, 6, 7] rfl ?_
    refine LW.ex rfl rfl rfl rfl (Ex.move rfl) hS.rd ?_
    refine LW.ex rfl rfl rfl rfl (Ex.move rfl) hS.rd ?_
    refine LW.ex rfl rfl rfl rfl (Ex.move rfl) hS.rd ?_
    refine LW.ex rfl rfl rfl rfl (Ex.indexSl Try.underlying36 ti43 rfl rfl rfl (by omega)) hS.rd ?_
    refine LW.ex rfl rfl rfl rfl (Ex.load4c ti43 rfl rfl (by first | exact obT rfl | exact Rd.imm ‹_› | exact slT ‹_›) (by first | exact obT rfl | exact Rd.imm ‹_› | exact slT ‹_›) (by first | exact obT rfl | exact Rd.imm ‹_› | exact slT ‹_›) (by first | exact obT rfl | exact Rd.imm ‹_› | exact slT ‹_›)) hS.rd ?_
    refine LW.ex rfl rfl rfl rfl (Ex.move rfl) hS.rd ?_
    refine LW.hv rfl rfl rfl rfl (Hv.callS hS rfl rfl rfl hf (hcf xs[h] (List.getElem_mem hhx) _ hS.imm)) fun v w30 ⟨hv, hS⟩ => ?_
    subst hv
    refine LW.ex rfl rfl rfl rfl (Ex.lss rfl rfl rfl) hS.rd ?_
    refine LW.splitB (fun h5_7 => ?_) (fun h5_7 => ?_)
    · have h5_7 := of_decide_eq_true h5_7
      refine LW.nil fun aa ha => hK17 _ _ _ ?_ aa ha
      refine CW.yes rfl ?_
      refine CW.region [0, 1, 2] rfl ?_
      refine LW.ex rfl rfl rfl rfl (Ex.move rfl) hS.rd ?_
      refine LW.ex rfl rfl rfl rfl (Ex.add rfl rfl (by first | exact inc64 (by omega) | exact addN (by omega) | exact w64 (by omega) (by omega))) hS.rd ?_
      refine LW.ex rfl rfl rfl rfl (Ex.assign rfl) hS.rd ?_
      refine LW.nil fun aa ha => ?_
      have hlt := h5_7
      refine ⟨_, _, ?m3, ⟨h + 1, j, (by first | omega | (simp; done) | (simp; omega)), (by first | omega | (simp; done) | (simp; omega)), rfl, rfl, hS, fun k hk hki => by rcases Int.lt_or_le (cf xs[k]) 0 with h | h5; (· exact h); (· have := mono_at hm hk hhx (by omega) h5; omega), h2⟩, ha.sub ⟨rfl, rfl, rfl, rfl, rfl, rfl, trivial⟩⟩
      case m3 => omega
    · have h5_7 := of_decide_eq_false h5_7
      refine LW.nil fun aa ha => hK17 _ _ _ ?_ aa ha
      refine CW.no rfl ?_
      refine CW.region [0, 1] rfl ?_
      refine LW.ex rfl rfl rfl rfl (Ex.move rfl) hS.rd ?_
      refine LW.ex rfl rfl rfl rfl (Ex.assign rfl) hS.rd ?_
      refine LW.nil fun aa ha => ?_
      refine ⟨_, _, ?m3, ⟨i, h, (by first | omega | (simp; done) | (simp; omega)), (by first | omega | (simp; done) | (simp; omega)), rfl, rfl, hS, h1, fun k hk hki => mono_at hm hhx hk hki (by omega)⟩, ha.sub ⟨rfl, rfl, rfl, rfl, rfl, rfl, trivial⟩⟩
      case m3 => omega
  · have h3_2 := of_decide_eq_false h3_2
    refine LW.nil fun aa ha => hK15 _ _ _ ?_ aa ha
    refine CW.no rfl ?_
    refine CW.exit fun aa ha => hK13 _ _ _ ?_ aa ha
    refine CW.seq fun K18 hK18 => ?_
    have hie : i = j := by omega
    subst hie
    have hlb : lbL cf xs = i := lbL_of (by omega) h1 h2
    refine CW.region [0, 1, 2, 3, 4, 5, 6, 7, 8, 9, 10, 11, 12, 13, 14, 15] rfl ?_
    refine LW.ex rfl rfl rfl rfl (Ex.move rfl) hS.rd ?_
    refine LW.ex rfl rfl rfl rfl (Ex.move rfl) hS.rd ?_
    refine LW.ex rfl rfl rfl rfl (Ex.move rfl) hS.rd ?_
    refine LW.ex rfl rfl rfl rfl (Ex.lss rfl rfl rfl) hS.rd ?_
    refine LW.splitB (fun h8_3 => ?_) (fun h8_3 => ?_)
    · have h8_3 := of_decide_eq_true h8_3
      have hix : i < xs.length := by omega
      obtain ⟨bl, ol, hade, k0, k1, k2, k3⟩ := hl.at hix
      subst hade
      refine LW.ex rfl rfl rfl rfl (Ex.move rfl) hS.rd ?_
      refine LW.ex rfl rfl rfl rfl (Ex.move rfl) hS.rd ?_
      refine LW.ex rfl rfl rfl rfl (Ex.move rfl) hS.rd ?_
      refine LW.ex rfl rfl rfl rfl (Ex.move rfl) hS.rd ?_
      refine LW.ex rfl rfl rfl rfl (Ex.indexSl Try.underlying36 ti43 rfl rfl rfl (by omega)) hS.rd ?_
      refine LW.ex rfl rfl rfl rfl (Ex.load4c ti43 rfl rfl (by first | exact obT rfl | exact Rd.imm ‹_› | exact slT ‹_›) (by first | exact obT rfl | exact Rd.imm ‹_› | exact slT ‹_›) (by first | exact obT rfl | exact Rd.imm ‹_› | exact slT ‹_›) (by first | exact obT rfl | exact Rd.imm ‹_› | exact slT ‹_›)) hS.rd ?_
      refine LW.ex rfl rfl rfl rfl (Ex.move rfl) hS.rd ?_
      refine LW.hv rfl rfl rfl rfl (Hv.callS hS rfl rfl rfl hf (hcf xs[i] (List.getElem_mem hix) _ hS.imm)) fun v w46 ⟨hv, hS⟩ => ?_
      subst hv
      refine LW.ex rfl rfl rfl rfl (Ex.eql rfl rfl (by first | exact decide_eq_true (by omega) | exact decide_eq_false (by omega) | rfl)) hS.rd ?_
      refine LW.ex rfl rfl rfl rfl (by first | exact Ex.pick_yes rfl rfl | exact Ex.pick_no rfl rfl) hS.rd ?_
      refine LW.ex rfl rfl rfl rfl (Ex.assign rfl) hS.rd ?_
      refine LW.ex rfl rfl rfl rfl (Ex.assign rfl) hS.rd ?_
      refine LW.nil fun aa ha => hK18 _ _ _ ?_ aa ha
      refine CW.ret fun aa ha => ?_
      refine ret_two ha Try.results77 rfl rfl ?_
      have hhit : hitL cf xs = decide (cf xs[i] = 0) := by unfold hitL; rw [hlb, List.getElem?_eq_getElem hix]
      rw [hlb, hhit]; exact hS.retS
    · have h8_3 := of_decide_eq_false h8_3
      refine LW.ex rfl rfl rfl rfl (Ex.move rfl) hS.rd ?_
      refine LW.skip rfl rfl rfl rfl ?_
      refine LW.skip rfl rfl rfl rfl ?_
      refine LW.skip rfl rfl rfl rfl ?_
      refine LW.skip rfl rfl rfl rfl ?_
      refine LW.skip rfl rfl rfl rfl ?_
      refine LW.skip rfl rfl rfl rfl ?_
      refine LW.skip rfl rfl rfl rfl ?_
      refine LW.skip rfl rfl rfl rfl ?_
      refine LW.ex rfl rfl rfl rfl (by first | exact Ex.pick_yes rfl rfl | exact Ex.pick_no rfl rfl) hS.rd ?_
      refine LW.ex rfl rfl rfl rfl (Ex.assign rfl) hS.rd ?_
      refine LW.ex rfl rfl rfl rfl (Ex.assign rfl) hS.rd ?_
      refine LW.nil fun aa ha => hK18 _ _ _ ?_ aa ha
      refine CW.ret fun aa ha => ?_
      refine ret_two ha Try.results77 rfl rfl ?_
      have hhit : hitL cf xs = false := by unfold hitL; rw [hlb, List.getElem?_eq_none (by omega)]
      rw [hlb, hhit]; exact hS.retS
end Go.Proofs.Ytgnpjhellmfhoaa

