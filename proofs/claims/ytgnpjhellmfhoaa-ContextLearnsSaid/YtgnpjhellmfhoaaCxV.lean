/-
  Context: the reference's model, made of raw data: in plain Lean, and its walk.
-/
import Derived.Test.YtgnpjhellmfhoaaCxU
namespace Go.Proofs.Ytgnpjhellmfhoaa
open Go.RowKit Sy

def wordsM (ws : List (List UInt8)) : List ByteArray := (ws.take 6).foldl (fun l w => insS (wordR w) l) [⟨#[97]⟩, ⟨#[98]⟩]
def countAt (cs : List UInt8) (i : Nat) : Int := ((cs[i]?.getD 0).toNat : Nat)
def countsM (n : Nat) (cs : List UInt8) : List Int := (List.range n).map (countAt cs)
def pairOf (n : Nat) (u : B3) : Pr := ⟨(u.a.toNat % n : Nat), (u.b.toNat % n : Nat), (1 + u.c.toNat % 16 : Nat)⟩
def pairsM (n : Nat) (us : List B3) : List Pr := (us.take 8).foldl (fun l u => insP (pairOf n u) l) []
def madeM (x : Raw) : Mdl := ⟨wordsM x.Words, countsM (wordsM x.Words).length x.Counts, pairsM (wordsM x.Words).length x.Uses, (x.Back.toNat : Nat)⟩

/-! ### It is valid -/
theorem sLt_iff {s u : ByteArray} : sLt s u = true ↔ bl s < bl u := by unfold sLt; exact decide_eq_true_iff
theorem sLt_trans {s u v : ByteArray} (h1 : sLt s u = true) (h2 : sLt u v = true) : sLt s v = true := by rw [sLt_iff] at *; exact List.lt_trans h1 h2
theorem sLt_irr (s : ByteArray) : sLt s s = false := by rw [Bool.eq_false_iff, ne_eq, sLt_iff]; exact List.lt_irrefl _
theorem sLt_tot {s u : ByteArray} (h1 : sLt s u = false) (h2 : (s == u) = false) : sLt u s = true := by
  rw [Bool.eq_false_iff, ne_eq, sLt_iff] at h1
  rw [bl_eq, decide_eq_false_iff_not] at h2
  rw [sLt_iff]
  rcases Std.lt_trichotomy (bl s) (bl u) with h | h | h
  · exact absurd h h1
  · exact absurd h h2
  · exact h
theorem insS_eq {s : ByteArray} {L : List ByteArray} (h : L.Pairwise fun a b => sLt a b = true) : insS s L = ins (fun q => sLt s q) (fun q => s == q) id s L :=
  insG_ins (R := fun a b => sLt a b = true) (fun q z h1 h2 => sLt_trans h1 h2) (fun q z h1 h2 => by
    rw [bl_eq, decide_eq_true_eq] at h1; have := bl_inj h1; subst this; exact h2) (fun z h1 => by
    rw [Bool.eq_false_iff]; intro h2; rw [bl_eq, decide_eq_true_eq] at h2; have := bl_inj h2; subst this; rw [sLt_irr] at h1; cases h1) h
theorem insS_sorted {s : ByteArray} {L : List ByteArray} (h : L.Pairwise fun a b => sLt a b = true) : (insS s L).Pairwise fun a b => sLt a b = true := by
  rw [insS_eq h]
  exact ins_sorted (R := fun a b => sLt a b = true) (fun q hq => hq) (fun q h1 h2 => sLt_tot h1 h2) (fun q z _ h => h) (fun q z _ h => h) (fun a b c h1 h2 => sLt_trans h1 h2) h
theorem insS_mem {s y : ByteArray} {L : List ByteArray} (h : L.Pairwise fun a b => sLt a b = true) (hy : y ∈ insS s L) : y = s ∨ y ∈ L := by
  rw [insS_eq h] at hy
  rcases ins_mem hy with h | h | ⟨z, hz, _, rfl⟩
  · exact .inl h
  · exact .inr h
  · exact .inr hz
theorem insS_len {s : ByteArray} {L : List ByteArray} (h : L.Pairwise fun a b => sLt a b = true) : L.length ≤ (insS s L).length ∧ (insS s L).length ≤ L.length + 1 := by
  rw [insS_eq h]; exact ins_len
def wordsTo (ws : List (List UInt8)) (i : Nat) : List ByteArray := (ws.take i).foldl (fun l w => insS (wordR w) l) [⟨#[97]⟩, ⟨#[98]⟩]
theorem wordsTo_succ {ws : List (List UInt8)} {i : Nat} (h : i < ws.length) : wordsTo ws (i + 1) = insS (wordR ws[i]) (wordsTo ws i) := by
  unfold wordsTo; rw [List.take_succ_eq_append_getElem h, List.foldl_append]; rfl
theorem wordsTo_ok (ws : List (List UInt8)) : ∀ i, i ≤ ws.length → (wordsTo ws i).Pairwise (fun a b => sLt a b = true) ∧ (∀ s ∈ wordsTo ws i, wordOk s = true ∧ s.size ≤ 3) ∧ 2 ≤ (wordsTo ws i).length ∧ (wordsTo ws i).length ≤ 2 + i
  | 0, _ => by rw [show wordsTo ws 0 = [⟨#[97]⟩, ⟨#[98]⟩] from rfl]; exact ⟨by decide, by decide, by decide, by decide⟩
  | i + 1, h => by
    obtain ⟨h1, h2, h3, h4⟩ := wordsTo_ok ws i (by omega)
    rw [wordsTo_succ (by omega)]
    have hl := insS_len (s := wordR ws[i]) h1
    refine ⟨insS_sorted h1, fun s hs => ?_, by omega, by omega⟩
    rcases insS_mem h1 hs with rfl | hs
    · exact wordR_ok _
    · exact h2 s hs
theorem wordsM_to (ws : List (List UInt8)) : wordsM ws = wordsTo ws (min ws.length 6) := by
  unfold wordsM wordsTo
  by_cases h : ws.length ≤ 6
  · rw [Nat.min_eq_left h, List.take_length, List.take_of_length_le h]
  · rw [Nat.min_eq_right (by omega)]
theorem insP_eq {p : Pr} {L : List Pr} (h : PrSort L) : insP p L = ins (fun q => prLess p q) (fun q => prSame p q) (prAdd p) p L :=
  insG_ins (R := fun a b => prLess a b = true) (fun q z h1 h2 => prLess_trans _ _ _ h1 h2) (fun q z h1 h2 => by
    unfold prSame at h1; rw [decide_eq_true_eq] at h1; rw [prLess_iff] at *; omega) (fun z h1 => by
    rw [prLess_iff] at h1; unfold prSame; rw [decide_eq_false_iff_not]; omega) h
theorem insP_sorted {p : Pr} {L : List Pr} (h : PrSort L) : PrSort (insP p L) := by
  rw [insP_eq h]
  exact ins_sorted (R := fun a b => prLess a b = true) (fun q hq => hq) (fun q h1 h2 => by
    rw [Bool.eq_false_iff, ne_eq, prLess_iff] at h1; unfold prSame at h2; rw [decide_eq_false_iff_not] at h2; rw [prLess_iff]; omega) (fun q z _ h => by
    rw [prLess_iff] at *; exact h) (fun q z _ h => by rw [prLess_iff] at *; exact h) prLess_trans h
def totN (l : List Pr) : Int := (l.map (·.N)).sum
theorem ins_tot {p : Pr} : ∀ {L : List Pr}, totN (ins (fun q => prLess p q) (fun q => prSame p q) (prAdd p) p L) = totN L + p.N
  | [] => by simp [ins, totN]
  | q :: r => by
    have ih := ins_tot (p := p) (L := r)
    unfold totN at *
    rw [ins]
    split
    · simp only [List.map_cons, List.sum_cons]; omega
    · split
      · simp only [List.map_cons, List.sum_cons, prAdd]; omega
      · simp only [List.map_cons, List.sum_cons, ih]; omega
theorem sumN_tot {l : List Pr} (h : ∀ p ∈ l, 0 ≤ p.N) (a : Int) : sumN l a ≤ totN l := by
  unfold sumN totN afterL
  induction l with
  | nil => simp
  | cons q r ih =>
    have ih := ih fun p hp => h p (List.mem_cons_of_mem _ hp)
    have hq := h q (List.mem_cons_self ..)
    by_cases hqa : q.A = a
    · simp only [List.filter_cons, hqa, decide_true, if_true, List.map_cons, List.sum_cons]; omega
    · simp only [List.filter_cons, decide_eq_false hqa, Bool.false_eq_true, if_false, List.map_cons, List.sum_cons]; omega
def prGood (n : Nat) (l : List Pr) : Prop := ∀ p ∈ l, 0 ≤ p.A ∧ p.A < n ∧ 0 ≤ p.B ∧ p.B < n ∧ 1 ≤ p.N
theorem insP_good {n : Nat} {p : Pr} {L : List Pr} (hs : PrSort L) (h : prGood n L) (hp : 0 ≤ p.A ∧ p.A < n ∧ 0 ≤ p.B ∧ p.B < n ∧ 1 ≤ p.N) : prGood n (insP p L) := fun y hy => by
  rw [insP_eq hs] at hy
  rcases ins_mem hy with rfl | hy | ⟨z, hz, _, rfl⟩
  · exact hp
  · exact h y hy
  · have := h z hz; unfold prAdd; simp only; omega
theorem insP_len {p : Pr} {L : List Pr} (hs : PrSort L) : (insP p L).length ≤ L.length + 1 := by rw [insP_eq hs]; exact ins_len.2
theorem insP_tot {p : Pr} {L : List Pr} (hs : PrSort L) : totN (insP p L) = totN L + p.N := by rw [insP_eq hs]; exact ins_tot
def pairsTo (n : Nat) (us : List B3) (i : Nat) : List Pr := (us.take i).foldl (fun l u => insP (pairOf n u) l) []
theorem pairsTo_succ {n : Nat} {us : List B3} {i : Nat} (h : i < us.length) : pairsTo n us (i + 1) = insP (pairOf n us[i]) (pairsTo n us i) := by
  unfold pairsTo; rw [List.take_succ_eq_append_getElem h, List.foldl_append]; rfl
theorem pairOf_good {n : Nat} (hn : 1 ≤ n) (u : B3) : (0 ≤ (pairOf n u).A ∧ (pairOf n u).A < n ∧ 0 ≤ (pairOf n u).B ∧ (pairOf n u).B < n ∧ 1 ≤ (pairOf n u).N) ∧ (pairOf n u).N ≤ 16 := by
  have h1 := Nat.mod_lt u.a.toNat (show 0 < n by omega)
  have h2 := Nat.mod_lt u.b.toNat (show 0 < n by omega)
  have h3 := Nat.mod_lt u.c.toNat (show 0 < 16 by omega)
  unfold pairOf; simp only; omega
theorem pairsTo_ok {n : Nat} (hn : 1 ≤ n) (us : List B3) : ∀ i, i ≤ us.length → PrSort (pairsTo n us i) ∧ prGood n (pairsTo n us i) ∧ totN (pairsTo n us i) ≤ i * 16 ∧ (pairsTo n us i).length ≤ i
  | 0, _ => by rw [show pairsTo n us 0 = [] from rfl]; exact ⟨List.Pairwise.nil, (fun p hp => by cases hp), by simp [totN], by simp⟩
  | i + 1, h => by
    obtain ⟨h1, h2, h3, h4⟩ := pairsTo_ok hn us i (by omega)
    obtain ⟨g1, g2⟩ := pairOf_good hn us[i]
    rw [pairsTo_succ (by omega)]
    refine ⟨insP_sorted h1, insP_good h1 h2 g1, by rw [insP_tot h1]; omega, Nat.le_trans (insP_len h1) (by omega)⟩
theorem pairsM_to (n : Nat) (us : List B3) : pairsM n us = pairsTo n us (min us.length 8) := by
  unfold pairsM pairsTo
  by_cases h : us.length ≤ 8
  · rw [Nat.min_eq_left h, List.take_length, List.take_of_length_le h]
  · rw [Nat.min_eq_right (by omega)]
theorem tot_mem {l : List Pr} (h : ∀ p ∈ l, 0 ≤ p.N) {p : Pr} (hp : p ∈ l) : p.N ≤ totN l := (le_sum (fun x hx => by obtain ⟨q, hq, rfl⟩ := List.mem_map.1 hx; exact h q hq) (List.mem_map.2 ⟨p, hp, rfl⟩)).1
theorem sum_le {l : List Int} {b : Int} (h : ∀ x ∈ l, x ≤ b) : l.sum ≤ l.length * b := by
  induction l with
  | nil => simp
  | cons x r ih =>
    have h1 := h x (List.mem_cons_self ..)
    have h2 := ih fun y hy => h y (List.mem_cons_of_mem _ hy)
    simp only [List.sum_cons, List.length_cons]
    have : ((r.length + 1 : Nat) : Int) * b = r.length * b + b := by rw [Int.natCast_add, Int.add_mul]; simp
    omega
theorem countAt_in (cs : List UInt8) (i : Nat) : 0 ≤ countAt cs i ∧ countAt cs i ≤ 255 := by
  unfold countAt
  have := (cs[i]?.getD 0).toNat_lt
  omega
theorem madeM_words (x : Raw) : (madeM x).Words.Pairwise (fun a b => sLt a b = true) ∧ (∀ s ∈ (madeM x).Words, wordOk s = true ∧ s.size ≤ 3) ∧ 2 ≤ (madeM x).Words.length ∧ (madeM x).Words.length ≤ 8 := by
  have h := wordsTo_ok x.Words (min x.Words.length 6) (by omega)
  rw [← wordsM_to] at h
  exact ⟨h.1, h.2.1, h.2.2.1, by have := h.2.2.2; show (wordsM x.Words).length ≤ 8; omega⟩
theorem madeM_ok (x : Raw) : MdlOk (madeM x) := by
  obtain ⟨w1, w2, w3, w4⟩ := madeM_words x
  have hp := pairsTo_ok (n := (wordsM x.Words).length) (show 1 ≤ (madeM x).Words.length by omega) x.Uses (min x.Uses.length 8) (by omega)
  rw [← pairsM_to] at hp
  obtain ⟨p1, p2, p3, p4⟩ := hp
  have p2' : ∀ p ∈ (madeM x).Pairs, 0 ≤ p.N := fun p hp => by have := p2 p hp; omega
  have hc : ∀ y ∈ (madeM x).Counts, 0 ≤ y ∧ y ≤ 255 := fun y hy => by
    obtain ⟨i, _, rfl⟩ := List.mem_map.1 hy
    exact countAt_in _ _
  have hcl : (madeM x).Counts.length = (madeM x).Words.length := by show (countsM _ _).length = _; unfold countsM; rw [List.length_map, List.length_range]; rfl
  have hb := x.Back.toNat_lt
  refine ⟨by omega, by omega, hcl, rises_of (fun s hs => (w2 s hs).1) w1 (fun q hq => by cases hq), fun y hy => (hc y hy).1, ?_, by show (pairsM _ _).length ≤ 1000; omega, p1, p2, fun a => ?_, by show (0 : Int) ≤ (x.Back.toNat : Nat); omega, by show ((x.Back.toNat : Nat) : Int) ≤ 1000; omega⟩
  · have := sum_le (fun y hy => (hc y hy).2)
    omega
  · have h1 := sumN_tot p2' a
    have h2 : totN (madeM x).Pairs = totN (pairsM (wordsM x.Words).length x.Uses) := rfl
    omega

/-! ### The walk -/
theorem remN (a b : Nat) : ((a : Int)).tmod (b : Int) = ((a % b : Nat) : Int) := (Int.ofNat_tmod a b).symm
theorem countsTo_succ (cs : List UInt8) (i : Nat) : (List.range (i + 1)).map (countAt cs) = (List.range i).map (countAt cs) ++ [countAt cs i] := by rw [List.range_succ, List.map_append]; rfl
def IsMdl (m : Mdl) (μ : Mem) (v : Value) : Prop := ∃ a0 c0 a1 c1 a2 c2, v = .agg #[.slice a0 m.Words.length c0, .slice a1 m.Counts.length c1, .slice a2 m.Pairs.length c2, .int .i64 m.Back] ∧ Sl μ a0 c0 m.Words ∧ Sl μ a1 c1 m.Counts ∧ Sl μ a2 c2 m.Pairs
set_option maxRecDepth 100000 in
set_option maxHeartbeats 2000000 in
theorem madeM_c (x : Raw) (r0 r1 r2 : Option Addr) (d0 d1 d2 : Nat) (μ : Mem) (w : World) (hμ : Imm μ w) (h0 : Sl μ r0 d0 x.Words) (h1 : Sl μ r1 d1 x.Counts) (h2 : Sl μ r2 d2 x.Uses) :
    Calls Try.prog 10 #[.agg #[.slice r0 x.Words.length d0, .slice r1 x.Counts.length d1, .slice r2 x.Uses.length d2, .int .u8 x.Back.toNat]] w (RetV w μ (IsMdl (madeM x))) := by
  have hbk := x.Back.toNat_lt
  have hS := St.start w μ hμ
  refine calls_start 97 [.agg #[.slice r0 x.Words.length d0, .slice r1 x.Counts.length d1, .slice r2 x.Uses.length d2, .int .u8 x.Back.toNat]] Try.func10 rfl Try.ntmps10 rfl rfl ?_
  refine CW.seq fun K1 hK1 => ?_
  refine CW.region [0, 1] rfl ?_
  refine LW.hv rfl rfl rfl rfl (Hv.boxS hS rfl rfl) fun v w1 ⟨b1, hv, hb1, hS⟩ => ?_
  subst hv
  refine LW.hv rfl rfl rfl rfl (Hv.alloc ti34 hS) fun v w2 ⟨b2, hv, hb2, hS⟩ => ?_
  subst hv
  refine LW.nil fun aa ha => hK1 _ _ _ ?_ aa ha
  refine CW.seq fun K2 hK2 => ?_
  refine CW.region [0, 1, 2, 3, 4, 5, 6] rfl ?_
  refine LW.hv rfl rfl rfl rfl (Hv.buildSl hS Try.underlying30 ti9 rfl rfl rfl rfl rfl rfl) fun v w10 ⟨b10, hv, hb10, hS⟩ => ?_
  subst hv
  refine LW.ex rfl rfl rfl rfl (Ex.fieldO 3 Try.underlying27 rfl rfl ti5 rfl) hS.rd ?_
  refine LW.ex rfl rfl rfl rfl (Ex.load1 ti5 rfl rfl (by first | exact obT rfl | exact Rd.imm ‹_› | exact slT ‹_›)) hS.rd ?_
  refine LW.ex rfl rfl rfl rfl (Ex.conv Try.underlying5 Try.underlying3 rfl (by first | exact w64 (by omega) (by omega) | exact wu8 (by omega) (by omega))) hS.rd ?_
  refine LW.ex rfl rfl rfl rfl (Ex.buildS st34 rfl rfl rfl) hS.rd ?_
  refine LW.hv rfl rfl rfl rfl (Hv.alloc ti34 hS) fun v w3 ⟨b3, hv, hb3, hS⟩ => ?_
  subst hv
  refine LW.hu rfl rfl rfl (Hv.storeN (k := 0) ti34 hS rfl rfl rfl rfl (by simp [Value.oneCell'])) fun _ w_6 hS => ?_
  dsimp only [List.set] at hS
  refine LW.nil fun aa ha => hK2 _ _ _ ?_ aa ha
  refine CW.seq fun K3 hK3 => ?_
  have hJ2 : ∀ (wj : World) (aW : Option Addr) (cW : Nat) (ws : List ByteArray) (μ3 : Mem), St w wj μ3 [Own.obj b3 [.slice aW ws.length cW, .slice none 0 0, .slice none 0 0, .int .i64 x.Back.toNat] 34, Own.obj b2 [.slice none 0 0, .slice none 0 0, .slice none 0 0, .int .i64 0] 34, Own.obj b1 [.slice r0 x.Words.length d0, .slice r1 x.Counts.length d1, .slice r2 x.Uses.length d2, .int .u8 x.Back.toNat] 27] → (ws = wordsM x.Words) → (Sl μ3 aW cW ws) → (Mem.ext w.heap.size μ μ3) → KW K3 97 [(1, .pointer (some ⟨b1, 0, none⟩)), (2, .pointer (some ⟨b2, 0, none⟩)), (3, .pointer (some ⟨b3, 0, none⟩))] wj := by
    intro wj aW cW ws μ3 hS hwt hsW hm3
    refine hK3 _ _ _ ?_
    have hW := madeM_words x
    have hWl : (madeM x).Words = wordsM x.Words := rfl
    rw [hWl, ← hwt] at hW
    obtain ⟨hW1, hW2, hW3, hW4⟩ := hW
    refine CW.seq fun K4 hK4 => ?_
    refine CW.region [0, 1, 2, 3] rfl ?_
    refine LW.ex rfl rfl rfl rfl (Ex.fieldO 0 Try.underlying34 rfl rfl ti30 rfl) hS.rd ?_
    refine LW.ex rfl rfl rfl rfl (Ex.load1 ti30 rfl rfl (by first | exact obT rfl | exact Rd.imm ‹_› | exact slT ‹_›)) hS.rd ?_
    refine LW.ex rfl rfl rfl rfl (Ex.lenSl rfl Try.underlying30 rfl) hS.rd ?_
    refine LW.ex rfl rfl rfl rfl (Ex.assign rfl) hS.rd ?_
    refine LW.nil fun aa ha => hK4 _ _ _ ?_ aa ha
    refine CW.seq fun K5 hK5 => ?_
    refine CW.seq fun K6 hK6 => ?_
    refine CW.region [0] rfl ?_
    refine LW.ex rfl rfl rfl rfl (Ex.assign rfl) hS.rd ?_
    refine LW.nil fun aa ha => hK6 _ _ _ ?_ aa ha
    refine CW.block ?_
    have hS := nil_sl 3 1 hS
    refine CW.loop (fun qq frm wl8 => ∃ (i : Nat) (aC : Option Addr) (cC : Nat), i ≤ ws.length ∧ qq = ws.length - i ∧ frm = [(1, .pointer (some ⟨b1, 0, none⟩)), (2, .pointer (some ⟨b2, 0, none⟩)), (3, .pointer (some ⟨b3, 0, none⟩)), (5, .int .i64 ws.length), (6, .int .i64 i)] ∧ St w wl8 μ3 [Own.sl aC i cC 3 1 (((List.range i).map (countAt x.Counts)).map fun z => Value.int .i64 z), Own.obj b3 [.slice aW ws.length cW, .slice aC i cC, .slice none 0 0, .int .i64 x.Back.toNat] 34, Own.obj b2 [.slice none 0 0, .slice none 0 0, .slice none 0 0, .int .i64 0] 34, Own.obj b1 [.slice r0 x.Words.length d0, .slice r1 x.Counts.length d1, .slice r2 x.Uses.length d2, .int .u8 x.Back.toNat] 27]) _ ⟨0, none, 0, (by first | omega | (simp; done) | (simp; omega)), rfl, rfl, hS⟩ ⟨rfl, rfl, rfl, rfl, rfl, trivial⟩ ?_
    clear hS
    rintro qq frm wl8 ⟨i, aC, cC, hi, hq, rfl, hS⟩
    refine CW.seq fun K7 hK7 => ?_
    refine CW.seq fun K8 hK8 => ?_
    refine CW.region [0, 1, 2] rfl ?_
    refine LW.ex rfl rfl rfl rfl (Ex.move rfl) hS.rd ?_
    refine LW.ex rfl rfl rfl rfl (Ex.move rfl) hS.rd ?_
    refine LW.ex rfl rfl rfl rfl (Ex.lss rfl rfl rfl) hS.rd ?_
    refine LW.splitB (fun h8_2 => ?_) (fun h8_2 => ?_)
    · have h8_2 := of_decide_eq_true h8_2
      refine LW.nil fun aa ha => hK8 _ _ _ ?_ aa ha
      refine CW.yes rfl ?_
      refine CW.skip fun aa ha => hK7 _ _ _ ?_ aa ha
      refine CW.seq fun K9 hK9 => ?_
      refine CW.block ?_
      refine CW.seq fun K10 hK10 => ?_
      refine CW.region [0] rfl ?_
      refine LW.ex rfl rfl rfl rfl (Ex.assign rfl) hS.rd ?_
      refine LW.nil fun aa ha => hK10 _ _ _ ?_ aa ha
      refine CW.seq fun K11 hK11 => ?_
      have hJ11 : ∀ (wj : World) , St w wj μ3 [Own.sl aC i cC 3 1 (((List.range i).map (countAt x.Counts)).map fun z => Value.int .i64 z), Own.obj b3 [.slice aW ws.length cW, .slice aC i cC, .slice none 0 0, .int .i64 x.Back.toNat] 34, Own.obj b2 [.slice none 0 0, .slice none 0 0, .slice none 0 0, .int .i64 0] 34, Own.obj b1 [.slice r0 x.Words.length d0, .slice r1 x.Counts.length d1, .slice r2 x.Uses.length d2, .int .u8 x.Back.toNat] 27] → KW K11 97 [(1, .pointer (some ⟨b1, 0, none⟩)), (2, .pointer (some ⟨b2, 0, none⟩)), (3, .pointer (some ⟨b3, 0, none⟩)), (5, .int .i64 ws.length), (6, .int .i64 i), (7, .int .i64 (countAt x.Counts i))] wj := by
        intro wj  hS 
        refine hK11 _ _ _ ?_
        refine CW.region [0, 1, 2, 3, 4, 5, 6] rfl ?_
        refine LW.ex rfl rfl rfl rfl (Ex.fieldO 1 Try.underlying34 rfl rfl ti31 rfl) hS.rd ?_
        refine LW.ex rfl rfl rfl rfl (Ex.load1 ti31 rfl rfl (by first | exact obT rfl | exact Rd.imm ‹_› | exact slT ‹_›)) hS.rd ?_
        refine LW.ex rfl rfl rfl rfl (Ex.move rfl) hS.rd ?_
        refine LW.hv rfl rfl rfl rfl (Hv.buildSl hS Try.underlying31 ti3 rfl rfl rfl rfl rfl rfl) fun v w58 ⟨b58, hv, hb58, hS⟩ => ?_
        subst hv
        refine LW.hv rfl rfl rfl rfl (Hv.append (k := 1) rfl Try.underlying31 ti3 rfl hS rfl rfl rfl rfl (Rd.objAll (k := 0) rfl hS.rd) (by simp [Value.oneCell']) (by unfold maxLen; omega) (by omega)) fun v w59 ⟨ad59, c59, hv, hS⟩ => ?_
        subst hv
        dsimp only [List.set] at hS
        have hS := hS.drop 0 rfl
        dsimp only [List.eraseIdx] at hS
        rw [show (((List.range i).map (countAt x.Counts)).map fun z => Value.int .i64 z) ++ [Value.int .i64 (countAt x.Counts i)] = (((List.range (i + 1)).map (countAt x.Counts)).map fun z => Value.int .i64 z) by rw [countsTo_succ, List.map_append]; rfl] at hS
        refine LW.ex rfl rfl rfl rfl (Ex.fieldO 1 Try.underlying34 rfl rfl ti31 rfl) hS.rd ?_
        refine LW.hu rfl rfl rfl (Hv.storeObj (k := 1) ti31 hS rfl rfl rfl rfl (by first | assumption | (simp; done) | omega | exact Nat.zero_lt_succ _)) fun _ w_6 hS => ?_
        dsimp only [List.set] at hS
        refine LW.nil fun aa ha => hK9 _ _ _ ?_ aa ha
        refine CW.region [0, 1, 2] rfl ?_
        refine LW.ex rfl rfl rfl rfl (Ex.move rfl) hS.rd ?_
        refine LW.ex rfl rfl rfl rfl (Ex.add rfl rfl (by first | exact inc64 (by omega) | exact addN (by omega) | exact w64 (by omega) (by omega))) hS.rd ?_
        refine LW.ex rfl rfl rfl rfl (Ex.assign rfl) hS.rd ?_
        refine LW.nil fun aa ha => ?_
        refine ⟨_, _, ?m8, ⟨i + 1, ad59, c59, (by first | omega | (simp; done) | (simp; omega)), rfl, rfl, hS⟩, ha.sub ⟨rfl, rfl, rfl, rfl, rfl, trivial⟩⟩
        case m8 => omega
      refine CW.seq fun K12 hK12 => ?_
      refine CW.region [0, 1, 2, 3, 4] rfl ?_
      refine LW.ex rfl rfl rfl rfl (Ex.move rfl) hS.rd ?_
      refine LW.ex rfl rfl rfl rfl (Ex.fieldO 1 Try.underlying27 rfl rfl ti24 rfl) hS.rd ?_
      refine LW.ex rfl rfl rfl rfl (Ex.load1 ti24 rfl rfl (by first | exact obT rfl | exact Rd.imm ‹_› | exact slT ‹_›)) hS.rd ?_
      refine LW.ex rfl rfl rfl rfl (Ex.lenSl rfl Try.underlying24 rfl) hS.rd ?_
      refine LW.ex rfl rfl rfl rfl (Ex.lss rfl rfl rfl) hS.rd ?_
      refine LW.splitB (fun h11_4 => ?_) (fun h11_4 => ?_)
      · have h11_4 := of_decide_eq_true h11_4
        refine LW.nil fun aa ha => hK12 _ _ _ ?_ aa ha
        refine CW.yes rfl ?_
        have hi2 : i < x.Counts.length := by omega
        obtain ⟨bl', ol, rfl, k0⟩ := (h1.mono hm3).at hi2
        have hcu := x.Counts[i].toNat_lt
        refine CW.region [0, 1, 2, 3, 4, 5, 6] rfl ?_
        refine LW.ex rfl rfl rfl rfl (Ex.fieldO 1 Try.underlying27 rfl rfl ti24 rfl) hS.rd ?_
        refine LW.ex rfl rfl rfl rfl (Ex.load1 ti24 rfl rfl (by first | exact obT rfl | exact Rd.imm ‹_› | exact slT ‹_›)) hS.rd ?_
        refine LW.ex rfl rfl rfl rfl (Ex.move rfl) hS.rd ?_
        refine LW.ex rfl rfl rfl rfl (Ex.indexSl Try.underlying24 ti5 rfl rfl rfl (by omega)) hS.rd ?_
        refine LW.ex rfl rfl rfl rfl (Ex.load1 ti5 rfl rfl (by first | exact obT rfl | exact Rd.imm ‹_› | exact slT ‹_›)) hS.rd ?_
        refine LW.ex rfl rfl rfl rfl (Ex.conv Try.underlying5 Try.underlying3 rfl (by first | exact w64 (by omega) (by omega) | exact wu8 (by omega) (by omega))) hS.rd ?_
        refine LW.ex rfl rfl rfl rfl (Ex.assign rfl) hS.rd ?_
        refine LW.nil fun aa ha => ?_
        rw [show ((x.Counts[i].toNat : Nat) : Int) = countAt x.Counts i by unfold countAt; rw [List.getElem?_eq_getElem hi2]; rfl] at ha
        refine hJ11 _  hS  aa (ha.sub ⟨rfl, rfl, rfl, rfl, rfl, rfl, trivial⟩)
      · have h11_4 := of_decide_eq_false h11_4
        refine LW.nil fun aa ha => hK12 _ _ _ ?_ aa ha
        refine CW.no rfl ?_
        refine CW.skip fun aa ha => ?_
        rw [show (0 : Int) = countAt x.Counts i by unfold countAt; rw [List.getElem?_eq_none (by omega)]; rfl] at ha
        refine hJ11 _  hS  aa (ha.sub ⟨rfl, rfl, rfl, rfl, rfl, rfl, trivial⟩)
    · have h8_2 := of_decide_eq_false h8_2
      refine LW.nil fun aa ha => hK8 _ _ _ ?_ aa ha
      refine CW.no rfl ?_
      refine CW.exit fun aa ha => hK5 _ _ _ ?_ aa ha
      refine CW.seq fun K13 hK13 => ?_
      have hJ14 : ∀ (wj : World) (aP : Option Addr) (cP : Nat) (ps : List Pr) (μ5 : Mem), St w wj μ5 [Own.obj b3 [.slice aW ws.length cW, .slice aC ws.length cC, .slice aP ps.length cP, .int .i64 x.Back.toNat] 34, Own.obj b2 [.slice none 0 0, .slice none 0 0, .slice none 0 0, .int .i64 0] 34, Own.obj b1 [.slice r0 x.Words.length d0, .slice r1 x.Counts.length d1, .slice r2 x.Uses.length d2, .int .u8 x.Back.toNat] 27] → (ps = pairsM ws.length x.Uses) → (Sl μ5 aP cP ps) → (Mem.ext w.heap.size μ μ5) → (Sl μ5 aW cW ws) → (Sl μ5 aC cC ((List.range ws.length).map (countAt x.Counts))) → KW K13 97 [(2, .pointer (some ⟨b2, 0, none⟩)), (3, .pointer (some ⟨b3, 0, none⟩))] wj := by
        intro wj aP cP ps μ5 hS hpt hsP hm5 hsW5 hsC5
        refine hK13 _ _ _ ?_
        refine CW.seq fun K14 hK14 => ?_
        refine CW.region [0, 1] rfl ?_
        refine LW.ex rfl rfl rfl rfl (Ex.load4c ti34 rfl rfl (by first | exact obT rfl | exact Rd.imm ‹_› | exact slT ‹_›) (by first | exact obT rfl | exact Rd.imm ‹_› | exact slT ‹_›) (by first | exact obT rfl | exact Rd.imm ‹_› | exact slT ‹_›) (by first | exact obT rfl | exact Rd.imm ‹_› | exact slT ‹_›)) hS.rd ?_
        refine LW.hu rfl rfl rfl (Hv.storeN (k := 1) ti34 hS rfl rfl rfl rfl (by simp [Value.oneCell'])) fun _ w_1 hS => ?_
        dsimp only [List.set] at hS
        refine LW.nil fun aa ha => hK14 _ _ _ ?_ aa ha
        refine CW.ret fun aa ha => ?_
        refine ret_cell ha Try.results10 rfl ti34 rfl (fun j v hv => Rd.objAll (k := 1) rfl hS.rd j v hv) ?_
        have e1 : (madeM x).Words = ws := by rw [hwt]; rfl
        have e2 : (madeM x).Counts = (List.range ws.length).map (countAt x.Counts) := by rw [hwt]; rfl
        have e3 : (madeM x).Pairs = ps := by rw [hpt, hwt]; rfl
        refine ⟨_, μ5, rfl, hS.below, hm5, hS.imm, aW, cW, aC, cC, aP, cP, ?_, ?_, ?_, ?_⟩
        · rw [e1, e2, e3, List.length_map, List.length_range]; rfl
        · rw [e1]; exact hsW5
        · rw [e2]; exact hsC5
        · rw [e3]; exact hsP
      refine CW.seq fun K15 hK15 => ?_
      refine CW.region [0] rfl ?_
      refine LW.ex rfl rfl rfl rfl (Ex.assign rfl) hS.rd ?_
      refine LW.nil fun aa ha => hK15 _ _ _ ?_ aa ha
      refine CW.block ?_
      have hie : i = ws.length := by omega
      obtain ⟨bs, μ4, hm4, hS, hφ⟩ := hS.shut 0 rfl
      dsimp only [List.eraseIdx] at hS
      have hsC : Sl μ4 aC cC ((List.range i).map (countAt x.Counts)) := Sl.of_own hφ (RepL.ints _ _) (by rw [List.length_map, List.length_range])
      rw [hie] at hsC hS
      refine CW.loop (fun qq frm wl15 => ∃ (i : Nat) (aP : Option Addr) (cP : Nat) (ps : List Pr) (μ5 : Mem), i ≤ x.Uses.length ∧ i ≤ 8 ∧ qq = 8 - i ∧ frm = [(1, .pointer (some ⟨b1, 0, none⟩)), (2, .pointer (some ⟨b2, 0, none⟩)), (3, .pointer (some ⟨b3, 0, none⟩)), (5, .int .i64 ws.length), (8, .int .i64 i)] ∧ St w wl15 μ5 [Own.obj b3 [.slice aW ws.length cW, .slice aC ws.length cC, .slice aP ps.length cP, .int .i64 x.Back.toNat] 34, Own.obj b2 [.slice none 0 0, .slice none 0 0, .slice none 0 0, .int .i64 0] 34, Own.obj b1 [.slice r0 x.Words.length d0, .slice r1 x.Counts.length d1, .slice r2 x.Uses.length d2, .int .u8 x.Back.toNat] 27] ∧ (ps = pairsTo ws.length x.Uses i) ∧ (Sl μ5 aP cP ps) ∧ (Mem.ext w.heap.size μ μ5) ∧ (Sl μ5 aW cW ws) ∧ (Sl μ5 aC cC ((List.range ws.length).map (countAt x.Counts)))) _ ⟨0, none, 0, [], μ4, (by first | omega | (simp; done) | (simp; omega)), (by first | omega | (simp; done) | (simp; omega)), rfl, rfl, hS, rfl, Sl.nil _ _ _ (by simp [maxLen]), hm3.trans hm4, hsW.mono hm4, hsC⟩ ⟨rfl, rfl, rfl, rfl, rfl, trivial⟩ ?_
      clear hS
      rintro qq frm wl15 ⟨i, aP, cP, ps, μ5, hi, hi8, hq, rfl, hS, hpt, hsP, hm5, hsW5, hsC5⟩
      refine CW.seq fun K16 hK16 => ?_
      refine CW.seq fun K17 hK17 => ?_
      refine CW.region [0, 1, 2, 3, 4, 5, 6, 7, 8] rfl ?_
      refine LW.ex rfl rfl rfl rfl (Ex.move rfl) hS.rd ?_
      refine LW.ex rfl rfl rfl rfl (Ex.fieldO 2 Try.underlying27 rfl rfl ti25 rfl) hS.rd ?_
      refine LW.ex rfl rfl rfl rfl (Ex.load1 ti25 rfl rfl (by first | exact obT rfl | exact Rd.imm ‹_› | exact slT ‹_›)) hS.rd ?_
      refine LW.ex rfl rfl rfl rfl (Ex.lenSl rfl Try.underlying25 rfl) hS.rd ?_
      refine LW.ex rfl rfl rfl rfl (Ex.lss rfl rfl rfl) hS.rd ?_
      refine LW.splitB (fun h15_4 => ?_) (fun h15_4 => ?_)
      · have h15_4 := of_decide_eq_true h15_4
        refine LW.ex rfl rfl rfl rfl (Ex.move rfl) hS.rd ?_
        refine LW.ex rfl rfl rfl rfl (Ex.move rfl) hS.rd ?_
        refine LW.ex rfl rfl rfl rfl (Ex.lss rfl rfl rfl) hS.rd ?_
        refine LW.splitB (fun h15_7 => ?_) (fun h15_7 => ?_)
        · have h15_7 := of_decide_eq_true h15_7
          refine LW.ex rfl rfl rfl rfl (by first | exact Ex.pick_yes rfl rfl | exact Ex.pick_no rfl rfl) hS.rd ?_
          refine LW.nil fun aa ha => hK17 _ _ _ ?_ aa ha
          refine CW.yes rfl ?_
          refine CW.skip fun aa ha => hK16 _ _ _ ?_ aa ha
          refine CW.seq fun K18 hK18 => ?_
          refine CW.block ?_
          refine CW.seq fun K19 hK19 => ?_
          have hi2 : i < x.Uses.length := by omega
          have hpo := pairsTo_ok (n := ws.length) (by omega) x.Uses i hi
          rw [← hpt] at hpo
          obtain ⟨p1, p2, p3, p4⟩ := hpo
          have p2' : ∀ q ∈ ps, 0 ≤ q.N := fun q hq => by have := p2 q hq; omega
          obtain ⟨bl', ol, rfl, k0, k1, k2⟩ := (h2.mono hm5).at hi2
          have g1 := pairOf_good (n := ws.length) (by omega) x.Uses[i]
          have hu1 := x.Uses[i].a.toNat_lt
          have hu2 := x.Uses[i].b.toNat_lt
          have hu3 := x.Uses[i].c.toNat_lt
          refine CW.region [0, 1, 2, 3, 4, 5, 6] rfl ?_
          refine LW.ex rfl rfl rfl rfl (Ex.fieldO 2 Try.underlying27 rfl rfl ti25 rfl) hS.rd ?_
          refine LW.ex rfl rfl rfl rfl (Ex.load1 ti25 rfl rfl (by first | exact obT rfl | exact Rd.imm ‹_› | exact slT ‹_›)) hS.rd ?_
          refine LW.ex rfl rfl rfl rfl (Ex.move rfl) hS.rd ?_
          refine LW.ex rfl rfl rfl rfl (Ex.indexSl Try.underlying25 ti84 rfl rfl rfl (by omega)) hS.rd ?_
          refine LW.ex rfl rfl rfl rfl (Ex.load3c ti84 rfl rfl (by first | exact obT rfl | exact Rd.imm ‹_› | exact slT ‹_›) (by first | exact obT rfl | exact Rd.imm ‹_› | exact slT ‹_›) (by first | exact obT rfl | exact Rd.imm ‹_› | exact slT ‹_›)) hS.rd ?_
          refine LW.hv rfl rfl rfl rfl (Hv.alloc ti84 hS) fun v w9 ⟨b9, hv, hb9, hS⟩ => ?_
          subst hv
          refine LW.hu rfl rfl rfl (Hv.storeN (k := 0) ti84 hS rfl rfl rfl rfl (by simp [Value.oneCell'])) fun _ w_6 hS => ?_
          dsimp only [List.set] at hS
          refine LW.nil fun aa ha => hK19 _ _ _ ?_ aa ha
          have hsz := hS.below.size
          have hS := hS.drew
          refine CW.draw 19 (.ex 0 <| .ex 1 <| .ex 2 <| .ex 3 <| .ex 4 <| .ex 5 <| .ex 6 <| .ex 7 <| .ex 8 <| .ex 9 <| .ex 10 <| .ex 11 <| .ex 12 <| .ex 13 <| .ex 14 <| .ex 15 <| .ex 16 <| .one 17 <| .ex 18 <| .done) [19] (Rd _ _) mixed (by kernel_rfl) rfl rfl hS.rd ?_
          refine PW.ex rfl rfl rfl rfl (Ex.load4c ti34 rfl rfl (by first | exact obT rfl | exact Rd.imm ‹_› | exact slT ‹_›) (by first | exact obT rfl | exact Rd.imm ‹_› | exact slT ‹_›) (by first | exact obT rfl | exact Rd.imm ‹_› | exact slT ‹_›) (by first | exact obT rfl | exact Rd.imm ‹_› | exact slT ‹_›)) ?_
          refine PW.ex rfl rfl rfl rfl (Ex.indexArr (j := 0) Try.underlying84 ti5 rfl rfl rfl (by omega)) ?_
          refine PW.ex rfl rfl rfl rfl (Ex.load1 ti5 rfl rfl (by first | exact obT rfl | exact Rd.imm ‹_› | exact slT ‹_›)) ?_
          refine PW.ex rfl rfl rfl rfl (Ex.conv Try.underlying5 Try.underlying3 rfl (by first | exact w64 (by omega) (by omega) | exact wu8 (by omega) (by omega))) ?_
          refine PW.ex rfl rfl rfl rfl (Ex.move rfl) ?_
          refine PW.ex rfl rfl rfl rfl (Ex.rem (r := ((x.Uses[i].a.toNat % ws.length : Nat) : Int)) rfl rfl (by omega) (remN _ _)) ?_
          refine PW.ex rfl rfl rfl rfl (Ex.indexArr (j := 1) Try.underlying84 ti5 rfl rfl rfl (by omega)) ?_
          refine PW.ex rfl rfl rfl rfl (Ex.load1 ti5 rfl rfl (by first | exact obT rfl | exact Rd.imm ‹_› | exact slT ‹_›)) ?_
          refine PW.ex rfl rfl rfl rfl (Ex.conv Try.underlying5 Try.underlying3 rfl (by first | exact w64 (by omega) (by omega) | exact wu8 (by omega) (by omega))) ?_
          refine PW.ex rfl rfl rfl rfl (Ex.move rfl) ?_
          refine PW.ex rfl rfl rfl rfl (Ex.rem (r := ((x.Uses[i].b.toNat % ws.length : Nat) : Int)) rfl rfl (by omega) (remN _ _)) ?_
          refine PW.ex rfl rfl rfl rfl (Ex.indexArr (j := 2) Try.underlying84 ti5 rfl rfl rfl (by omega)) ?_
          refine PW.ex rfl rfl rfl rfl (Ex.load1 ti5 rfl rfl (by first | exact obT rfl | exact Rd.imm ‹_› | exact slT ‹_›)) ?_
          refine PW.ex rfl rfl rfl rfl (Ex.rem (r := ((x.Uses[i].c.toNat % 16 : Nat) : Int)) rfl rfl (by omega) (remN _ 16)) ?_
          refine PW.ex rfl rfl rfl rfl (Ex.conv Try.underlying5 Try.underlying3 rfl (by first | exact w64 (by omega) (by omega) | exact wu8 (by omega) (by omega))) ?_
          refine PW.ex rfl rfl rfl rfl (Ex.add (r := ((1 + x.Uses[i].c.toNat % 16 : Nat) : Int)) rfl rfl (by rw [w64 (by omega) (by omega)]; omega)) ?_
          refine PW.ex rfl rfl rfl rfl (Ex.buildS st87 rfl rfl rfl) ?_
          refine PW.hv rfl rfl rfl rfl (Hv.callV hS rfl rfl rfl cb30 (insP_c ps _ _ _ (pairOf ws.length x.Uses[i]) (by omega) (fun q hq => ⟨p2' q hq, by have := tot_mem p2' hq; omega⟩) (by omega) _ _ _ _ _ _ μ5 _ hS.imm hsP)) (fun _ _ ⟨_, _, hm, h⟩ => Rd.le hm h.rd) fun v w94 ⟨μ94, hv94, hm94, hS⟩ => ?_
          obtain ⟨ad94, c94, hv, hs94⟩ := hv94
          subst hv
          refine PW.ex rfl rfl rfl rfl (Ex.fieldO 2 Try.underlying34 rfl rfl ti32 rfl) ?_
          refine PW.nil ?_
          refine LW.hu rfl rfl rfl (Hv.storeObj (k := 1) ti32 hS rfl rfl rfl rfl (by first | assumption | (simp; done) | omega | exact Nat.zero_lt_succ _)) fun _ w_19 hS => ?_
          dsimp only [List.set] at hS
          refine LW.nil fun aa ha => hK18 _ _ _ ?_ aa ha
          refine CW.region [0, 1, 2] rfl ?_
          refine LW.ex rfl rfl rfl rfl (Ex.move rfl) hS.rd ?_
          refine LW.ex rfl rfl rfl rfl (Ex.add rfl rfl (by first | exact inc64 (by omega) | exact addN (by omega) | exact w64 (by omega) (by omega))) hS.rd ?_
          refine LW.ex rfl rfl rfl rfl (Ex.assign rfl) hS.rd ?_
          refine LW.nil fun aa ha => ?_
          have hS := hS.drop 0 rfl
          dsimp only [List.eraseIdx] at hS
          refine ⟨_, _, ?m15, ⟨i + 1, ad94, c94, insP (pairOf ws.length x.Uses[i]) ps, μ94, (by first | omega | (simp; done) | (simp; omega)), (by first | omega | (simp; done) | (simp; omega)), rfl, rfl, hS, by rw [pairsTo_succ hi2, ← hpt], hs94, hm5.trans (hm94.mono hsz), hsW5.mono hm94, hsC5.mono hm94⟩, ha.sub ⟨rfl, rfl, rfl, rfl, rfl, trivial⟩⟩
          case m15 => omega
        · have h15_7 := of_decide_eq_false h15_7
          refine LW.ex rfl rfl rfl rfl (by first | exact Ex.pick_yes rfl rfl | exact Ex.pick_no rfl rfl) hS.rd ?_
          refine LW.nil fun aa ha => hK17 _ _ _ ?_ aa ha
          refine CW.no rfl ?_
          refine CW.exit fun aa ha => ?_
          refine hJ14 _ (aP) (cP) (ps) (μ5) hS (by rw [hpt, pairsM_to, show min x.Uses.length 8 = i by omega]) (hsP) (hm5) (hsW5) (hsC5) aa (ha.sub ⟨rfl, rfl, trivial⟩)
      · have h15_4 := of_decide_eq_false h15_4
        refine LW.ex rfl rfl rfl rfl (Ex.move rfl) hS.rd ?_
        refine LW.skip rfl rfl rfl rfl ?_
        refine LW.skip rfl rfl rfl rfl ?_
        refine LW.ex rfl rfl rfl rfl (by first | exact Ex.pick_yes rfl rfl | exact Ex.pick_no rfl rfl) hS.rd ?_
        refine LW.nil fun aa ha => hK17 _ _ _ ?_ aa ha
        refine CW.no rfl ?_
        refine CW.exit fun aa ha => ?_
        refine hJ14 _ (aP) (cP) (ps) (μ5) hS (by rw [hpt, pairsM_to, show min x.Uses.length 8 = i by omega]) (hsP) (hm5) (hsW5) (hsC5) aa (ha.sub ⟨rfl, rfl, trivial⟩)
  refine CW.seq fun K20 hK20 => ?_
  refine CW.region [0] rfl ?_
  refine LW.ex rfl rfl rfl rfl (Ex.assign rfl) hS.rd ?_
  refine LW.nil fun aa ha => hK20 _ _ _ ?_ aa ha
  refine CW.block ?_
  obtain ⟨μ2, hm2, hS, hws⟩ := hS.shutRow (k := 1) (xs := [(⟨#[97]⟩ : ByteArray), ⟨#[98]⟩]) rfl (RepL.strs _ [(⟨#[97]⟩ : ByteArray), ⟨#[98]⟩]) (by simp [maxLen])
  dsimp only [List.eraseIdx] at hS
  refine CW.loop (fun qq frm wl3 => ∃ (i : Nat) (aW : Option Addr) (cW : Nat) (ws : List ByteArray) (μ3 : Mem), i ≤ x.Words.length ∧ i ≤ 6 ∧ qq = 6 - i ∧ frm = [(1, .pointer (some ⟨b1, 0, none⟩)), (2, .pointer (some ⟨b2, 0, none⟩)), (3, .pointer (some ⟨b3, 0, none⟩)), (4, .int .i64 i)] ∧ St w wl3 μ3 [Own.obj b3 [.slice aW ws.length cW, .slice none 0 0, .slice none 0 0, .int .i64 x.Back.toNat] 34, Own.obj b2 [.slice none 0 0, .slice none 0 0, .slice none 0 0, .int .i64 0] 34, Own.obj b1 [.slice r0 x.Words.length d0, .slice r1 x.Counts.length d1, .slice r2 x.Uses.length d2, .int .u8 x.Back.toNat] 27] ∧ (ws = wordsTo x.Words i) ∧ (Sl μ3 aW cW ws) ∧ (Mem.ext w.heap.size μ μ3)) _ ⟨0, some ⟨b10, 0, none⟩, 2, [⟨#[97]⟩, ⟨#[98]⟩], μ2, (by first | omega | (simp; done) | (simp; omega)), (by first | omega | (simp; done) | (simp; omega)), rfl, rfl, hS, rfl, hws, hm2⟩ ⟨rfl, rfl, rfl, rfl, trivial⟩ ?_
  clear hS
  rintro qq frm wl3 ⟨i, aW, cW, ws, μ3, hi, hi6, hq, rfl, hS, hwt, hsW, hm3⟩
  refine CW.seq fun K21 hK21 => ?_
  refine CW.seq fun K22 hK22 => ?_
  refine CW.region [0, 1, 2, 3, 4, 5, 6, 7, 8] rfl ?_
  refine LW.ex rfl rfl rfl rfl (Ex.move rfl) hS.rd ?_
  refine LW.ex rfl rfl rfl rfl (Ex.fieldO 0 Try.underlying27 rfl rfl ti23 rfl) hS.rd ?_
  refine LW.ex rfl rfl rfl rfl (Ex.load1 ti23 rfl rfl (by first | exact obT rfl | exact Rd.imm ‹_› | exact slT ‹_›)) hS.rd ?_
  refine LW.ex rfl rfl rfl rfl (Ex.lenSl rfl Try.underlying23 rfl) hS.rd ?_
  refine LW.ex rfl rfl rfl rfl (Ex.lss rfl rfl rfl) hS.rd ?_
  refine LW.splitB (fun h3_4 => ?_) (fun h3_4 => ?_)
  · have h3_4 := of_decide_eq_true h3_4
    refine LW.ex rfl rfl rfl rfl (Ex.move rfl) hS.rd ?_
    refine LW.ex rfl rfl rfl rfl (Ex.move rfl) hS.rd ?_
    refine LW.ex rfl rfl rfl rfl (Ex.lss rfl rfl rfl) hS.rd ?_
    refine LW.splitB (fun h3_7 => ?_) (fun h3_7 => ?_)
    · have h3_7 := of_decide_eq_true h3_7
      refine LW.ex rfl rfl rfl rfl (by first | exact Ex.pick_yes rfl rfl | exact Ex.pick_no rfl rfl) hS.rd ?_
      refine LW.nil fun aa ha => hK22 _ _ _ ?_ aa ha
      refine CW.yes rfl ?_
      refine CW.skip fun aa ha => hK21 _ _ _ ?_ aa ha
      refine CW.seq fun K23 hK23 => ?_
      refine CW.block ?_
      have hi2 : i < x.Words.length := by omega
      have hwo := wordsTo_ok x.Words i hi
      rw [← hwt] at hwo
      obtain ⟨bl', ol, rfl, adw, cw, k0, k1⟩ := (h0.mono hm3).at hi2
      have hS := hS.drew
      refine CW.draw 10 (.ex 0 <| .ex 1 <| .ex 2 <| .ex 3 <| .ex 4 <| .ex 5 <| .ex 6 <| .one 7 <| .one 8 <| .ex 9 <| .done) [10] (Rd _ _) mixed (by kernel_rfl) rfl rfl hS.rd ?_
      refine PW.ex rfl rfl rfl rfl (Ex.fieldO 0 Try.underlying34 rfl rfl ti30 rfl) ?_
      refine PW.ex rfl rfl rfl rfl (Ex.load1 ti30 rfl rfl (by first | exact obT rfl | exact Rd.imm ‹_› | exact slT ‹_›)) ?_
      refine PW.ex rfl rfl rfl rfl (Ex.fieldO 0 Try.underlying27 rfl rfl ti23 rfl) ?_
      refine PW.ex rfl rfl rfl rfl (Ex.load1 ti23 rfl rfl (by first | exact obT rfl | exact Rd.imm ‹_› | exact slT ‹_›)) ?_
      refine PW.ex rfl rfl rfl rfl (Ex.move rfl) ?_
      refine PW.ex rfl rfl rfl rfl (Ex.indexSl Try.underlying23 ti24 rfl rfl rfl (by omega)) ?_
      refine PW.ex rfl rfl rfl rfl (Ex.load1 ti24 rfl rfl (by first | exact obT rfl | exact Rd.imm ‹_› | exact slT ‹_›)) ?_
      refine PW.hv rfl rfl rfl rfl (Hv.callS hS rfl rfl rfl cb29 (mword_c x.Words[i] _ _ μ3 _ hS.imm k1)) (fun _ _ h => h.2.rd) fun v w33 ⟨hv, hS⟩ => ?_
      subst hv
      have hsz := hS.below.size
      refine PW.hv rfl rfl rfl rfl (Hv.callV hS rfl rfl rfl cb28 (insS_c ws (wordR x.Words[i]) (by omega) _ _ μ3 _ hS.imm hsW)) (fun _ _ ⟨_, _, hm, h⟩ => Rd.le hm h.rd) fun v w34 ⟨μ34, hv34, hm34, hS⟩ => ?_
      obtain ⟨ad34, c34, hv, hs34⟩ := hv34
      subst hv
      refine PW.ex rfl rfl rfl rfl (Ex.fieldO 0 Try.underlying34 rfl rfl ti30 rfl) ?_
      refine PW.nil ?_
      refine LW.hu rfl rfl rfl (Hv.storeObj (k := 0) ti30 hS rfl rfl rfl rfl (by first | assumption | (simp; done) | omega | exact Nat.zero_lt_succ _)) fun _ w_10 hS => ?_
      dsimp only [List.set] at hS
      refine LW.nil fun aa ha => hK23 _ _ _ ?_ aa ha
      refine CW.region [0, 1, 2] rfl ?_
      refine LW.ex rfl rfl rfl rfl (Ex.move rfl) hS.rd ?_
      refine LW.ex rfl rfl rfl rfl (Ex.add rfl rfl (by first | exact inc64 (by omega) | exact addN (by omega) | exact w64 (by omega) (by omega))) hS.rd ?_
      refine LW.ex rfl rfl rfl rfl (Ex.assign rfl) hS.rd ?_
      refine LW.nil fun aa ha => ?_
      refine ⟨_, _, ?m3, ⟨i + 1, ad34, c34, insS (wordR x.Words[i]) ws, μ34, (by first | omega | (simp; done) | (simp; omega)), (by first | omega | (simp; done) | (simp; omega)), rfl, rfl, hS, by rw [wordsTo_succ hi2, hwt], hs34, hm3.trans (hm34.mono hsz)⟩, ha.sub ⟨rfl, rfl, rfl, rfl, trivial⟩⟩
      case m3 => omega
    · have h3_7 := of_decide_eq_false h3_7
      refine LW.ex rfl rfl rfl rfl (by first | exact Ex.pick_yes rfl rfl | exact Ex.pick_no rfl rfl) hS.rd ?_
      refine LW.nil fun aa ha => hK22 _ _ _ ?_ aa ha
      refine CW.no rfl ?_
      refine CW.exit fun aa ha => ?_
      refine hJ2 _ (aW) (cW) (ws) (μ3) hS (by rw [hwt, wordsM_to, show min x.Words.length 6 = i by omega]) (hsW) (hm3) aa (ha.sub ⟨rfl, rfl, rfl, trivial⟩)
  · have h3_4 := of_decide_eq_false h3_4
    refine LW.ex rfl rfl rfl rfl (Ex.move rfl) hS.rd ?_
    refine LW.skip rfl rfl rfl rfl ?_
    refine LW.skip rfl rfl rfl rfl ?_
    refine LW.ex rfl rfl rfl rfl (by first | exact Ex.pick_yes rfl rfl | exact Ex.pick_no rfl rfl) hS.rd ?_
    refine LW.nil fun aa ha => hK22 _ _ _ ?_ aa ha
    refine CW.no rfl ?_
    refine CW.exit fun aa ha => ?_
    refine hJ2 _ (aW) (cW) (ws) (μ3) hS (by rw [hwt, wordsM_to, show min x.Words.length 6 = i by omega]) (hsW) (hm3) aa (ha.sub ⟨rfl, rfl, rfl, trivial⟩)
end Go.Proofs.Ytgnpjhellmfhoaa

