/-
  Context: what learning does to a model and to the costs.
-/
import Derived.Test.YtgnpjhellmfhoaaCxZ
namespace Go.Proofs.Ytgnpjhellmfhoaa
open Go.RowKit Sy

def learnR (m : Mdl) (b : Int) (a : Nat) (c : Int) : Mdl := ⟨m.Words, m.Counts.set a (m.Counts[a]?.getD 0 + c), if 0 ≤ b then insP ⟨b, a, c⟩ m.Pairs else m.Pairs, m.Back⟩
/-- A model with room for what is learnt. -/
structure Room (m : Mdl) : Prop where
  w : m.Words.length ≤ 8
  c : m.Counts.sum ≤ 2040
  p : totN m.Pairs ≤ 128
  l : m.Pairs.length ≤ 8
theorem madeM_room (x : Raw) : Room (madeM x) := by
  obtain ⟨w1, w2, w3, w4⟩ := madeM_words x
  have hp := pairsTo_ok (n := (wordsM x.Words).length) (show 1 ≤ (madeM x).Words.length by omega) x.Uses (min x.Uses.length 8) (by omega)
  rw [← pairsM_to] at hp
  obtain ⟨p1, p2, p3, p4⟩ := hp
  have hc : ∀ y ∈ (madeM x).Counts, 0 ≤ y ∧ y ≤ 255 := fun y hy => by
    obtain ⟨i, _, rfl⟩ := List.mem_map.1 hy
    exact countAt_in _ _
  have hcl : (madeM x).Counts.length = (madeM x).Words.length := by show (countsM _ _).length = _; unfold countsM; rw [List.length_map, List.length_range]; rfl
  have := sum_le (fun y hy => (hc y hy).2)
  have h2 : totN (madeM x).Pairs = totN (pairsM (wordsM x.Words).length x.Uses) := rfl
  have h3 : (madeM x).Pairs.length = (pairsM (wordsM x.Words).length x.Uses).length := rfl
  exact ⟨w4, by omega, by omega, by omega⟩
theorem sum_set : ∀ (l : List Int) (a : Nat) (c : Int), a < l.length → (l.set a (l[a]?.getD 0 + c)).sum = l.sum + c
  | x :: r, 0, c, _ => by simp; omega
  | x :: r, a + 1, c, h => by
    have := sum_set r a c (by simpa using h)
    simp only [List.set_cons_succ, List.getElem?_cons_succ, List.sum_cons, this]; omega
theorem learn_pairs {m : Mdl} (hm : MdlOk m) (hr : Room m) {b : Int} {a : Nat} {c : Int} (hb : b < m.Words.length) (ha : a < m.Words.length) (hc : 1 ≤ c ∧ c ≤ 256) :
    PrSort (learnR m b a c).Pairs ∧ prGood m.Words.length (learnR m b a c).Pairs ∧ totN (learnR m b a c).Pairs ≤ 384 ∧ (learnR m b a c).Pairs.length ≤ 9 := by
  have hrp := hr.p
  have hrl := hr.l
  unfold learnR
  split
  · have h1 := insP_tot (p := ⟨b, a, c⟩) hm.ps
    have h2 := insP_len (p := ⟨b, a, c⟩) hm.ps
    simp only at h1
    exact ⟨insP_sorted hm.ps, insP_good hm.ps hm.pp ⟨by assumption, hb, by simp, by simp only; omega, hc.1⟩, by simp only; omega, by simp only; omega⟩
  · exact ⟨hm.ps, hm.pp, by simp only; omega, by simp only; omega⟩
theorem learn_ok {m : Mdl} (hm : MdlOk m) (hr : Room m) {b : Int} {a : Nat} {c : Int} (hb : b < m.Words.length) (ha : a < m.Words.length) (hc : 1 ≤ c ∧ c ≤ 256) : MdlOk (learnR m b a c) := by
  obtain ⟨p1, p2, p3, p4⟩ := learn_pairs hm hr hb ha hc
  have hrc := hr.c
  have hnc := hm.nc
  have p2' : ∀ p ∈ (learnR m b a c).Pairs, 0 ≤ p.N := fun p hp => by have := p2 p hp; omega
  refine ⟨hm.n1, hm.n2, by unfold learnR; rw [List.length_set]; exact hm.nc, hm.words, ?_, ?_, by omega, p1, p2, fun d => ?_, hm.b0, hm.b1⟩
  · intro y hy
    unfold learnR at hy
    rcases List.mem_or_eq_of_mem_set hy with h | h
    · exact hm.c0 y h
    · rw [List.getElem?_eq_getElem (by omega)] at h
      have := hm.c0 _ (List.getElem_mem (l := m.Counts) (n := a) (by omega))
      rw [h]; simp only [Option.getD_some]; omega
  · have h := sum_set m.Counts a c (by omega)
    show (m.Counts.set a (m.Counts[a]?.getD 0 + c)).sum ≤ _
    omega
  · have := sumN_tot p2' d
    omega
theorem sumN_cons (q : Pr) (r : List Pr) (a : Int) : sumN (q :: r) a = (if q.A = a then q.N else 0) + sumN r a := by
  unfold sumN afterL
  by_cases h : q.A = a
  · simp only [List.filter_cons, h, decide_true, if_true, List.map_cons, List.sum_cons]
  · simp only [List.filter_cons, decide_eq_false h, Bool.false_eq_true, if_false, if_neg h, Int.zero_add]
theorem sumN_ins {p : Pr} (hp : 0 ≤ p.N) (a : Int) : ∀ {L : List Pr}, sumN L a ≤ sumN (ins (fun q => prLess p q) (fun q => prSame p q) (prAdd p) p L) a
  | [] => by rw [ins, sumN_cons]; split <;> omega
  | q :: r => by
    have ih := sumN_ins hp a (L := r)
    rw [ins]
    split
    · rw [sumN_cons p]; split <;> omega
    · split
      · rw [sumN_cons, sumN_cons]; unfold prAdd; simp only; split <;> omega
      · rw [sumN_cons, sumN_cons q]; omega
theorem find_ins {p : Pr} {a w : Int} (hw : p.B ≠ w) : ∀ {L : List Pr}, (ins (fun q => prLess p q) (fun q => prSame p q) (prAdd p) p L).find? (fun q => decide (q.A = a ∧ q.B = w)) = L.find? fun q => decide (q.A = a ∧ q.B = w)
  | [] => by
    rw [ins, List.find?_cons_of_neg]
    simp only [decide_eq_true_eq]; exact fun h => hw h.2
  | q :: r => by
    have ih := find_ins (a := a) hw (L := r)
    rw [ins]
    split
    · rw [List.find?_cons_of_neg]
      simp only [decide_eq_true_eq]; exact fun h => hw h.2
    · split
      · rename_i h1 h2
        have h3 : q.A = p.A ∧ q.B = p.B := by unfold prSame at h2; exact of_decide_eq_true h2
        rw [List.find?_cons_of_neg, List.find?_cons_of_neg]
        · simp only [decide_eq_true_eq]; exact fun h => hw (by rw [← h3.2]; exact h.2)
        · simp only [decide_eq_true_eq]; unfold prAdd; exact fun h => hw (by rw [← h3.2]; exact h.2)
      · by_cases h : q.A = a ∧ q.B = w
        · rw [List.find?_cons_of_pos (by simpa using h), List.find?_cons_of_pos (by simpa using h)]
        · rw [List.find?_cons_of_neg (by simpa using h), List.find?_cons_of_neg (by simpa using h), ih]
theorem wordC_learn {m : Mdl} (hm : MdlOk m) {b : Int} {a : Nat} {c : Int} (ha : a < m.Words.length) (hc : 1 ≤ c) {w : Int} (hw : 0 ≤ w) (hwa : w ≠ a) : wordC m w ≤ wordC (learnR m b a c) w := by
  have hnc := hm.nc
  have e1 : (learnR m b a c).Counts[w.toNat]? = m.Counts[w.toNat]? := by
    show (m.Counts.set a _)[w.toNat]? = _
    rw [List.getElem?_set_ne (by omega)]
  have e2 : (learnR m b a c).Counts.sum = m.Counts.sum + c := sum_set m.Counts a c (by omega)
  have e3 : (learnR m b a c).Words.length = m.Words.length := rfl
  unfold wordC
  rw [e1, e2, e3]
  have := logZ_mono (a := m.Counts.sum + (m.Words.length : Int)) (b := m.Counts.sum + c + (m.Words.length : Int)) (by omega)
  omega
theorem pairC_learn {m : Mdl} (hm : MdlOk m) {b : Int} {a : Nat} {c : Int} (ha : a < m.Words.length) (hc : 1 ≤ c) {p w : Int} (hw : 0 ≤ w) (hwa : w ≠ a) : pairC m p w ≤ pairC (learnR m b a c) p w := by
  have h1 := wordC_learn hm (b := b) ha hc hw hwa
  have hf : (learnR m b a c).Pairs.find? (fun q => decide (q.A = p ∧ q.B = w)) = m.Pairs.find? fun q => decide (q.A = p ∧ q.B = w) := by
    unfold learnR
    simp only
    split
    · rw [insP_eq hm.ps]; exact find_ins (p := ⟨b, a, c⟩) (fun h => hwa h.symm)
    · rfl
  have hs : sumN m.Pairs p ≤ sumN (learnR m b a c).Pairs p := by
    unfold learnR
    simp only
    split
    · rw [insP_eq hm.ps]; exact sumN_ins (p := ⟨b, a, c⟩) (by simp only; omega) p
    · exact Int.le_refl _
  unfold pairC
  split
  · exact h1
  · rw [hf]
    have hb : (learnR m b a c).Back = m.Back := rfl
    cases hfe : m.Pairs.find? fun q => decide (q.A = p ∧ q.B = w) with
    | none => simp only [hb]; omega
    | some q =>
      have := logZ_mono hs
      simp only; omega
theorem wsum_learn {x : Lat} {m : Mdl} (hm : MdlOk m) {b : Int} {a : Nat} {c : Int} (ha : a < m.Words.length) (hc : 1 ≤ c) : ∀ (es : List Nat) (p : Int), (∀ k ∈ es, 0 ≤ (edAt x k).Word ∧ (edAt x k).Word ≠ a) → wsum x m p es ≤ wsum x (learnR m b a c) p es
  | [], _, _ => Int.le_refl _
  | k :: r, p, h => by
    have hk := h k (List.mem_cons_self ..)
    have h1 := pairC_learn hm (b := b) ha hc (p := p) hk.1 hk.2
    have h2 := wsum_learn hm (b := b) ha hc r (edAt x k).Word fun z hz => h z (List.mem_cons_of_mem _ hz)
    rw [wsum, wsum]; omega
theorem isWay_in4 {x : Lat} : ∀ (es : List Nat) (a : Int), isWay x a es → ∀ k ∈ es, k < x.Edges.length
  | [], _, _, k, hk => by cases hk
  | e :: r, a, h, k, hk => by
    rcases List.mem_cons.1 hk with rfl | hk
    · exact h.1
    · exact isWay_in4 r _ h.2.2 k hk
theorem costR_way {x : Lat} {m : Mdl} {p : Int} {es : List Nat} (hm : MdlOk m) (hx : okX x = true) (hw : wordsIn x m.Words.length = true) (hp : -1 ≤ p ∧ p < m.Words.length) (h : isWay x 0 es) :
    costR x m p (es.map fun (k : Nat) => (k : Int)) = (wsum x m p es, true) := by
  unfold costR
  rw [if_pos (okM_yes hm), if_pos (show fitsC x m.Words.length p = true from fitsC_iff.2 ⟨hx, hp, hw⟩), costGo_way x _ es 0 p 0 h, Int.zero_add]
theorem ccost_s (x : Lat) (m : Mdl) (p : Int) (es : List Int) (S : Int) (hS : costR x m p es = (S, true)) (hws : ∀ s ∈ m.Words, s.size ≤ 9223372036854775807) (hsm : ∀ e ∈ x.Edges, -1099511627776 ≤ e.To ∧ e.To ≤ 1099511627776) (hes : es.length ≤ 1000000)
    (a0 a1 a2 a3 a4 : Option Addr) (c0 c1 c2 c3 c4 : Nat) (μ : Mem) (w : World) (hμ : Imm μ w) (hxl : Sl μ a3 c3 x.Edges) (hm0 : Sl μ a0 c0 m.Words) (hm1 : Sl μ a1 c1 m.Counts) (hm2 : Sl μ a2 c2 m.Pairs) (hel : Sl μ a4 c4 es) :
    Calls Try.prog 15 #[.agg #[.int .i64 x.N, .slice a3 x.Edges.length c3], .agg #[.slice a0 m.Words.length c0, .slice a1 m.Counts.length c1, .slice a2 m.Pairs.length c2, .int .i64 m.Back], .int .i64 p, .slice a4 es.length c4] w (RetS w (.tuple #[.int .i64 S, .bool true])) := by
  have h := ccost_c x m p es hws hsm hes a0 a1 a2 a3 a4 c0 c1 c2 c3 c4 μ w hμ hxl hm0 hm1 hm2 hel
  rw [hS] at h
  exact h
end Go.Proofs.Ytgnpjhellmfhoaa

