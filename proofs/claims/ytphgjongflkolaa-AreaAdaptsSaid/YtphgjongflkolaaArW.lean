/-
  Areas: plain laws on slots, boards and taps.
-/
import Derived.Test.YtphgjongflkolaaArU
namespace Go.Proofs.Ytphgjongflkolaa
open Go.RowKit Sy Go.Sort

theorem lessCh_tot {M : List Ch} (h : Keys M) {x y : Ch} (hx : x ∈ M) (hy : y ∈ M) (hne : x ≠ y) : lessCh x y = true ∨ lessCh y x = true := by
  have hk : x.Key.toNat ≠ y.Key.toNat := fun e => hne (keys_inj h hx hy (UInt8.toNat_inj.1 e))
  unfold lessCh
  simp only [decide_eq_true_eq]
  omega
theorem lessCh_trans {x y z : Ch} (h1 : lessCh x y = true) (h2 : lessCh y z = true) : lessCh x z = true := by
  unfold lessCh at *; simp only [decide_eq_true_eq] at *; omega
theorem few_len {M : List Ch} (h : Keys M) : (few M).length = min 8 M.length := by
  have hp := List.mergeSort_perm M (fun x y => !lessCh y x)
  have hs : (M.mergeSort (fun x y => !lessCh y x)).Pairwise (fun x y => (!lessCh y x) = true) := List.pairwise_mergeSort (fun a b c h1 h2 => by
    unfold lessCh at *; simp only [Bool.not_eq_true', decide_eq_false_iff_not] at *; omega) (fun a b => by
    unfold lessCh; simp only [Bool.or_eq_true, Bool.not_eq_true', decide_eq_false_iff_not]; omega) M
  have hw : (M.mergeSort (fun x y => !lessCh y x)).Pairwise (fun x y => ltOf byCost y x = false) := hs.imp fun {x y} hxy => by
    rw [byCost_lt, decide_eq_false_iff_not]
    unfold lessCh at hxy; simp only [Bool.not_eq_true', decide_eq_false_iff_not] at hxy; omega
  obtain ⟨zs, hz1, hz2⟩ : ∃ zs : List Ch, zs.Perm ((M.mergeSort (fun x y => !lessCh y x)).take 8) ∧ zs.Pairwise (fun x y => ltOf byKey y x = false) := by
    refine ⟨((M.mergeSort (fun x y => !lessCh y x)).take 8).mergeSort (fun x y => decide (x.Key.toNat ≤ y.Key.toNat)), List.mergeSort_perm _ _, ?_⟩
    refine (List.pairwise_mergeSort (fun a b c h1 h2 => by simp only [decide_eq_true_eq] at *; omega) (fun a b => by simp only [Bool.or_eq_true, decide_eq_true_eq]; omega) _).imp fun {x y} hxy => ?_
    rw [byKey_lt, decide_eq_false_iff_not]; simp only [decide_eq_true_eq] at hxy; omega
  have := few_of h hp hw hz1 hz2
  rw [← this, hz1.length_eq, List.length_take, hp.length_eq]
theorem few_mem {M : List Ch} {x : Ch} (h : x ∈ few M) : x ∈ M := (List.mem_filter.1 h).1
theorem few_keys {M : List Ch} (h : Keys M) : Keys (few M) := h.sublist List.filter_sublist
theorem few_out {M : List Ch} {c : Ch} (hc : c ∈ M) (hn : c ∉ few M) : 8 ≤ M.countP (fun x => lessCh x c) := by
  rcases Nat.lt_or_ge (M.countP (fun x => lessCh x c)) 8 with h | h
  · exact absurd (List.mem_filter.2 ⟨hc, by simpa using h⟩) hn
  · exact h
/-- What is left out is not cheaper. -/
theorem few_cheap {M : List Ch} (h : Keys M) {c x : Ch} (hc : c ∈ M) (hn : c ∉ few M) (hx : x ∈ few M) : x.Cost ≤ c.Cost := by
  have h1 := few_out hc hn
  have h2 : M.countP (fun y => lessCh y x) < 8 := by simpa using (List.mem_filter.1 hx).2
  have hne : c ≠ x := fun e => hn (e ▸ hx)
  rcases lessCh_tot h hc (few_mem hx) hne with h3 | h3
  · have : M.countP (fun y => lessCh y c) ≤ M.countP (fun y => lessCh y x) := List.countP_mono_left fun y _ hy => lessCh_trans hy h3
    omega
  · unfold lessCh at h3; simp only [decide_eq_true_eq] at h3; omega
theorem few_full {M : List Ch} (h : Keys M) {c : Ch} (hc : c ∈ M) (hn : c ∉ few M) : (few M).length = 8 := by
  have h1 := few_out hc hn
  have h2 : M.countP (fun x => lessCh x c) ≤ M.length := List.countP_le_length
  rw [few_len h]; omega
theorem few_all {M : List Ch} (h : Keys M) (hl : M.length ≤ 8) : few M = M := by
  have h1 : (few M).Sublist M := List.filter_sublist
  exact h1.eq_of_length (by rw [few_len h]; omega)

theorem costIn_mem {l : List Ch} (h : Keys l) {c : Ch} (hc : c ∈ l) : costIn l c.Key = c.Cost := by
  unfold costIn
  cases hf : l.find? (fun x => decide (x.Key = c.Key)) with
  | none =>
    rw [List.find?_eq_none] at hf
    exact absurd (by simp) (hf c hc)
  | some x =>
    have h1 := List.mem_of_find?_eq_some hf
    have h2 : x.Key = c.Key := by simpa using List.find?_some hf
    rw [keys_inj h h1 hc h2]
theorem costIn_not {l : List Ch} {k : UInt8} (h : ∀ c ∈ l, c.Key ≠ k) : costIn l k = -1 := by
  unfold costIn
  rw [List.find?_eq_none.2 fun c hc => by simpa using h c hc]
theorem areas_inj {l : List Area} (h : AKeys l) {a b : Area} (ha : a ∈ l) (hb : b ∈ l) (he : a.Key = b.Key) : a = b := by
  obtain ⟨i, hi, rfl⟩ := List.getElem_of_mem ha
  obtain ⟨j, hj, rfl⟩ := List.getElem_of_mem hb
  rcases Nat.lt_trichotomy i j with h1 | h1 | h1
  · have := List.pairwise_iff_getElem.1 h i j hi hj h1; rw [he] at this; omega
  · subst h1; rfl
  · have := List.pairwise_iff_getElem.1 h j i hj hi h1; rw [he] at this; omega
theorem areaOf_mem {l : List Area} (h : AKeys l) {a : Area} (ha : a ∈ l) : areaOf l a.Key = some a := by
  unfold areaOf
  cases hf : l.find? (fun x => decide (x.Key = a.Key)) with
  | none => rw [List.find?_eq_none] at hf; exact absurd (by simp) (hf a ha)
  | some x => rw [areas_inj h (List.mem_of_find?_eq_some hf) ha (by simpa using List.find?_some hf)]
theorem meant_mem {l : List Area} {taps : List Tap} {p : Pt} {c : Ch} : c ∈ meant l taps p ↔ ∃ a ∈ l, costOf a taps p ≤ 1000 ∧ c = ⟨a.Key, costOf a taps p⟩ := by
  unfold meant mayMean
  rw [List.mem_filterMap]
  constructor
  · rintro ⟨a, ha, h⟩
    split at h
    · rename_i h1; exact ⟨a, ha, h1, (Option.some.inj h).symm⟩
    · cases h
  · rintro ⟨a, ha, h1, rfl⟩
    exact ⟨a, ha, by rw [if_pos h1]⟩

/-! ### Boards -/
theorem away_in {n lo hi : Int} (h1 : lo ≤ n) (h2 : n ≤ hi) : away n lo hi = 0 := by unfold away; omega
theorem shiftOf_nil (k : UInt8) : shiftOf [] k = ⟨0, 0⟩ := rfl
theorem cost_in {a : Area} {taps : List Tap} {p : Pt} (h1 : a.X0 ≤ p.X - (shiftOf taps a.Key).X) (h2 : p.X - (shiftOf taps a.Key).X ≤ a.X1) (h3 : a.Y0 ≤ p.Y - (shiftOf taps a.Key).Y) (h4 : p.Y - (shiftOf taps a.Key).Y ≤ a.Y1) : costOf a taps p = 0 := by
  unfold costOf; rw [away_in h1 h2, away_in h3 h4]; rfl
theorem away_shift (n lo hi d : Int) : away (n + d) (lo + d) (hi + d) = away n lo hi := by unfold away; omega
end Go.Proofs.Ytphgjongflkolaa

