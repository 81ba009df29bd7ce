/-
  Strokes: the walk of StrokeTemplates.
-/
import Derived.Test.YthbglfjajifkoaaStT6
namespace Go.Proofs.Ythbglfjajifkoaa
open Go.RowKit Sy Go.Sort

theorem tplWhole (μ : Mem) (f : Nat → Option Value) (x : Tpl) (h : El.rep μ f x) : ∃ vs : List Value, vs.length = El.sz Tpl ∧ (∀ j u, vs[j]? = some u → f j = some u) ∧ El.rep μ (fun j => vs[j]?) x ∧ ∀ u ∈ vs, u.oneCell' = true := by
  obtain ⟨h0, ad, c, h1, h2⟩ := h
  refine ⟨[.int .u8 x.Key.toNat, .slice ad x.P.length c], rfl, fun j u hu => ?_, ⟨rfl, ad, c, rfl, h2⟩, fun u hu => ?_⟩
  · match j, hu with
    | 0, hu => cases hu; exact h0
    | 1, hu => cases hu; exact h1
  · simp only [List.mem_cons, List.not_mem_nil, or_false] at hu
    rcases hu with rfl | rfl <;> rfl

/-- Templates of the first seven letters. -/
theorem board_seven {l : List Raw} {n : Nat} {t : Tpl} (h : t ∈ board l n 7) : t.Key.toNat < 104 := by
  obtain ⟨r, _, rfl⟩ := List.mem_map.1 h
  have := keyOf_nat (k := 7) r.Key (by omega) (by omega)
  have := Nat.mod_lt r.Key.toNat (show 0 < 7 by omega)
  simp only [tplOf]; omega
theorem letters_seven {b : List Tpl} (p : List Pt) (h : ∀ t ∈ b, t.Key.toNat < 104) : (lettersOf b p).length ≤ 7 := by
  unfold lettersOf
  rw [List.length_map, ← List.countP_eq_length_filter]
  have h1 : (List.range 26).countP (hasC b p) ≤ (List.range 26).countP (fun i => decide (i < 7)) := List.countP_mono_left fun i hi hc => by
    have hi := List.mem_range.1 hi
    simp only [hasC, decide_eq_true_eq, costs_get b p hi] at hc
    obtain ⟨t, ht, hk⟩ := costOf_key p (C97 i) b (-1) (by omega) hc
    have := h t ht
    rw [hk, C97_nat hi] at this
    simpa using (show i < 7 by omega)
  exact Nat.le_trans h1 (by decide)
theorem chosen_all {b : List Tpl} {p : List Pt} {zs : List Ch} (hc : Chosen b p zs) (h7 : (lettersOf b p).length ≤ 7) {x : Ch} (hx : x ∈ lettersOf b p) : x ∈ zs := by
  refine Classical.byContradiction fun hn => ?_
  have := (hc.out x hx hn).1
  have := hc.len
  omega
theorem letter_of {b : List Tpl} {p : List Pt} (hb : ∀ t ∈ b, FineT t) {k : UInt8} (h : 0 ≤ costOf b p k) : (⟨k, costOf b p k⟩ : Ch) ∈ lettersOf b p := by
  obtain ⟨t, ht, hk⟩ := costOf_key p k b (-1) (by omega) h
  have h1 := (hb t ht).lo
  have h2 := (hb t ht).hi
  rw [hk] at h1 h2
  have hi : k.toNat - 97 < 26 := by omega
  refine List.mem_map.2 ⟨k.toNat - 97, List.mem_filter.2 ⟨List.mem_range.2 hi, ?_⟩, ?_⟩
  · simp only [hasC, decide_eq_true_eq, costs_get b p hi, C97_of h1 h2]; exact h
  · simp only [chOf, costs_get b p hi, C97_of h1 h2]
theorem cost_snoc (b : List Tpl) (t : Tpl) (p : List Pt) (k : UInt8) : costOf (b ++ [t]) p k = costStep p k (costOf b p k) t := by unfold costOf; rw [List.foldl_append]; rfl
theorem cost_nonneg {p : List Pt} (hp : Fine p) (k : UInt8) : ∀ (b : List Tpl) (y : Int), (∀ t ∈ b, FineT t) → -1 ≤ y → -1 ≤ b.foldl (costStep p k) y
  | [], _, _, h => h
  | t :: r, y, hb, h => by
    rw [List.foldl_cons]
    refine cost_nonneg hp k r _ (fun t ht => hb t (List.mem_cons_of_mem _ ht)) ?_
    have := costT_nonneg hp (hb t (List.mem_cons_self ..))
    unfold costStep
    split
    · split
      · omega
      · split <;> omega
    · exact h
/-- The stroke of the further template costs nothing. -/
theorem cost_own {b : List Tpl} {t : Tpl} (hb : ∀ t ∈ b, FineT t) (ht : FineT t) : costOf (b ++ [t]) t.P t.Key = 0 := by
  have h0 : costT t.P t.P = 0 := by
    unfold costT; rw [← Dm_D ht.fine ht.fine, Dm_self ht.fine]; rfl
  have h1 := cost_nonneg ht.fine t.Key b (-1) hb (by omega)
  rw [cost_snoc]
  unfold costStep
  rw [if_pos rfl, h0]
  have h2 : -1 ≤ costOf b t.P t.Key := h1
  split
  · rfl
  · split
    · rfl
    · omega
theorem cost_more {b : List Tpl} {t : Tpl} {p : List Pt} (hp : Fine p) (ht : FineT t) {k : UInt8} (h : 0 ≤ costOf b p k) :
    0 ≤ costOf (b ++ [t]) p k ∧ (costOf (b ++ [t]) p k = costOf b p k ∨ (k = t.Key ∧ costOf (b ++ [t]) p k < costOf b p k)) := by
  have h1 := costT_nonneg hp ht
  rw [cost_snoc]
  unfold costStep
  by_cases hk : t.Key = k
  · rw [if_pos hk, if_neg (by omega)]
    by_cases hlt : costT p t.P < costOf b p k
    · rw [if_pos hlt]; exact ⟨h1, .inr ⟨hk.symm, hlt⟩⟩
    · rw [if_neg hlt]; exact ⟨h, .inl rfl⟩
  · rw [if_neg hk]; exact ⟨h, .inl rfl⟩
theorem field_mem {b : List Tpl} {t : Tpl} (hb : ∀ x ∈ b, FineT x) (ht : FineT t) : ∀ x ∈ b ++ [t], FineT x := fun x hx => by
  rcases List.mem_append.1 hx with hx | hx
  · exact hb x hx
  · obtain rfl : x = t := by simpa using hx
    exact ht
end Go.Proofs.Ythbglfjajifkoaa
