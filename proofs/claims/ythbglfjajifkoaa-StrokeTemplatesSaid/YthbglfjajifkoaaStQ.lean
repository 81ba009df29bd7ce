/-
  Strokes, plain laws: stroke.Match finds what the reference finds.
-/
import Derived.Test.YthbglfjajifkoaaStP
namespace Go.Proofs.Ythbglfjajifkoaa
open Go.RowKit Sy Go.Sort

def optOf (y : Int) : Option Int := if y < 0 then none else some y
structure FineT (t : Tpl) : Prop where
  fine : Fine t.P
  lo : 97 ≤ t.Key.toNat
  hi : t.Key.toNat ≤ 122

theorem costM_eq {p : List Pt} {t : Tpl} (hp : Fine p) (ht : FineT t) : costM p t.P = costT p t.P := by
  unfold costM costT; rw [Dm_D hp ht.fine]; rfl
theorem costT_nonneg {p : List Pt} {t : Tpl} (hp : Fine p) (ht : FineT t) : 0 ≤ costT p t.P := by
  have := (D_bound hp.good ht.fine.good).1
  unfold costT; omega
theorem step_get {p : List Pt} {t : Tpl} (hp : Fine p) (ht : FineT t) (kv : List (UInt8 × Int)) (y : UInt8 → Int) (h : ∀ k, aget kv k = optOf (y k)) (k : UInt8) : aget (stepM p kv t) k = optOf (costStep p k (y k) t) := by
  have hc := costT_nonneg hp ht
  unfold stepM costStep
  rw [costM_eq hp ht]
  by_cases hk : t.Key = k
  · rw [if_pos hk]
    subst hk
    rw [h]
    unfold optOf
    by_cases h1 : y t.Key < 0
    · simp only [if_pos h1, aget_aset, if_true]
      rw [if_neg (by omega)]
    · simp only [if_neg h1]
      by_cases h2 : costT p t.P < y t.Key
      · simp only [if_pos h2, aget_aset, if_true]
        rw [if_neg (by omega)]
      · simp only [if_neg h2]
        rw [h, optOf, if_neg h1]
  · rw [if_neg hk]
    split
    · rw [aget_aset, if_neg hk, h]
    · split
      · rw [aget_aset, if_neg hk, h]
      · exact h k
theorem fold_get {p : List Pt} (hp : Fine p) : ∀ (b : List Tpl) (kv : List (UInt8 × Int)) (y : UInt8 → Int), (∀ t ∈ b, FineT t) → (∀ k, aget kv k = optOf (y k)) → ∀ k, aget (b.foldl (stepM p) kv) k = optOf (b.foldl (costStep p k) (y k))
  | [], _, _, _, h, k => h k
  | t :: r, kv, y, hb, h, k => by
    rw [List.foldl_cons, List.foldl_cons]
    exact fold_get hp r _ (fun k => costStep p k (y k) t) (fun t ht => hb t (List.mem_cons_of_mem _ ht)) (step_get hp (hb t (List.mem_cons_self ..)) kv y h) k
theorem kv_get {p : List Pt} {b : List Tpl} (hp : Fine p) (hb : ∀ t ∈ b, FineT t) (k : UInt8) : aget (kvOf b p) k = optOf (costOf b p k) :=
  fold_get hp b [] (fun _ => -1) hb (fun _ => rfl) k

theorem aset_keys {α β : Type} [DecidableEq α] : ∀ (kv : List (α × β)) (a : α) (c : β) (x : α), x ∈ (aset kv a c).map Prod.fst → x = a ∨ x ∈ kv.map Prod.fst
  | [], a, c, x, h => by simpa [aset] using h
  | (k, v) :: r, a, c, x, h => by
    simp only [aset] at h
    split at h
    · rename_i e; simp only [List.map_cons, List.mem_cons] at h ⊢; rcases h with h | h
      · exact .inl h
      · exact .inr (.inr h)
    · simp only [List.map_cons, List.mem_cons] at h ⊢
      rcases h with h | h
      · exact .inr (.inl h)
      · rcases aset_keys r a c x h with h | h
        · exact .inl h
        · exact .inr (.inr h)
theorem aset_nodup {α β : Type} [DecidableEq α] : ∀ (kv : List (α × β)) (a : α) (c : β), (kv.map Prod.fst).Nodup → ((aset kv a c).map Prod.fst).Nodup
  | [], a, c, _ => by simp [aset]
  | (k, v) :: r, a, c, h => by
    simp only [List.map_cons, List.nodup_cons] at h
    simp only [aset]
    split
    · rename_i e; simp only [List.map_cons, List.nodup_cons]; rw [← e]; exact h
    · rename_i e
      simp only [List.map_cons, List.nodup_cons]
      refine ⟨fun hm => ?_, aset_nodup r a c h.2⟩
      rcases aset_keys r a c k hm with h1 | h1
      · exact e h1
      · exact h.1 h1
theorem kv_nodup (p : List Pt) : ∀ (b : List Tpl) (kv : List (UInt8 × Int)), (kv.map Prod.fst).Nodup → ((b.foldl (stepM p) kv).map Prod.fst).Nodup
  | [], _, h => h
  | t :: r, kv, h => by
    rw [List.foldl_cons]
    refine kv_nodup p r _ ?_
    unfold stepM
    split
    · exact aset_nodup _ _ _ h
    · split
      · exact aset_nodup _ _ _ h
      · exact h
theorem mem_aget {α β : Type} [DecidableEq α] {kv : List (α × β)} (hn : (kv.map Prod.fst).Nodup) {a : α} {c : β} : (a, c) ∈ kv ↔ aget kv a = some c := by
  constructor
  · intro h
    obtain ⟨j, hj, e⟩ := List.getElem_of_mem h
    exact aget_at (j := j) hn (by rw [List.getElem?_eq_getElem hj, e])
  · intro h
    clear hn
    induction kv with
    | nil => simp [aget] at h
    | cons x r ih =>
      obtain ⟨k, v⟩ := x
      simp only [aget] at h
      split at h
      · rename_i e; cases h; subst e; exact List.mem_cons_self ..
      · exact List.mem_cons_of_mem _ (ih h)

theorem costOf_key (p : List Pt) (k : UInt8) : ∀ (b : List Tpl) (y : Int), y < 0 → 0 ≤ b.foldl (costStep p k) y → ∃ t ∈ b, t.Key = k
  | [], y, h, h2 => absurd h2 (by simp; omega)
  | t :: r, y, h, h2 => by
    by_cases hk : t.Key = k
    · exact ⟨t, List.mem_cons_self .., hk⟩
    · rw [List.foldl_cons, show costStep p k y t = y by unfold costStep; rw [if_neg hk]] at h2
      obtain ⟨u, hu, hk⟩ := costOf_key p k r y h h2
      exact ⟨u, List.mem_cons_of_mem _ hu, hk⟩

theorem C97_of {k : UInt8} (h1 : 97 ≤ k.toNat) (h2 : k.toNat ≤ 122) : C97 (k.toNat - 97) = k := by
  apply UInt8.toNat_inj.1
  rw [C97_nat (by omega)]; omega
theorem C97_inj {i j : Nat} (hi : i < 26) (hj : j < 26) (h : C97 i = C97 j) : i = j := by
  have := congrArg UInt8.toNat h
  rw [C97_nat hi, C97_nat hj] at this; omega
theorem costs_get (b : List Tpl) (p : List Pt) {i : Nat} (h : i < 26) : (costsOf b p)[i]! = costOf b p (C97 i) := by
  rw [getElem!_pos (costsOf b p) i (by simp [costsOf]; exact h)]; simp [costsOf]
theorem costs_len (b : List Tpl) (p : List Pt) : (costsOf b p).length = 26 := by simp [costsOf]

/-- All letters with a cost. -/
def hasC (b : List Tpl) (p : List Pt) (i : Nat) : Bool := decide (0 ≤ ((costsOf b p)[i]! : Int))
def lettersOf (b : List Tpl) (p : List Pt) : List Ch := ((List.range 26).filter (hasC b p)).map (chOf b p)
theorem optOf_pos {y : Int} (h : 0 ≤ y) : optOf y = some y := by unfold optOf; rw [if_neg (by omega)]
theorem optOf_some {y c : Int} (h : optOf y = some c) : 0 ≤ y ∧ y = c := by
  unfold optOf at h
  by_cases h0 : y < 0
  · rw [if_pos h0] at h; cases h
  · rw [if_neg h0] at h; exact ⟨by omega, Option.some.inj h⟩
theorem mem_letters {b : List Tpl} {p : List Pt} (hp : Fine p) (hb : ∀ t ∈ b, FineT t) (x : Ch) : x ∈ lettersOf b p ↔ aget (kvOf b p) x.Key = some x.Cost := by
  rw [kv_get hp hb]
  unfold lettersOf
  constructor
  · intro h
    obtain ⟨i, hi, rfl⟩ := List.mem_map.1 h
    obtain ⟨hi, h0⟩ := List.mem_filter.1 hi
    have hi := List.mem_range.1 hi
    simp only [hasC, decide_eq_true_eq] at h0
    rw [costs_get b p hi] at h0
    show optOf (costOf b p (C97 i)) = some (costsOf b p)[i]!
    rw [optOf_pos h0, costs_get b p hi]
  · intro h
    obtain ⟨h0, hc⟩ := optOf_some h
    obtain ⟨t, ht, hk⟩ := costOf_key p x.Key b (-1) (by omega) h0
    have h1 := (hb t ht).lo
    have h2 := (hb t ht).hi
    rw [hk] at h1 h2
    have hi : x.Key.toNat - 97 < 26 := by omega
    refine List.mem_map.2 ⟨x.Key.toNat - 97, List.mem_filter.2 ⟨List.mem_range.2 hi, ?_⟩, ?_⟩
    · simp only [hasC, decide_eq_true_eq, costs_get b p hi, C97_of h1 h2]; exact h0
    · simp only [chOf, costs_get b p hi, C97_of h1 h2, hc]
theorem letters_nodup (b : List Tpl) (p : List Pt) : (lettersOf b p).Nodup := by
  unfold lettersOf
  refine List.pairwise_map.2 ((List.nodup_range.filter _).imp_of_mem ?_)
  intro i j hi hj hne he
  simp only [List.mem_filter, List.mem_range] at hi hj
  exact hne (C97_inj hi.1 hj.1 (congrArg Ch.Key he))
theorem kv_perm {b : List Tpl} {p : List Pt} (hp : Fine p) (hb : ∀ t ∈ b, FineT t) : ((kvOf b p).map mkCh).Perm (lettersOf b p) := by
  have hn : ((kvOf b p).map Prod.fst).Nodup := kv_nodup p b [] (by simp)
  refine (List.perm_ext_iff_of_nodup ?_ (letters_nodup b p)).2 fun x => ?_
  · exact List.pairwise_map.2 ((List.pairwise_map.1 hn).imp fun hne e => hne (congrArg Ch.Key e))
  · rw [mem_letters hp hb, ← mem_aget hn]
    constructor
    · intro h
      obtain ⟨q, hq, rfl⟩ := List.mem_map.1 h
      exact hq
    · intro h; exact List.mem_map.2 ⟨_, h, rfl⟩

/-- The first n of a rising list are those before which fewer than n come. -/
theorem take_rank {α : Type} (lt : α → α → Bool) (hirr : ∀ x, lt x x = false) : ∀ (post pre : List α) (n : Nat), (∀ x ∈ pre, ∀ y ∈ post, lt x y = true) → (pre ++ post).Pairwise (fun x y => lt y x = false) → (∀ x ∈ post, ∀ y ∈ post, lt x y = false → lt y x = false → x = y) → post.Nodup →
    post.filter (fun x => decide (((pre ++ post).filter fun y => lt y x).length < n)) = post.take (n - pre.length)
  | [], _, _, _, _, _, _ => by simp
  | x :: r, pre, n, hpre, hpw, htot, hnd => by
    have hx : ((pre ++ x :: r).filter fun y => lt y x) = pre := by
      rw [List.filter_append, List.filter_cons_of_neg (by rw [hirr]; simp)]
      have h1 : pre.filter (fun y => lt y x) = pre := List.filter_eq_self.2 fun y hy => hpre y hy x (List.mem_cons_self ..)
      have h2 : r.filter (fun y => lt y x) = [] := List.filter_eq_nil_iff.2 fun y hy => by
        have := (List.pairwise_cons.1 (List.pairwise_append.1 hpw).2.1).1 y hy
        rw [this]; simp
      rw [h1, h2, List.append_nil]
    have hnd' := List.nodup_cons.1 hnd
    have hstep : ∀ y ∈ r, lt x y = true := fun y hy => by
      cases h : lt x y with
      | true => rfl
      | false =>
        have h2 := (List.pairwise_cons.1 (List.pairwise_append.1 hpw).2.1).1 y hy
        exact absurd (htot x (List.mem_cons_self ..) y (List.mem_cons_of_mem _ hy) h h2) fun e => hnd'.1 (e ▸ hy)
    have ih := take_rank lt hirr r (pre ++ [x]) n (fun a ha y hy => by
      rcases List.mem_append.1 ha with ha | ha
      · exact hpre a ha y (List.mem_cons_of_mem _ hy)
      · obtain rfl : a = x := by simpa using ha
        exact hstep y hy) (by rw [List.append_assoc]; exact hpw) (fun a ha c hc => htot a (List.mem_cons_of_mem _ ha) c (List.mem_cons_of_mem _ hc)) hnd'.2
    have e : pre ++ [x] ++ r = pre ++ x :: r := by simp
    rw [e] at ih
    by_cases hlt : pre.length < n
    · rw [List.filter_cons_of_pos (by rw [hx]; simpa using hlt), ih, show n - pre.length = (n - (pre ++ [x]).length) + 1 by simp; omega, List.take_succ_cons]
    · rw [List.filter_cons_of_neg (by rw [hx]; simpa using hlt), ih, show n - pre.length = 0 by omega, show n - (pre ++ [x]).length = 0 by simp; omega]; rfl

theorem better_eq (b : List Tpl) (p : List Pt) {i : Nat} (hi : i < 26) : better (costsOf b p) i = ((lettersOf b p).filter fun y => ltOf byCost y (chOf b p i)).length := by
  unfold better lettersOf
  rw [List.filter_map, List.length_map, List.filter_filter, costs_len]
  congr 1
  refine List.filter_congr fun j hj => ?_
  have hj : j < 26 := List.mem_range.1 hj
  simp only [Function.comp, byCost_lt, before, hasC, chOf, C97_nat hj, C97_nat hi]
  by_cases h0 : 0 ≤ (costsOf b p)[j]!
  · rw [decide_eq_true h0, Bool.true_and, Bool.and_true]
    by_cases h1 : (costsOf b p)[j]! < (costsOf b p)[i]!
    · rw [decide_eq_true h1, Bool.true_or, decide_eq_true (Or.inl h1)]
    · rw [decide_eq_false h1, Bool.false_or]
      by_cases h2 : (costsOf b p)[j]! = (costsOf b p)[i]!
      · rw [decide_eq_true h2, Bool.true_and]
        by_cases h3 : j < i
        · rw [decide_eq_true h3, decide_eq_true (Or.inr ⟨h2, by omega⟩)]
        · rw [decide_eq_false h3, decide_eq_false (by omega)]
      · rw [decide_eq_false h2, Bool.false_and, decide_eq_false (by omega)]
  · rw [decide_eq_false h0, Bool.false_and, Bool.and_false]

theorem match_eq {b : List Tpl} {p : List Pt} {zs : List Ch} {e : Int} (hb : ∀ t ∈ b, FineT t) (h : MatchRel b p zs e) : (zs, e) = refMatch b p := by
  unfold MatchRel at h
  unfold refMatch
  by_cases hc : validP p = true ∧ 0 < b.length
  · rw [if_pos hc] at h ⊢
    obtain ⟨rfl, ys, hyp, hyw, hzp, hzw⟩ := h
    have gp := hc.1
    have hp : Fine p := by
      simp only [validP, Bool.and_eq_true, decide_eq_true_eq, List.all_eq_true] at gp
      obtain ⟨⟨h1, h2⟩, h3⟩ := gp
      refine ⟨fun q hq => ?_, by omega, by omega⟩
      have := h3 q hq
      simp only [inP, Bool.and_eq_true, decide_eq_true_eq] at this
      exact ⟨by omega, by omega, by omega, by omega⟩
    have hyl := hyp.trans (kv_perm hp hb)
    have hnd : ys.Nodup := hyl.nodup_iff.2 (letters_nodup b p)
    have htot : ∀ x ∈ ys, ∀ y ∈ ys, ltOf byCost x y = false → ltOf byCost y x = false → x = y := fun x _ y _ h1 h2 => by
      rw [byCost_lt] at h1 h2
      simp only [decide_eq_false_iff_not] at h1 h2
      have e1 : x.Key = y.Key := UInt8.toNat_inj.1 (by omega)
      have e2 : x.Cost = y.Cost := by omega
      obtain ⟨a, c⟩ := x; obtain ⟨a', c'⟩ := y
      simp only at e1 e2; rw [e1, e2]
    have htk := take_rank (ltOf byCost) swoCost.irrefl ys [] 8 (fun _ h => by cases h) (by simpa using hyw) htot hnd
    simp only [List.nil_append, List.length_nil, Nat.sub_zero] at htk
    rw [← htk] at hzp
    have hrank : ∀ x, (ys.filter fun y => ltOf byCost y x).length = ((lettersOf b p).filter fun y => ltOf byCost y x).length := fun x => (hyl.filter _).length_eq
    have hzp2 : zs.Perm ((lettersOf b p).filter fun x => decide (((lettersOf b p).filter fun y => ltOf byCost y x).length < 8)) := by
      refine hzp.trans ?_
      have e1 : (fun x => decide ((ys.filter fun y => ltOf byCost y x).length < 8)) = fun x => decide (((lettersOf b p).filter fun y => ltOf byCost y x).length < 8) := by funext x; rw [hrank]
      rw [e1]
      exact hyl.filter _
    have e2 : ((lettersOf b p).filter fun x => decide (((lettersOf b p).filter fun y => ltOf byCost y x).length < 8)) = ((List.range 26).filter (picked b p)).map (chOf b p) := by
      rw [show ((lettersOf b p).filter fun x => decide (((lettersOf b p).filter fun y => ltOf byCost y x).length < 8)) = (((List.range 26).filter (hasC b p)).map (chOf b p)).filter (fun x => decide (((lettersOf b p).filter fun y => ltOf byCost y x).length < 8)) from rfl]
      rw [List.filter_map, List.filter_filter]
      congr 1
      refine List.filter_congr fun i hi => ?_
      have hi : i < 26 := List.mem_range.1 hi
      simp only [Function.comp, picked, hasC, better_eq b p hi]
      rw [Bool.and_comm]
    rw [e2] at hzp2
    congr 1
    refine List.Perm.eq_of_pairwise (le := fun x y => ltOf byKey y x = false) ?_ hzw ?_ hzp2
    · intro x y hx hy h1 h2
      rw [byKey_lt] at h1 h2
      simp only [decide_eq_false_iff_not] at h1 h2
      have hx' := hzp2.mem_iff.1 hx
      obtain ⟨i, hi, rfl⟩ := List.mem_map.1 hx'
      obtain ⟨j, hj, rfl⟩ := List.mem_map.1 hy
      have hi := List.mem_range.1 (List.mem_filter.1 hi).1
      have hj := List.mem_range.1 (List.mem_filter.1 hj).1
      simp only [chOf, C97_nat hi, C97_nat hj] at h1 h2
      have : i = j := by omega
      rw [this]
    · refine List.pairwise_map.2 (((List.pairwise_lt_range (n := 26)).filter _).imp_of_mem ?_)
      intro i j hi hj hlt
      have hi := List.mem_range.1 (List.mem_filter.1 hi).1
      have hj := List.mem_range.1 (List.mem_filter.1 hj).1
      rw [byKey_lt]
      simp only [chOf, C97_nat hi, C97_nat hj, decide_eq_false_iff_not]
      omega
  · rw [if_neg hc] at h ⊢
    rw [h.1, h.2]
end Go.Proofs.Ythbglfjajifkoaa
