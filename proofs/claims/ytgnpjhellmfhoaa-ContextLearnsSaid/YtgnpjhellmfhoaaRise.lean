/-
  Lists that are right element by element, and rise.
-/
import Derived.Test.YtgnpjhellmfhoaaSort
namespace Go.Proofs.Ytgnpjhellmfhoaa
/-- Each is right, and comes behind the one before. -/
def rises {α : Type} (right : α → Bool) (lt : α → α → Bool) : Option α → List α → Bool
  | _, [] => true
  | none, x :: r => right x && rises right lt (some x) r
  | some p, x :: r => right x && lt p x && rises right lt (some x) r
def prevOf {α : Type} (l : List α) : Nat → Option α
  | 0 => none
  | i + 1 => l[i]?
theorem prevOf_succ {α : Type} (l : List α) (i : Nat) (h : i < l.length) : prevOf l (i + 1) = some l[i] := by simp [prevOf, h]
theorem rises_step {α : Type} (right : α → Bool) (lt : α → α → Bool) (l : List α) (i : Nat) (h : i < l.length) (hr : right l[i] = true) (hl : 0 < i → lt l[i - 1] l[i] = true) : rises right lt (prevOf l i) (l.drop i) = rises right lt (prevOf l (i + 1)) (l.drop (i + 1)) := by
  rw [List.drop_eq_getElem_cons h, prevOf_succ l i h]
  cases i with
  | zero => simp [prevOf, rises, hr]
  | succ k => have hk : k < l.length := by omega
              rw [prevOf_succ l k hk, rises, hr, show lt l[k] l[k + 1] = true from hl (by omega)]; simp
theorem rises_not {α : Type} (right : α → Bool) (lt : α → α → Bool) (l : List α) (i : Nat) (h : i < l.length) (hr : right l[i] = false) : rises right lt (prevOf l i) (l.drop i) = false := by
  rw [List.drop_eq_getElem_cons h]
  cases prevOf l i <;> simp [rises, hr]
theorem rises_not2 {α : Type} (right : α → Bool) (lt : α → α → Bool) (l : List α) (i : Nat) (h : i < l.length) (h0 : 0 < i) (hl : lt l[i - 1] l[i] = false) : rises right lt (prevOf l i) (l.drop i) = false := by
  rw [List.drop_eq_getElem_cons h]
  cases i with
  | zero => omega
  | succ k => have hk : k < l.length := by omega
              rw [prevOf_succ l k hk, rises, show lt l[k] l[k + 1] = false from hl]; simp


theorem rises_end {α : Type} (right : α → Bool) (lt : α → α → Bool) (l : List α) (i : Nat) (h : l.length ≤ i) : rises right lt (prevOf l i) (l.drop i) = true := by
  rw [List.drop_of_length_le h]; cases prevOf l i <;> rfl
theorem rises_all {α : Type} {right : α → Bool} {lt : α → α → Bool} : ∀ {l : List α} {p : Option α}, rises right lt p l = true → ∀ x ∈ l, right x = true
  | [], _, _, x, hx => by cases hx
  | y :: r, p, h, x, hx => by
    have h2 : right y = true ∧ rises right lt (some y) r = true := by
      cases p <;> simp only [rises, Bool.and_eq_true] at h
      · exact h
      · exact ⟨h.1.1, h.2⟩
    rcases List.mem_cons.1 hx with rfl | hx
    · exact h2.1
    · exact rises_all h2.2 x hx
theorem rises_pair {α : Type} {right : α → Bool} {lt : α → α → Bool} (ht : ∀ x y z, lt x y = true → lt y z = true → lt x z = true) : ∀ {l : List α} {p : Option α}, rises right lt p l = true → l.Pairwise (fun x y => lt x y = true) ∧ ∀ q, p = some q → ∀ x ∈ l, lt q x = true
  | [], _, _ => ⟨List.Pairwise.nil, fun _ _ x hx => by cases hx⟩
  | y :: r, p, h => by
    have h2 : rises right lt (some y) r = true ∧ ∀ q, p = some q → lt q y = true := by
      cases p <;> simp only [rises, Bool.and_eq_true] at h
      · exact ⟨h.2, fun q hq => by cases hq⟩
      · exact ⟨h.2, fun q hq => by cases hq; exact h.1.2⟩
    obtain ⟨i1, i2⟩ := rises_pair ht h2.1
    refine ⟨List.pairwise_cons.2 ⟨fun x hx => i2 y rfl x hx, i1⟩, fun q hq x hx => ?_⟩
    rcases List.mem_cons.1 hx with rfl | hx
    · exact h2.2 q hq
    · exact ht _ _ _ (h2.2 q hq) (i2 y rfl x hx)
theorem rises_of {α : Type} {right : α → Bool} {lt : α → α → Bool} : ∀ {l : List α} {p : Option α}, (∀ x ∈ l, right x = true) → l.Pairwise (fun x y => lt x y = true) → (∀ q, p = some q → ∀ x ∈ l, lt q x = true) → rises right lt p l = true
  | [], none, _, _, _ => rfl
  | [], some _, _, _, _ => rfl
  | y :: r, p, h1, h2, h3 => by
    have h4 := rises_of (p := some y) (l := r) (fun x hx => h1 x (List.mem_cons_of_mem _ hx)) (List.pairwise_cons.1 h2).2 (fun q hq x hx => by cases hq; exact (List.pairwise_cons.1 h2).1 x hx)
    cases p with
    | none => simp only [rises, Bool.and_eq_true]; exact ⟨h1 y (List.mem_cons_self ..), h4⟩
    | some q => simp only [rises, Bool.and_eq_true]; exact ⟨⟨h1 y (List.mem_cons_self ..), h3 q rfl y (List.mem_cons_self ..)⟩, h4⟩
/-- Lists in strict order with the same elements are alike. -/
theorem strict_ext {α : Type} {lt : α → α → Prop} (irr : ∀ x, ¬ lt x x) (asym : ∀ x y, lt x y → ¬ lt y x) : ∀ {l m : List α}, l.Pairwise lt → m.Pairwise lt → (∀ x, x ∈ l ↔ x ∈ m) → l = m
  | [], [], _, _, _ => rfl
  | [], y :: r, _, _, h => by have := (h y).2 (List.mem_cons_self ..); cases this
  | x :: r, [], _, _, h => by have := (h x).1 (List.mem_cons_self ..); cases this
  | x :: r, y :: s, h1, h2, h => by
    have h1' := List.pairwise_cons.1 h1
    have h2' := List.pairwise_cons.1 h2
    have e : x = y := by
      rcases List.mem_cons.1 ((h x).1 (List.mem_cons_self ..)) with hx | hx
      · exact hx
      · rcases List.mem_cons.1 ((h y).2 (List.mem_cons_self ..)) with hy | hy
        · exact hy.symm
        · exact absurd (h1'.1 y hy) (asym _ _ (h2'.1 x hx))
    subst e
    congr 1
    refine strict_ext irr asym h1'.2 h2'.2 fun z => ⟨fun hz => ?_, fun hz => ?_⟩
    · rcases List.mem_cons.1 ((h z).1 (List.mem_cons_of_mem _ hz)) with e | e
      · subst e; exact absurd (h1'.1 z hz) (irr z)
      · exact e
    · rcases List.mem_cons.1 ((h z).2 (List.mem_cons_of_mem _ hz)) with e | e
      · subst e; exact absurd (h2'.1 z hz) (irr z)
      · exact e
end Go.Proofs.Ytgnpjhellmfhoaa
