/-
  Strokes, plain laws: both tables hold the least sums of walks; the distance is symmetric.
-/
import Derived.Test.YthbglfjajifkoaaStK
namespace Go.Proofs.Ythbglfjajifkoaa
open Go.RowKit Sy Go.Sort

/-- The least sums, without bounds. -/
def P (g : Nat → Nat → Int) : Nat → Nat → Int
  | 0, 0 => g 0 0
  | 0, k + 1 => P g 0 k + g 0 (k + 1)
  | i + 1, 0 => P g i 0 + g (i + 1) 0
  | i + 1, k + 1 => min (min (P g i (k + 1)) (P g (i + 1) k)) (P g i k) + g (i + 1) (k + 1)

theorem P_nonneg {g : Nat → Nat → Int} (hg : ∀ i k, 0 ≤ g i k) : ∀ i k, 0 ≤ P g i k
  | 0, 0 => by simp only [P]; exact hg 0 0
  | 0, k + 1 => by have := P_nonneg hg 0 k; have := hg 0 (k + 1); simp only [P]; omega
  | i + 1, 0 => by have := P_nonneg hg i 0; have := hg (i + 1) 0; simp only [P]; omega
  | i + 1, k + 1 => by
    have := P_nonneg hg i (k + 1); have := P_nonneg hg (i + 1) k; have := P_nonneg hg i k; have := hg (i + 1) (k + 1)
    simp only [P]; omega
theorem P_le {g : Nat → Nat → Int} {B : Int} (hg : ∀ i k, 0 ≤ g i k ∧ g i k ≤ B) : ∀ i k, P g i k ≤ ((i + k + 1 : Nat) : Int) * B
  | 0, 0 => by have := hg 0 0; simp only [P]; omega
  | 0, k + 1 => by
    have := P_le hg 0 k; have := hg 0 (k + 1)
    have e : ((0 + (k + 1) + 1 : Nat) : Int) * B = ((0 + k + 1 : Nat) : Int) * B + B := by rw [show 0 + (k + 1) + 1 = (0 + k + 1) + 1 by omega, Int.natCast_add, Int.add_mul]; simp
    simp only [P]; omega
  | i + 1, 0 => by
    have := P_le hg i 0; have := hg (i + 1) 0
    have e : ((i + 1 + 0 + 1 : Nat) : Int) * B = ((i + 0 + 1 : Nat) : Int) * B + B := by rw [show i + 1 + 0 + 1 = (i + 0 + 1) + 1 by omega, Int.natCast_add, Int.add_mul]; simp
    simp only [P]; omega
  | i + 1, k + 1 => by
    have := P_le hg (i + 1) k; have := hg (i + 1) (k + 1)
    have e : ((i + 1 + (k + 1) + 1 : Nat) : Int) * B = ((i + 1 + k + 1 : Nat) : Int) * B + B := by rw [show i + 1 + (k + 1) + 1 = (i + 1 + k + 1) + 1 by omega, Int.natCast_add, Int.add_mul]; simp
    simp only [P]; omega
theorem P_small {g : Nat → Nat → Int} {B : Int} {n : Nat} (hg : ∀ i k, 0 ≤ g i k ∧ g i k ≤ B) {i k : Nat} (h : i + k + 1 ≤ n) : P g i k ≤ (n : Int) * B := by
  have h1 := P_le hg i k
  have hB : 0 ≤ B := by have := hg 0 0; omega
  have h2 : ((i + k + 1 : Nat) : Int) * B ≤ (n : Int) * B := Int.mul_le_mul_of_nonneg_right (by omega) hB
  omega

theorem T_eq {g : Nat → Nat → Int} {B : Int} {n : Nat} (hg : ∀ i k, 0 ≤ g i k ∧ g i k ≤ B) (hn : (n : Int) * B ≤ 1000000) : ∀ i k, i + k + 1 ≤ n → T g i k = P g i k
  | 0, 0, _ => by simp only [T, P]
  | 0, k + 1, h => by
    have := P_small hg (i := 0) (k := k) (n := n) (by omega)
    simp only [T, P, T_eq hg hn 0 k (by omega)]; omega
  | i + 1, 0, h => by
    have := P_small hg (i := i) (k := 0) (n := n) (by omega)
    simp only [T, P, T_eq hg hn i 0 (by omega)]; omega
  | i + 1, k + 1, h => by
    have := P_small hg (i := i) (k := k) (n := n) (by omega)
    simp only [T, P, T_eq hg hn i (k + 1) (by omega), T_eq hg hn (i + 1) k (by omega), T_eq hg hn i k (by omega)]; omega
theorem R_eq {g : Nat → Nat → Int} {B : Int} {n : Nat} (hg : ∀ i k, 0 ≤ g i k ∧ g i k ≤ B) (hn : (n : Int) * B ≤ 1000000) : ∀ i k, i + k + 1 ≤ n → R g (i + 1) (k + 1) = P g i k
  | 0, 0, _ => by
    have e : R g (0 + 1) (0 + 1) = min (min (R g 0 0) (R g 0 (0 + 1))) (R g (0 + 1) 0) + g 0 0 := by simp only [R]
    have e0 : R g 0 0 = 0 := by simp only [R]
    have e1 : R g 0 (0 + 1) = huge := by simp only [R]
    have e2 : R g (0 + 1) 0 = huge := by simp only [R]
    rw [e, e0, e1, e2]
    simp only [P, huge]; omega
  | 0, k + 1, h => by
    have h1 := P_small hg (i := 0) (k := k) (n := n) (by omega)
    have h2 := R_eq hg hn 0 k (by omega)
    have h3 := P_nonneg (fun i k => (hg i k).1) 0 k
    have e : R g (0 + 1) (k + 1 + 1) = min (min (R g 0 (k + 1)) (R g 0 (k + 1 + 1))) (R g (0 + 1) (k + 1)) + g 0 (k + 1) := by simp only [R]
    have e1 : R g 0 (k + 1) = huge := by simp only [R]
    have e2 : R g 0 (k + 1 + 1) = huge := by simp only [R]
    rw [e, e1, e2, h2]
    simp only [P, huge]; omega
  | i + 1, 0, h => by
    have h1 := P_small hg (i := i) (k := 0) (n := n) (by omega)
    have h2 := R_eq hg hn i 0 (by omega)
    have h3 := P_nonneg (fun i k => (hg i k).1) i 0
    have e : R g (i + 1 + 1) (0 + 1) = min (min (R g (i + 1) 0) (R g (i + 1) (0 + 1))) (R g (i + 1 + 1) 0) + g (i + 1) 0 := by simp only [R]
    have e1 : R g (i + 1) 0 = huge := by simp only [R]
    have e2 : R g (i + 1 + 1) 0 = huge := by simp only [R]
    rw [e, e1, e2, h2]
    simp only [P, huge]; omega
  | i + 1, k + 1, h => by
    have e : R g (i + 1 + 1) (k + 1 + 1) = min (min (R g (i + 1) (k + 1)) (R g (i + 1) (k + 1 + 1))) (R g (i + 1 + 1) (k + 1)) + g (i + 1) (k + 1) := by rw [R]
    rw [e, R_eq hg hn i k (by omega), R_eq hg hn i (k + 1) (by omega), R_eq hg hn (i + 1) k (by omega)]
    simp only [P]; omega

/-- A stroke with few points, which are near. -/
structure Fine (l : List Pt) : Prop where
  bd : ∀ p ∈ l, Bd 2000 p
  len : l.length ≤ 30
  pos : 0 < l.length
theorem Fine.good {l : List Pt} (h : Fine l) : Good l := ⟨fun p hp => by obtain ⟨a, b, c, d⟩ := h.bd p hp; exact ⟨by omega, by omega, by omega, by omega⟩, by have := h.len; omega, h.pos⟩
theorem gap_small {p q : Pt} (hp : Bd 2000 p) (hq : Bd 2000 q) : 0 ≤ gap p q ∧ gap p q ≤ 8000 := by
  obtain ⟨h1, h2, h3, h4⟩ := hp
  obtain ⟨g1, g2, g3, g4⟩ := hq
  unfold gap; omega
theorem gapsOf_small {a b : List Pt} (ha : Fine a) (hb : Fine b) (i k : Nat) : 0 ≤ gapsOf a b i k ∧ gapsOf a b i k ≤ 8000 := by
  unfold gapsOf; split
  · exact gap_small (ha.bd _ (List.getElem_mem _)) (hb.bd _ (List.getElem_mem _))
  · omega
theorem D_P {a b : List Pt} (ha : Fine a) (hb : Fine b) : D a b = P (gapsOf a b) (a.length - 1) (b.length - 1) := by
  have := ha.len; have := hb.len; have := ha.pos; have := hb.pos
  exact T_eq (n := 60) (gapsOf_small ha hb) (by omega) _ _ (by omega)
theorem Dm_P {a b : List Pt} (ha : Fine a) (hb : Fine b) : Dm a b = P (gapsOf a b) (a.length - 1) (b.length - 1) := by
  have := ha.len; have := hb.len; have := ha.pos; have := hb.pos
  have h := R_eq (n := 60) (gapsOf_small ha hb) (by omega) (a.length - 1) (b.length - 1) (by omega)
  rw [show a.length - 1 + 1 = a.length by omega, show b.length - 1 + 1 = b.length by omega] at h
  exact h
/-- Both distances agree. -/
theorem Dm_D {a b : List Pt} (ha : Fine a) (hb : Fine b) : Dm a b = D a b := by rw [D_P ha hb, Dm_P ha hb]

theorem P_symm (g : Nat → Nat → Int) : ∀ i k, P (fun i k => g k i) k i = P g i k
  | 0, 0 => by simp only [P]
  | 0, k + 1 => by simp only [P]; rw [← P_symm g 0 k]
  | i + 1, 0 => by simp only [P]; rw [← P_symm g i 0]
  | i + 1, k + 1 => by simp only [P]; rw [← P_symm g i (k + 1), ← P_symm g (i + 1) k, ← P_symm g i k]; omega
theorem gap_symm (p q : Pt) : gap p q = gap q p := by unfold gap; omega
theorem gapsOf_symm (a b : List Pt) : gapsOf b a = fun i k => gapsOf a b k i := by
  funext i k
  unfold gapsOf
  by_cases h : i < b.length ∧ k < a.length
  · rw [dif_pos h, dif_pos ⟨h.2, h.1⟩, gap_symm]
  · rw [dif_neg h, dif_neg fun h2 => h ⟨h2.2, h2.1⟩]
theorem Dm_symm {a b : List Pt} (ha : Fine a) (hb : Fine b) : Dm a b = Dm b a := by
  rw [Dm_P ha hb, Dm_P hb ha, gapsOf_symm, P_symm]
theorem P_diag {g : Nat → Nat → Int} (hg : ∀ i k, 0 ≤ g i k) (h0 : ∀ i, g i i = 0) : ∀ i, P g i i = 0
  | 0 => by simp only [P]; exact h0 0
  | i + 1 => by
    have h1 := P_diag hg h0 i
    have h2 := P_nonneg hg i (i + 1)
    have h3 := P_nonneg hg (i + 1) i
    simp only [P, h1, h0]; omega
theorem gap_self (p : Pt) : gap p p = 0 := by unfold gap; omega
theorem Dm_self {a : List Pt} (ha : Fine a) : Dm a a = 0 := by
  rw [Dm_P ha ha]
  refine P_diag (fun i k => (gapsOf_small ha ha i k).1) (fun i => ?_) _
  unfold gapsOf; split
  · exact gap_self _
  · rfl
theorem P_first {g : Nat → Nat → Int} (hg : ∀ i k, 0 ≤ g i k) : ∀ i k, g 0 0 ≤ P g i k
  | 0, 0 => by simp only [P]; omega
  | 0, k + 1 => by have := P_first hg 0 k; have := hg 0 (k + 1); simp only [P]; omega
  | i + 1, 0 => by have := P_first hg i 0; have := hg (i + 1) 0; simp only [P]; omega
  | i + 1, k + 1 => by
    have := P_first hg i (k + 1); have := P_first hg (i + 1) k; have := P_first hg i k; have := hg (i + 1) (k + 1)
    simp only [P]; omega
theorem P_ends {g : Nat → Nat → Int} (hg : ∀ i k, 0 ≤ g i k) (i k : Nat) (h : 0 < i ∧ 0 < k) : g 0 0 + g i k ≤ P g i k := by
  obtain ⟨i, rfl⟩ : ∃ j, i = j + 1 := ⟨i - 1, by omega⟩
  obtain ⟨k, rfl⟩ : ∃ j, k = j + 1 := ⟨k - 1, by omega⟩
  have := P_first hg i (k + 1); have := P_first hg (i + 1) k; have := P_first hg i k
  simp only [P]; omega
end Go.Proofs.Ythbglfjajifkoaa
