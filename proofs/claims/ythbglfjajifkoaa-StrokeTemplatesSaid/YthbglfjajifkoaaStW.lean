/-
  Strokes, plain laws: walks; moved, mirrored, reversed and doubled strokes.
-/
import Derived.Test.YthbglfjajifkoaaStS
namespace Go.Proofs.Ythbglfjajifkoaa
open Go.RowKit Sy Go.Sort

theorem gapsOf_at {a b : List Pt} {i k : Nat} (hi : i < a.length) (hk : k < b.length) : gapsOf a b i k = gap a[i] b[k] := by unfold gapsOf; rw [dif_pos ⟨hi, hk⟩]

/-- A walk through the table, with its sum. -/
inductive V (g : Nat → Nat → Int) (i0 k0 : Nat) : Nat → Nat → Int → Prop
  | start : V g i0 k0 i0 k0 (g i0 k0)
  | down {i k : Nat} {s : Int} (h : V g i0 k0 i k s) : V g i0 k0 (i + 1) k (s + g (i + 1) k)
  | right {i k : Nat} {s : Int} (h : V g i0 k0 i k s) : V g i0 k0 i (k + 1) (s + g i (k + 1))
  | diag {i k : Nat} {s : Int} (h : V g i0 k0 i k s) : V g i0 k0 (i + 1) (k + 1) (s + g (i + 1) (k + 1))

theorem P_down (g : Nat → Nat → Int) (i k : Nat) : P g (i + 1) k ≤ P g i k + g (i + 1) k := by
  cases k with
  | zero => simp only [P]; omega
  | succ k => simp only [P]; omega
theorem P_right (g : Nat → Nat → Int) (i k : Nat) : P g i (k + 1) ≤ P g i k + g i (k + 1) := by
  cases i with
  | zero => simp only [P]; omega
  | succ i => simp only [P]; omega
theorem P_dg (g : Nat → Nat → Int) (i k : Nat) : P g (i + 1) (k + 1) ≤ P g i k + g (i + 1) (k + 1) := by simp only [P]; omega
theorem V.le {g : Nat → Nat → Int} {i k : Nat} {s : Int} (h : V g 0 0 i k s) : P g i k ≤ s := by
  induction h with
  | start => simp only [P]; omega
  | @down i k s _ ih => have := P_down g i k; omega
  | @right i k s _ ih => have := P_right g i k; omega
  | @diag i k s _ ih => have := P_dg g i k; omega
theorem V.ofP (g : Nat → Nat → Int) : ∀ i k, V g 0 0 i k (P g i k)
  | 0, 0 => by simp only [P]; exact .start
  | 0, k + 1 => by simp only [P]; exact .right (V.ofP g 0 k)
  | i + 1, 0 => by simp only [P]; exact .down (V.ofP g i 0)
  | i + 1, k + 1 => by
    simp only [P]
    rcases Int.le_total (P g i (k + 1)) (P g (i + 1) k) with h1 | h1
    · rw [Int.min_eq_left h1]
      rcases Int.le_total (P g i (k + 1)) (P g i k) with h2 | h2
      · rw [Int.min_eq_left h2]; exact .down (V.ofP g i (k + 1))
      · rw [Int.min_eq_right h2]; exact .diag (V.ofP g i k)
    · rw [Int.min_eq_right h1]
      rcases Int.le_total (P g (i + 1) k) (P g i k) with h2 | h2
      · rw [Int.min_eq_left h2]; exact .right (V.ofP g (i + 1) k)
      · rw [Int.min_eq_right h2]; exact .diag (V.ofP g i k)
theorem V.front {g : Nat → Nat → Int} {i0 k0 i1 k1 i k : Nat} {s : Int} (hst : V g i0 k0 i1 k1 (g i0 k0 + g i1 k1)) (h : V g i1 k1 i k s) : V g i0 k0 i k (g i0 k0 + s) := by
  induction h with
  | start => exact hst
  | down _ ih => rw [← Int.add_assoc]; exact .down ih
  | right _ ih => rw [← Int.add_assoc]; exact .right ih
  | diag _ ih => rw [← Int.add_assoc]; exact .diag ih
theorem V.mono {g : Nat → Nat → Int} {i0 k0 i k : Nat} {s : Int} (h : V g i0 k0 i k s) : i0 ≤ i ∧ k0 ≤ k := by
  induction h with
  | start => exact ⟨Nat.le_refl _, Nat.le_refl _⟩
  | down _ ih => exact ⟨by omega, ih.2⟩
  | right _ ih => exact ⟨ih.1, by omega⟩
  | diag _ ih => exact ⟨by omega, by omega⟩
theorem V.back {g : Nat → Nat → Int} {m n i0 k0 i k : Nat} {s : Int} (h : V g i0 k0 i k s) (hi : i ≤ m) (hk : k ≤ n) : V (fun x y => g (m - x) (n - y)) (m - i) (n - k) (m - i0) (n - k0) s := by
  induction h with
  | start =>
    have := V.start (g := fun x y => g (m - x) (n - y)) (i0 := m - i0) (k0 := n - k0)
    simp only [show m - (m - i0) = i0 by omega, show n - (n - k0) = k0 by omega] at this
    exact this
  | @down i k s h ih =>
    have ih := ih (by omega) hk
    have st := V.down (V.start (g := fun x y => g (m - x) (n - y)) (i0 := m - (i + 1)) (k0 := n - k))
    rw [show m - (i + 1) + 1 = m - i by omega] at st
    have := V.front st ih
    simp only [show m - (m - (i + 1)) = i + 1 by omega, show n - (n - k) = k by omega] at this
    rw [Int.add_comm]; exact this
  | @right i k s h ih =>
    have ih := ih hi (by omega)
    have st := V.right (V.start (g := fun x y => g (m - x) (n - y)) (i0 := m - i) (k0 := n - (k + 1)))
    rw [show n - (k + 1) + 1 = n - k by omega] at st
    have := V.front st ih
    simp only [show m - (m - i) = i by omega, show n - (n - (k + 1)) = k + 1 by omega] at this
    rw [Int.add_comm]; exact this
  | @diag i k s h ih =>
    have ih := ih (by omega) (by omega)
    have st := V.diag (V.start (g := fun x y => g (m - x) (n - y)) (i0 := m - (i + 1)) (k0 := n - (k + 1)))
    rw [show n - (k + 1) + 1 = n - k by omega, show m - (i + 1) + 1 = m - i by omega] at st
    have := V.front st ih
    simp only [show m - (m - (i + 1)) = i + 1 by omega, show n - (n - (k + 1)) = k + 1 by omega] at this
    rw [Int.add_comm]; exact this
theorem P_back_le (g : Nat → Nat → Int) (m n : Nat) : P (fun x y => g (m - x) (n - y)) m n ≤ P g m n := by
  have h := (V.ofP g m n).back (m := m) (n := n) (Nat.le_refl _) (Nat.le_refl _)
  simp only [Nat.sub_self, Nat.sub_zero] at h
  exact h.le
theorem P_congr {g g' : Nat → Nat → Int} : ∀ (i k : Nat), (∀ x y, x ≤ i → y ≤ k → g x y = g' x y) → P g i k = P g' i k
  | 0, 0, h => by simp only [P]; exact h 0 0 (Nat.le_refl _) (Nat.le_refl _)
  | 0, k + 1, h => by simp only [P]; rw [P_congr 0 k fun x y hx hy => h x y hx (by omega), h 0 (k + 1) (Nat.le_refl _) (Nat.le_refl _)]
  | i + 1, 0, h => by simp only [P]; rw [P_congr i 0 fun x y hx hy => h x y (by omega) hy, h (i + 1) 0 (Nat.le_refl _) (Nat.le_refl _)]
  | i + 1, k + 1, h => by
    simp only [P]
    rw [P_congr i (k + 1) fun x y hx hy => h x y (by omega) hy, P_congr (i + 1) k fun x y hx hy => h x y hx (by omega), P_congr i k fun x y hx hy => h x y (by omega) (by omega), h (i + 1) (k + 1) (Nat.le_refl _) (Nat.le_refl _)]
theorem P_back (g : Nat → Nat → Int) (m n : Nat) : P (fun x y => g (m - x) (n - y)) m n = P g m n := by
  refine Int.le_antisymm (P_back_le g m n) ?_
  have h := P_back_le (fun x y => g (m - x) (n - y)) m n
  rw [P_congr (g' := g) m n fun x y hx hy => by simp only [show m - (m - x) = x by omega, show n - (n - y) = y by omega]] at h
  exact h
theorem P_two (g : Nat → Nat → Int) : ∀ i k, P (fun x y => 2 * g x y) i k = 2 * P g i k
  | 0, 0 => by simp only [P]
  | 0, k + 1 => by simp only [P]; rw [P_two g 0 k]; omega
  | i + 1, 0 => by simp only [P]; rw [P_two g i 0]; omega
  | i + 1, k + 1 => by simp only [P]; rw [P_two g i (k + 1), P_two g (i + 1) k, P_two g i k]; omega

/-- syllabarylaw22.changed -/
def chgAt (how : Nat) (c : Pt) (l : List Pt) (i : Nat) : Pt :=
  if how = 0 then ⟨l[i]!.X + c.X, l[i]!.Y + c.Y⟩ else if how = 1 then ⟨500 - l[i]!.X, l[i]!.Y⟩ else if how = 2 then ⟨l[i]!.Y, l[i]!.X⟩ else l[l.length - 1 - i]!
def chg (how : Nat) (c : Pt) (l : List Pt) : List Pt := (List.range l.length).map (chgAt how c l)
theorem chg_len (how : Nat) (c : Pt) (l : List Pt) : (chg how c l).length = l.length := by simp [chg]
theorem chg_get (how : Nat) (c : Pt) (l : List Pt) {i : Nat} (h : i < (chg how c l).length) : (chg how c l)[i] = chgAt how c l i := by simp [chg]
theorem chg_Dm {how : Nat} {c : Pt} {a b : List Pt} (ha : Fine a) (hb : Fine b) (fa : Fine (chg how c a)) (fb : Fine (chg how c b)) : Dm (chg how c a) (chg how c b) = Dm a b := by
  have pa := ha.pos
  have pb := hb.pos
  rw [Dm_P ha hb, Dm_P fa fb, chg_len, chg_len]
  by_cases h3 : how = 0 ∨ how = 1 ∨ how = 2
  · refine P_congr _ _ fun x y hx hy => ?_
    have h1 : x < a.length := by omega
    have h2 : y < b.length := by omega
    rw [gapsOf_at (by rw [chg_len]; exact h1) (by rw [chg_len]; exact h2), gapsOf_at h1 h2, chg_get, chg_get]
    unfold chgAt
    rw [getElem!_pos a x h1, getElem!_pos b y h2]
    rcases h3 with h3 | h3 | h3
    · simp only [h3, if_true]; unfold gap; simp only; omega
    · simp only [h3, if_true, Nat.one_ne_zero, if_false]; unfold gap; simp only; omega
    · simp only [h3, if_true, show ¬ (2 = 0) by omega, show ¬ (2 = 1) by omega, if_false]; unfold gap; simp only; omega
  · rw [← P_back (gapsOf a b) (a.length - 1) (b.length - 1)]
    refine P_congr _ _ fun x y hx hy => ?_
    have h1 : x < a.length := by omega
    have h2 : y < b.length := by omega
    have h1' : a.length - 1 - x < a.length := by omega
    have h2' : b.length - 1 - y < b.length := by omega
    rw [gapsOf_at (by rw [chg_len]; exact h1) (by rw [chg_len]; exact h2), gapsOf_at h1' h2', chg_get, chg_get]
    unfold chgAt
    rw [if_neg (by omega), if_neg (by omega), if_neg (by omega), if_neg (by omega), if_neg (by omega), if_neg (by omega), getElem!_pos a _ h1', getElem!_pos b _ h2']

/-- A stroke of twice the size. -/
def dbl (p : Pt) : Pt := ⟨2 * p.X, 2 * p.Y⟩
theorem dbl_Dm {a b : List Pt} (ha : Fine a) (hb : Fine b) (fa : Fine (a.map dbl)) (fb : Fine (b.map dbl)) : Dm (a.map dbl) (b.map dbl) = 2 * Dm a b := by
  have pa := ha.pos
  have pb := hb.pos
  rw [Dm_P ha hb, Dm_P fa fb, List.length_map, List.length_map, ← P_two]
  refine P_congr _ _ fun x y hx hy => ?_
  have h1 : x < a.length := by omega
  have h2 : y < b.length := by omega
  rw [gapsOf_at (by simpa using h1) (by simpa using h2), gapsOf_at h1 h2, List.getElem_map, List.getElem_map]
  unfold gap dbl; simp only; omega
end Go.Proofs.Ythbglfjajifkoaa
