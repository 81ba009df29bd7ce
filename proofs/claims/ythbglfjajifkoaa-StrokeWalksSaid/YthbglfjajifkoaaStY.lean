/-
  Strokes, plain laws: a point that is drawn twice.
-/
import Derived.Test.YthbglfjajifkoaaStX
namespace Go.Proofs.Ythbglfjajifkoaa
open Go.RowKit Sy Go.Sort

/-- The points behind n come one place later. -/
def tw (n i : Nat) : Nat := if i ≤ n then i else i - 1
theorem tw_ge {g : Nat → Nat → Int} (hg : ∀ i k, 0 ≤ g i k) (n : Nat) : ∀ i k, P g (tw n i) k ≤ P (fun i k => g (tw n i) k) i k
  | 0, 0 => by simp [P, tw]
  | 0, k + 1 => by
    have := tw_ge hg n 0 k
    have e : tw n 0 = 0 := by simp [tw]
    rw [e] at this
    simp only [P, e]; omega
  | i + 1, 0 => by
    have h := tw_ge hg n i 0
    by_cases hi : i + 1 ≤ n
    · have e1 : tw n (i + 1) = i + 1 := by simp [tw, hi]
      have e2 : tw n i = i := by simp [tw]; omega
      simp only [P, e1]
      rw [e2] at h; omega
    · by_cases hn : i = n
      · have e1 : tw n (i + 1) = i := by simp [tw]; omega
        have e2 : tw n i = i := by simp [tw]; omega
        rw [e2] at h
        have := hg i 0
        simp only [P, e1]; omega
      · have e1 : tw n (i + 1) = i := by simp [tw]; omega
        have e2 : tw n i = i - 1 := by simp [tw]; omega
        rw [e2] at h
        obtain ⟨j, rfl⟩ : ∃ j, i = j + 1 := ⟨i - 1, by omega⟩
        simp only [Nat.add_sub_cancel] at h
        simp only [P, e1] at h ⊢
        have e3 : tw n (j + 1) = j := by simp [tw]; omega
        simp only [e3] at h ⊢; omega
  | i + 1, k + 1 => by
    have h1 := tw_ge hg n i (k + 1)
    have h2 := tw_ge hg n (i + 1) k
    have h3 := tw_ge hg n i k
    by_cases hi : i + 1 ≤ n
    · have e1 : tw n (i + 1) = i + 1 := by simp [tw, hi]
      have e2 : tw n i = i := by simp [tw]; omega
      rw [e1] at h2 ⊢; rw [e2] at h1 h3
      simp only [P, e1] at h1 h2 h3 ⊢; omega
    · by_cases hn : i = n
      · have e1 : tw n (i + 1) = i := by simp [tw]; omega
        have e2 : tw n i = i := by simp [tw]; omega
        have p1 := P_right g i k
        have p2 := hg i (k + 1)
        rw [e1] at h2; rw [e2] at h1 h3
        rw [e1]
        have e3 : P (fun i k => g (tw n i) k) (i + 1) (k + 1) = min (min (P (fun i k => g (tw n i) k) i (k + 1)) (P (fun i k => g (tw n i) k) (i + 1) k)) (P (fun i k => g (tw n i) k) i k) + g i (k + 1) := by simp only [P, e1]
        rw [e3]; omega
      · obtain ⟨j, rfl⟩ : ∃ j, i = j + 1 := ⟨i - 1, by omega⟩
        have e1 : tw n (j + 1 + 1) = j + 1 := by simp [tw]; omega
        have e2 : tw n (j + 1) = j := by simp [tw]; omega
        rw [e1] at h2; rw [e2] at h1 h3
        rw [e1]
        have e3 : P (fun i k => g (tw n i) k) (j + 1 + 1) (k + 1) = min (min (P (fun i k => g (tw n i) k) (j + 1) (k + 1)) (P (fun i k => g (tw n i) k) (j + 1 + 1) k)) (P (fun i k => g (tw n i) k) (j + 1) k) + g (j + 1) (k + 1) := by simp only [P, e1]
        have e4 : P g (j + 1) (k + 1) = min (min (P g j (k + 1)) (P g (j + 1) k)) (P g j k) + g (j + 1) (k + 1) := by simp only [P]
        rw [e3, e4]; omega
theorem tw_same (g : Nat → Nat → Int) (n : Nat) (i k : Nat) (hi : i ≤ n) : P (fun i k => g (tw n i) k) i k = P g i k :=
  P_congr i k fun x y hx _ => by simp only [tw, if_pos (show x ≤ n by omega)]
theorem tw_le {g : Nat → Nat → Int} {far : Int} (n : Nat) (hf : ∀ k, g n k ≤ far) : ∀ i k, P (fun i k => g (tw n i) k) (n + i + 1) k ≤ P g (n + i) k + far
  | 0, k => by
    have h := P_down (fun i k => g (tw n i) k) n k
    rw [tw_same g n n k (Nat.le_refl _)] at h
    have e : tw n (n + 1) = n := by simp [tw]
    simp only [e] at h
    have := hf k
    simp only [Nat.add_zero]; omega
  | i + 1, 0 => by
    have h := tw_le n hf i 0
    have e : tw n (n + i + 1 + 1) = n + i + 1 := by simp [tw]; omega
    have e1 : P (fun i k => g (tw n i) k) (n + (i + 1) + 1) 0 = P (fun i k => g (tw n i) k) (n + i + 1) 0 + g (n + i + 1) 0 := by rw [show n + (i + 1) + 1 = n + i + 1 + 1 by omega]; simp only [P, e]
    have e2 : P g (n + (i + 1)) 0 = P g (n + i) 0 + g (n + i + 1) 0 := by rw [show n + (i + 1) = n + i + 1 by omega]; simp only [P]
    rw [e1, e2]; omega
  | i + 1, k + 1 => by
    have h1 := tw_le n hf i (k + 1)
    have h2 := tw_le n hf (i + 1) k
    have h3 := tw_le n hf i k
    have e : tw n (n + i + 1 + 1) = n + i + 1 := by simp [tw]; omega
    rw [show n + (i + 1) + 1 = n + i + 1 + 1 by omega, show n + (i + 1) = n + i + 1 by omega] at h2 ⊢
    have e1 : P (fun i k => g (tw n i) k) (n + i + 1 + 1) (k + 1) = min (min (P (fun i k => g (tw n i) k) (n + i + 1) (k + 1)) (P (fun i k => g (tw n i) k) (n + i + 1 + 1) k)) (P (fun i k => g (tw n i) k) (n + i + 1) k) + g (n + i + 1) (k + 1) := by simp only [P, e]
    have e2 : P g (n + i + 1) (k + 1) = min (min (P g (n + i) (k + 1)) (P g (n + i + 1) k)) (P g (n + i) k) + g (n + i + 1) (k + 1) := by simp only [P]
    rw [e1, e2]; omega

def twice (a : List Pt) (n : Nat) : List Pt := a.take (n + 1) ++ a.drop n
theorem twice_len (a : List Pt) {n : Nat} (h : n < a.length) : (twice a n).length = a.length + 1 := by simp [twice]; omega
theorem twice_mem {a : List Pt} {n : Nat} {p : Pt} (h : p ∈ twice a n) : p ∈ a := by
  rcases List.mem_append.1 h with h | h
  · exact List.mem_of_mem_take h
  · exact List.mem_of_mem_drop h
theorem twice_fine {a : List Pt} {n : Nat} (fa : Fine a) (h : n < a.length) (hl : a.length ≤ 29) : Fine (twice a n) :=
  ⟨fun p hp => fa.bd p (twice_mem hp), by rw [twice_len a h]; omega, by rw [twice_len a h]; omega⟩
theorem twice_get {a : List Pt} {n i : Nat} (h : n < a.length) (hi : i < (twice a n).length) (hj : tw n i < a.length) : (twice a n)[i] = a[tw n i] := by
  have hi' : i < (a.take (n + 1) ++ a.drop n).length := hi
  refine Eq.trans (b := (a.take (n + 1) ++ a.drop n)[i]'hi') rfl ?_
  by_cases hin : i ≤ n
  · rw [List.getElem_append_left (by rw [List.length_take]; omega), List.getElem_take]
    congr 1; simp [tw, hin]
  · rw [List.getElem_append_right (by rw [List.length_take]; omega), List.getElem_drop]
    congr 1; rw [List.length_take]; unfold tw; rw [if_neg hin]; omega
theorem twice_P {a b : List Pt} {n : Nat} (h : n < a.length) (ha : 0 < a.length) (hb : 0 < b.length) : P (gapsOf (twice a n) b) a.length (b.length - 1) = P (fun i k => gapsOf a b (tw n i) k) a.length (b.length - 1) := by
  refine P_congr _ _ fun x y hx hy => ?_
  have h1 : tw n x < a.length := by unfold tw; split <;> omega
  have h2 : y < b.length := by omega
  have h3 : x < (twice a n).length := by rw [twice_len a h]; omega
  show gapsOf (twice a n) b x y = gapsOf a b (tw n x) y
  rw [gapsOf_at h3 h2, gapsOf_at h1 h2, twice_get h h3 h1]
theorem twice_Dm {a b : List Pt} {n : Nat} {far : Int} (fa : Fine a) (fb : Fine b) (h : n < a.length) (hl : a.length ≤ 29) (hf : ∀ k, k < b.length → gapsOf a b n k ≤ far) (h0 : 0 ≤ far) :
    Dm a b ≤ Dm (twice a n) b ∧ Dm (twice a n) b ≤ Dm a b + far := by
  have ft := twice_fine fa h hl
  have pa := fa.pos
  have pb := fb.pos
  rw [Dm_P fa fb, Dm_P ft fb, twice_len a h, Nat.add_sub_cancel, twice_P h pa pb]
  constructor
  · have := tw_ge (fun i k => (gapsOf_small fa fb i k).1) n a.length (b.length - 1)
    rw [show tw n a.length = a.length - 1 by unfold tw; rw [if_neg (by omega)]] at this
    exact this
  · have hf' : ∀ k, gapsOf a b n k ≤ far := fun k => by
      by_cases hk : k < b.length
      · exact hf k hk
      · unfold gapsOf; rw [dif_neg (fun h => hk h.2)]; exact h0
    have := tw_le n hf' (a.length - 1 - n) (b.length - 1)
    rw [show n + (a.length - 1 - n) + 1 = a.length by omega, show n + (a.length - 1 - n) = a.length - 1 by omega] at this
    exact this
end Go.Proofs.Ythbglfjajifkoaa
