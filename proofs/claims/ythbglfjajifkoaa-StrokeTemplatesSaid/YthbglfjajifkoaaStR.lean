/-
  Strokes: the strokes and boards that are drawn are fine; the walk of sanity.
-/
import Derived.Test.YthbglfjajifkoaaStQ
namespace Go.Proofs.Ythbglfjajifkoaa
open Go.RowKit Sy Go.Sort

theorem tmod_in {x : Int} (h : 0 ≤ x) : 0 ≤ x.tmod 1001 ∧ x.tmod 1001 ≤ 1000 := by
  rw [Int.tmod_eq_emod_of_nonneg h]; omega
theorem ptOf_in {k : Int} (h0 : 0 ≤ k) (h1 : k ≤ 1000) (p : B2) : inP (ptOf k p) = true := by
  have ha := tmod_in (mul_le_c h0 h1 p.a.toNat_lt).1
  have hb := tmod_in (mul_le_c h0 h1 p.b.toNat_lt).1
  simp only [inP, Bool.and_eq_true, decide_eq_true_eq]; exact ⟨ha, hb⟩
theorem pad_in {k : Int} (h0 : 0 ≤ k) (h1 : k ≤ 1000) : ∀ (n : Nat) (l : List Pt), (∀ p ∈ l, inP p = true) → ∀ p ∈ padTo n k l, inP p = true
  | 0, _, h => h
  | n + 1, l, h => by
    unfold padTo
    split
    · rename_i hl
      refine pad_in h0 h1 n _ fun p hp => ?_
      rcases List.mem_append.1 hp with hp | hp
      · exact h p hp
      · obtain rfl : p = ⟨k * l.length, 1⟩ := by simpa using hp
        have : l.length = 0 ∨ l.length = 1 := by omega
        simp only [inP, Bool.and_eq_true, decide_eq_true_eq]
        rcases this with e | e <;> rw [e] <;> simp <;> omega
    · exact h
theorem pad_len (k : Int) : ∀ (n : Nat) (l : List Pt), 2 ≤ n + l.length → (padTo n k l).length = max l.length 2
  | 0, l, h => by simp only [padTo]; omega
  | n + 1, l, h => by
    unfold padTo
    split
    · rw [pad_len k n _ (by simp; omega)]; simp; omega
    · omega
theorem points_in (l : List B2) (n : Nat) {k : Int} (h0 : 0 ≤ k) (h1 : k ≤ 1000) : ∀ p ∈ points l n k, inP p = true :=
  pad_in h0 h1 2 _ fun p hp => by
    obtain ⟨q, _, rfl⟩ := List.mem_map.1 hp
    exact ptOf_in h0 h1 q
theorem points_len (l : List B2) (n : Nat) (k : Int) : (points l n k).length = max (min n l.length) 2 := by
  unfold points
  rw [pad_len _ _ _ (by omega)]; simp
theorem fine_of_in {l : List Pt} (h : ∀ p ∈ l, inP p = true) (h1 : 0 < l.length) (h2 : l.length ≤ 30) : Fine l := ⟨fun p hp => by
  have := h p hp
  simp only [inP, Bool.and_eq_true, decide_eq_true_eq] at this
  exact ⟨by omega, by omega, by omega, by omega⟩, h2, h1⟩
theorem points_fine (l : List B2) {n : Nat} (hn : n ≤ 30) {k : Int} (h0 : 0 ≤ k) (h1 : k ≤ 1000) : Fine (points l n k) := by
  have := points_len l n k
  exact fine_of_in (points_in l n h0 h1) (by omega) (by omega)
theorem points_valid (l : List B2) {n : Nat} (hn : n ≤ 12) {k : Int} (h0 : 0 ≤ k) (h1 : k ≤ 1000) : validP (points l n k) = true := by
  have := points_len l n k
  have h := points_in l n h0 h1
  simp only [validP, Bool.and_eq_true, decide_eq_true_eq, List.all_eq_true]
  exact ⟨by omega, h⟩
theorem tplOf_fine {k : Nat} (h0 : 0 < k) (h1 : k ≤ 26) (r : Raw) : FineT (tplOf k r) := by
  have e := keyOf_nat r.Key h0 h1
  have := Nat.mod_lt r.Key.toNat h0
  refine ⟨points_fine r.P (by omega) (by omega) (by omega), ?_, ?_⟩ <;> simp only [tplOf] <;> omega
theorem board_fine {l : List Raw} {n k : Nat} (h0 : 0 < k) (h1 : k ≤ 26) : ∀ t ∈ board l n k, FineT t := fun t ht => by
  obtain ⟨r, _, rfl⟩ := List.mem_map.1 ht
  exact tplOf_fine h0 h1 r
theorem board_len (l : List Raw) (n k : Nat) : (board l n k).length ≤ n := by simp [board]; omega

def sa : List Pt := [⟨0, 0⟩, ⟨10, 0⟩]
def sb : List Pt := [⟨0, 0⟩, ⟨5, 0⟩, ⟨10, 0⟩]
def sc : List Pt := [⟨0, 3⟩, ⟨10, 4⟩]
def sd : List Pt := [⟨1000, 1000⟩, ⟨1000, 1000⟩]
def se : List Pt := [⟨32, 0⟩, ⟨42, 0⟩]
def sBoard : List Tpl := [⟨99, sc⟩, ⟨97, sd⟩, ⟨98, se⟩]
def sWant : List Ch := [⟨97, 249⟩, ⟨98, 4⟩, ⟨99, 0⟩]
theorem R_ab : R (gapsOf sa sb) sa.length sb.length = 5 := by simp [R, gapsOf, gap, huge, sa, sb] <;> omega
theorem R_ac : R (gapsOf sa sc) sa.length sc.length = 7 := by simp [R, gapsOf, gap, huge, sa, sc] <;> omega
theorem R_ad : R (gapsOf sa sd) sa.length sd.length = 3990 := by simp [R, gapsOf, gap, huge, sa, sd] <;> omega
theorem R_ae : R (gapsOf sa se) sa.length se.length = 64 := by simp [R, gapsOf, gap, huge, sa, se] <;> omega
theorem kv_s : kvOf sBoard sa = [(99, 0), (97, 249), (98, 4)] := by
  have c1 : costM sa sc = 0 := by unfold costM Dm; rw [R_ac]; rfl
  have c2 : costM sa sd = 249 := by unfold costM Dm; rw [R_ad]; rfl
  have c3 : costM sa se = 4 := by unfold costM Dm; rw [R_ae]; rfl
  simp [kvOf, sBoard, stepM, aget, aset, c1, c2, c3]
theorem match_s {zs : List Ch} {e : Int} (h : MatchRel sBoard sa zs e) : zs = sWant ∧ e = 0 := by
  rw [MatchRel, if_pos ⟨by decide, by decide⟩, kv_s] at h
  obtain ⟨he, ys, hyp, _, hzp, hzw⟩ := h
  refine ⟨?_, he⟩
  have hl : ys.length = 3 := hyp.length_eq
  rw [List.take_of_length_le (by omega)] at hzp
  have hp := hzp.trans hyp
  have hw : ([(99, 0), (97, 249), (98, 4)].map mkCh).Perm sWant := by decide
  refine List.Perm.eq_of_pairwise (le := fun x y => ltOf byKey y x = false) ?_ hzw (by decide) (hp.trans hw)
  intro x y hx hy h1 h2
  have hx := (hp.trans hw).mem_iff.1 hx
  rw [byKey_lt] at h1 h2
  simp only [decide_eq_false_iff_not] at h1 h2
  have e : x.Key = y.Key := UInt8.toNat_inj.1 (by omega)
  simp only [sWant, List.mem_cons, List.not_mem_nil, or_false] at hx hy
  rcases hx with rfl | rfl | rfl <;> rcases hy with rfl | rfl | rfl <;> first | rfl | (revert e; decide)
end Go.Proofs.Ythbglfjajifkoaa
