/-
  Putting an element into a sorted list: the form of the references' loops.
-/
import Derived.Test.YtgnpjhellmfhoaaSort
namespace Go.Proofs.Ytgnpjhellmfhoaa

section
variable {α : Type} (lt eq : α → Bool) (upd : α → α) (s : α)
def insG : Bool → List α → List α
  | d, [] => if d = true then [] else [s]
  | d, q :: r => (if (!d && lt q) = true then [s] else []) ++ (if eq q = true then upd q else q) :: insG ((d || lt q) || eq q) r
def ins : List α → List α
  | [] => [s]
  | q :: r => if lt q = true then s :: q :: r else if eq q = true then upd q :: r else q :: ins r
variable {lt eq upd s} {R : α → α → Prop}
theorem insG_true (h3 : ∀ z, lt z = true → eq z = false) : ∀ {L : List α}, (∀ q ∈ L, lt q = true) → insG lt eq upd s true L = L
  | [], _ => rfl
  | q :: r, h => by
    have hq := h q (List.mem_cons_self ..)
    rw [insG, h3 q hq]
    simp [insG_true h3 (fun z hz => h z (List.mem_cons_of_mem _ hz))]
theorem insG_ins (h1 : ∀ q z, lt q = true → R q z → lt z = true) (h2 : ∀ q z, eq q = true → R q z → lt z = true) (h3 : ∀ z, lt z = true → eq z = false) : ∀ {L : List α}, L.Pairwise R → insG lt eq upd s false L = ins lt eq upd s L
  | [], _ => rfl
  | q :: r, h => by
    have h' := List.pairwise_cons.1 h
    rw [insG, ins]
    by_cases hl : lt q = true
    · rw [if_pos hl, hl, h3 q hl]
      simp [insG_true h3 (fun z hz => h1 q z hl (h'.1 z hz))]
    · rw [if_neg hl]
      by_cases he : eq q = true
      · rw [if_pos he]
        simp [hl, he, insG_true h3 (fun z hz => h2 q z he (h'.1 z hz))]
      · rw [if_neg he]
        have hl' : lt q = false := by simpa using hl
        have he' : eq q = false := by simpa using he
        simp [hl', he', insG_ins h1 h2 h3 h'.2]
theorem ins_mem {y : α} : ∀ {L : List α}, y ∈ ins lt eq upd s L → y = s ∨ y ∈ L ∨ ∃ z ∈ L, eq z = true ∧ y = upd z
  | [], h => by simp [ins] at h; exact .inl h
  | q :: r, h => by
    rw [ins] at h
    split at h
    · rcases List.mem_cons.1 h with h | h
      · exact .inl h
      · exact .inr (.inl h)
    · split at h
      · rename_i he
        rcases List.mem_cons.1 h with h | h
        · exact .inr (.inr ⟨q, List.mem_cons_self .., he, h⟩)
        · exact .inr (.inl (List.mem_cons_of_mem _ h))
      · rcases List.mem_cons.1 h with h | h
        · exact .inr (.inl (by rw [h]; exact List.mem_cons_self ..))
        · rcases ins_mem h with h | h | ⟨z, hz, he, hy⟩
          · exact .inl h
          · exact .inr (.inl (List.mem_cons_of_mem _ h))
          · exact .inr (.inr ⟨z, List.mem_cons_of_mem _ hz, he, hy⟩)
theorem ins_sortedM (h1 : ∀ q, lt q = true → R s q) (h3 : ∀ q z, eq z = true → R q z → R q (upd z)) (h4 : ∀ q z, eq q = true → R q z → R (upd q) z) (ht : ∀ a b c, R a b → R b c → R a c) : ∀ {L : List α}, (∀ q ∈ L, lt q = false → eq q = false → R q s) → L.Pairwise R → (ins lt eq upd s L).Pairwise R
  | [], _, _ => by simp [ins]
  | q :: r, h2, h => by
    have h' := List.pairwise_cons.1 h
    rw [ins]
    split
    · rename_i hl
      exact List.pairwise_cons.2 ⟨fun z hz => by
        rcases List.mem_cons.1 hz with rfl | hz
        · exact h1 _ hl
        · exact ht _ _ _ (h1 _ hl) (h'.1 z hz), h⟩
    · rename_i hl
      split
      · rename_i he
        exact List.pairwise_cons.2 ⟨fun z hz => h4 q z he (h'.1 z hz), h'.2⟩
      · rename_i he
        refine List.pairwise_cons.2 ⟨fun z hz => ?_, ins_sortedM h1 h3 h4 ht (fun z hz => h2 z (List.mem_cons_of_mem _ hz)) h'.2⟩
        rcases ins_mem hz with rfl | hz | ⟨y, hy, hye, rfl⟩
        · exact h2 q (List.mem_cons_self ..) (by simpa using hl) (by simpa using he)
        · exact h'.1 z hz
        · exact h3 q y hye (h'.1 y hy)
theorem ins_sorted (h1 : ∀ q, lt q = true → R s q) (h2 : ∀ q, lt q = false → eq q = false → R q s) (h3 : ∀ q z, eq z = true → R q z → R q (upd z)) (h4 : ∀ q z, eq q = true → R q z → R (upd q) z) (ht : ∀ a b c, R a b → R b c → R a c) {L : List α} (h : L.Pairwise R) : (ins lt eq upd s L).Pairwise R :=
  ins_sortedM h1 h3 h4 ht (fun q _ => h2 q) h
theorem ins_len : ∀ {L : List α}, L.length ≤ (ins lt eq upd s L).length ∧ (ins lt eq upd s L).length ≤ L.length + 1
  | [] => by simp [ins]
  | q :: r => by
    have ih := ins_len (L := r)
    rw [ins]
    split
    · simp
    · split
      · simp
      · simp; omega
theorem ins_has {x : α} (hx : eq x = false) : ∀ {L : List α}, x ∈ L → x ∈ ins lt eq upd s L
  | [], h => by cases h
  | q :: r, h => by
    rw [ins]
    split
    · exact List.mem_cons_of_mem _ h
    · split
      · rename_i he
        rcases List.mem_cons.1 h with rfl | h
        · rw [hx] at he; cases he
        · exact List.mem_cons_of_mem _ h
      · rcases List.mem_cons.1 h with rfl | h
        · exact List.mem_cons_self ..
        · exact List.mem_cons_of_mem _ (ins_has hx h)
theorem ins_self (he : ∀ x, eq x = false) : ∀ {L : List α}, s ∈ ins lt eq upd s L
  | [] => by simp [ins]
  | q :: r => by
    rw [ins, he q]
    split
    · exact List.mem_cons_self ..
    · rw [if_neg (by decide)]; exact List.mem_cons_of_mem _ (ins_self he)
end
end Go.Proofs.Ytgnpjhellmfhoaa
