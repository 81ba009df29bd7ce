import Derived.WalkKit
import Derived.OrdersHeld
import Derived.Deep.RegionHeld3

/-
  A layer over the walk: frames as lists of live slots (Fr), immutable memory as a snapshot (Imm), the call's own objects as a list of assertions (St); regions by index lists (LW) and by a plan (PW).
-/
namespace Go.Proofs.Ytgbdfgifgngijaa.Sy
open Go.RowKit

/-! ### Memory that does not change -/
abbrev Mem := Nat → Option Obj
def memOf (w : World) : Mem := fun b => w.heap[b]?
def Imm (μ : Mem) (w : World) : Prop := ∀ b o, μ b = some o → w.heap[b]? = some o
def Mem.cell (μ : Mem) (b off : Nat) : Option Value :=
  match μ b with
  | some (.cells c _ _) => c[off]?
  | _ => none
structure Mem.ext (n : Nat) (μ μ' : Mem) : Prop where
  le : ∀ b o, μ b = some o → μ' b = some o
  old : ∀ b, b < n → μ' b = μ b
theorem Mem.ext.refl (n : Nat) (μ : Mem) : Mem.ext n μ μ := ⟨fun _ _ h => h, fun _ _ => rfl⟩
theorem Mem.ext.trans {n : Nat} {a b c : Mem} (h : Mem.ext n a b) (k : Mem.ext n b c) : Mem.ext n a c :=
  ⟨fun x o e => k.le x o (h.le x o e), fun x hx => (k.old x hx).trans (h.old x hx)⟩
theorem Mem.ext.mono {n n' : Nat} {a b : Mem} (h : Mem.ext n a b) (hn : n' ≤ n) : Mem.ext n' a b := ⟨h.le, fun x hx => h.old x (Nat.lt_of_lt_of_le hx hn)⟩

theorem cell_of_heap {w : World} {b : Nat} {c : Array Value} {t : TypeId} {f : Nat × Nat} (h : w.heap[b]? = some (.cells c t f)) (off : Nat) :
    w.cell? ⟨b, off, none⟩ = c[off]? := by simp [World.cell?, h]
theorem Imm.cell {μ : Mem} {w : World} (h : Imm μ w) {b off : Nat} {v : Value} (hc : μ.cell b off = some v) : w.cell? ⟨b, off, none⟩ = some v := by
  unfold Mem.cell at hc
  split at hc
  · rename_i c t f e
    rw [cell_of_heap (h b _ e)]; exact hc
  · cases hc
theorem Mem.ext.cell {n : Nat} {μ μ' : Mem} (h : Mem.ext n μ μ') {b off : Nat} {v : Value} (hc : μ.cell b off = some v) : μ'.cell b off = some v := by
  unfold Mem.cell at hc ⊢
  split at hc
  · rename_i c t f e
    rw [h.le b _ e]; exact hc
  · cases hc

/-! ### What a call may do to the world -/
structure Bel (B : Nat) (w w' : World) : Prop extends Below B w w' where
  drawn : w.drawn ≤ w'.drawn
theorem Bel.refl (B : Nat) (w : World) : Bel B w w := ⟨Below.refl B w, Nat.le_refl _⟩
theorem Bel.trans {B : Nat} {a b c : World} (h : Bel B a b) (k : Bel B b c) : Bel B a c := ⟨h.toBelow.trans k.toBelow, Nat.le_trans h.drawn k.drawn⟩
theorem Bel.mono {B B' : Nat} {w w' : World} (h : Bel B w w') (hB : B' ≤ B) : Bel B' w w' := ⟨h.toBelow.mono hB, h.drawn⟩
theorem Bel.drew {B : Nat} {a w : World} (h : Bel B a w) : Bel B a w.drew := ⟨h.toBelow.drew, Nat.le_trans h.drawn (Nat.le_succ _)⟩
theorem Bel.alloc {B : Nat} {a w : World} (h : Bel B a w) (hB : B ≤ w.heap.size) (o : Obj) : Bel B a (w.alloc o) := ⟨h.toBelow.alloc hB o, h.drawn⟩
/-- What the call has laid lies behind what was there. -/
theorem Bel.split {w w' : World} (h : Bel w.heap.size w w') : w' = { w with heap := w.heap ++ w'.heap.extract w.heap.size w'.heap.size, drawn := w.drawn + (w'.drawn - w.drawn) } := by
  have h1 := h.os; have h2 := h.tape; have h3 := h.output; have h4 := h.size; have h5 := h.block; have h6 := h.drawn
  obtain ⟨hp, tp, dr, os, ou⟩ := w'
  simp only at h1 h2 h3 h4 h5 h6
  subst h1; subst h2; subst h3
  simp only [World.mk.injEq, true_and, and_true]
  refine ⟨Array.ext_getElem? fun i => ?_, by omega⟩
  by_cases hi : i < w.heap.size
  · rw [Array.getElem?_append_left hi]; exact h5 i hi
  · rw [Array.getElem?_append_right (by omega)]
    rw [Array.getElem?_extract]
    split
    · congr 1; omega
    · rw [Array.getElem?_eq_none]; omega

/-! ### The call's own objects -/
structure Own where
  φ : List Nat → Mem → Prop
  loc : ∀ bs h h', φ bs h → (∀ b ∈ bs, h' b = h b) → φ bs h'

def Seps : List Own → List Nat → Mem → Prop
  | [], bs, _ => bs = []
  | e :: L, bs, h => ∃ b1 b2, bs = b1 ++ b2 ∧ e.φ b1 h ∧ Seps L b2 h

theorem Seps.loc : ∀ {L : List Own} {bs : List Nat} {h h' : Mem}, Seps L bs h → (∀ b ∈ bs, h' b = h b) → Seps L bs h'
  | [], _, _, _, hs, _ => hs
  | e :: _, _, h, h', ⟨b1, b2, rfl, h1, h2⟩, hb =>
    ⟨b1, b2, rfl, e.loc b1 h h' h1 fun b hm => hb b (List.mem_append_left _ hm), Seps.loc h2 fun b hm => hb b (List.mem_append_right _ hm)⟩

/-- The k-th assertion, by itself; and what the rest says. -/
theorem Seps.focus : ∀ {L : List Own} {k : Nat} {e : Own} {bs : List Nat} {h : Mem}, Seps L bs h → L[k]? = some e →
    ∃ b1 b2 b3, bs = b1 ++ (b2 ++ b3) ∧ e.φ b2 h ∧ ∀ e' b2' h', e'.φ b2' h' → (∀ b ∈ b1 ++ b3, h' b = h b) → Seps (L.set k e') (b1 ++ (b2' ++ b3)) h'
  | [], _, _, _, _, _, hk => by simp at hk
  | e0 :: L, 0, e, _, h, ⟨b1, b2, rfl, h1, h2⟩, hk => by
    obtain rfl : e0 = e := by simpa using hk
    exact ⟨[], b1, b2, rfl, h1, fun e' b2' h' he hb => ⟨b2', b2, rfl, he, h2.loc fun b hm => hb b (by simpa using hm)⟩⟩
  | e0 :: L, k + 1, e, _, h, ⟨c1, c2, rfl, h1, h2⟩, hk => by
    obtain ⟨b1, b2, b3, rfl, he, hrest⟩ := Seps.focus h2 (by simpa using hk)
    refine ⟨c1 ++ b1, b2, b3, by simp, he, fun e' b2' h' he' hb => ?_⟩
    exact ⟨c1, b1 ++ (b2' ++ b3), by simp, e0.loc c1 h h' h1 fun b hm => hb b (by simp [hm]), hrest e' b2' h' he' fun b hm => hb b (by
      rw [List.append_assoc]; exact List.mem_append_right _ hm)⟩

theorem Seps.erase : ∀ {L : List Own} {k : Nat} {e : Own} {bs : List Nat} {h : Mem}, Seps L bs h → L[k]? = some e →
    ∃ b1 b2 b3, bs = b1 ++ (b2 ++ b3) ∧ e.φ b2 h ∧ Seps (L.eraseIdx k) (b1 ++ b3) h
  | [], _, _, _, _, _, hk => by simp at hk
  | e0 :: L, 0, e, _, h, ⟨b1, b2, rfl, h1, h2⟩, hk => by
    obtain rfl : e0 = e := by simpa using hk
    exact ⟨[], b1, b2, rfl, h1, h2⟩
  | e0 :: L, k + 1, e, _, h, ⟨c1, c2, rfl, h1, h2⟩, hk => by
    obtain ⟨b1, b2, b3, rfl, he, hrest⟩ := Seps.erase h2 (by simpa using hk)
    exact ⟨c1 ++ b1, b2, b3, by simp, he, c1, b1 ++ b3, by simp, h1, hrest⟩

structure St (w0 w : World) (μ : Mem) (L : List Own) : Prop where
  below : Bel w0.heap.size w0 w
  imm : Imm μ w
  own : ∃ bs, Seps L bs (memOf w) ∧ bs.Nodup ∧ ∀ b ∈ bs, w0.heap.size ≤ b ∧ b < w.heap.size ∧ μ b = none

/-- What a reading needs of the world: it holds in every later world of a region that only adds to memory. -/
def Rd (μ : Mem) (L : List Own) (w : World) : Prop := Imm μ w ∧ ∃ bs, Seps L bs (memOf w)
theorem St.rd {w0 w : World} {μ : Mem} {L : List Own} (h : St w0 w μ L) : Rd μ L w := ⟨h.imm, let ⟨bs, hs, _⟩ := h.own; ⟨bs, hs⟩⟩
theorem Rd.tail {w : World} {μ : Mem} {e : Own} {L : List Own} (h : Rd μ (e :: L) w) : Rd μ L w := ⟨h.1, let ⟨_, _, b2, _, _, hs⟩ := h.2; ⟨b2, hs⟩⟩
theorem Rd.le {n : Nat} {w : World} {μ μ' : Mem} {L : List Own} (hm : Mem.ext n μ μ') (h : Rd μ' L w) : Rd μ L w := ⟨fun b o e => h.1 b o (hm.le b o e), h.2⟩

theorem St.start (w : World) (μ : Mem) (h : Imm μ w) : St w w μ [] := ⟨Bel.refl _ _, h, [], rfl, List.nodup_nil, fun _ hb => by cases hb⟩

/-- The world has grown; nothing old has turned. -/
theorem St.grow {w0 w w' : World} {μ : Mem} {L : List Own} (h : St w0 w μ L) (hb : Bel w.heap.size w w') : St w0 w' μ L := by
  obtain ⟨h1, h2, bs, hs, hn, hm⟩ := h
  have hsz := h1.size
  refine ⟨h1.trans (hb.mono hsz), fun b o e => ?_, bs, hs.loc fun b hbm => ?_, hn, fun b hbm => ?_⟩
  · have e1 := h2 b o e
    have hlt : b < w.heap.size := (Array.getElem?_eq_some_iff.1 e1).1
    rw [hb.block b hlt]; exact e1
  · exact hb.block b (hm b hbm).2.1
  · exact ⟨(hm b hbm).1, Nat.lt_of_lt_of_le (hm b hbm).2.1 hb.size, (hm b hbm).2.2⟩
theorem St.drew {w0 w : World} {μ : Mem} {L : List Own} (h : St w0 w μ L) : St w0 w.drew μ L := h.grow (Bel.refl _ _).drew

/-- A call has come back: immutable memory may have grown too. -/
theorem St.mem {w0 w w' : World} {μ μ' : Mem} {L : List Own} (h : St w0 w μ L) (hb : Bel w.heap.size w w') (hm : Mem.ext w.heap.size μ μ') (hi : Imm μ' w') : St w0 w' μ' L := by
  obtain ⟨h1, _, bs, hs, hn, hd⟩ := h
  have hsz := h1.size
  refine ⟨h1.trans (hb.mono hsz), hi, bs, hs.loc fun b hbm => hb.block b (hd b hbm).2.1, hn, fun b hbm => ?_⟩
  obtain ⟨a1, a2, a3⟩ := hd b hbm
  exact ⟨a1, Nat.lt_of_lt_of_le a2 hb.size, by rw [hm.old b a2]; exact a3⟩

/-- A new object of the call's own: what it owns are new blocks. -/
theorem St.add {w0 w w' : World} {μ : Mem} {L : List Own} (h : St w0 w μ L) (hb : Bel w.heap.size w w') (e : Own) {bs : List Nat} (he : e.φ bs (memOf w'))
    (hn : bs.Nodup) (hr : ∀ b ∈ bs, w.heap.size ≤ b ∧ b < w'.heap.size) : St w0 w' μ (e :: L) := by
  have hg := h.grow hb
  obtain ⟨h1, h2, bs0, hs0, hn0, hd0⟩ := h
  have hsz := h1.size
  refine ⟨hg.below, hg.imm, bs ++ bs0, ⟨bs, bs0, rfl, he, hs0.loc fun b hbm => hb.block b (hd0 b hbm).2.1⟩, ?_, fun b hbm => ?_⟩
  · rw [List.nodup_append]
    exact ⟨hn, hn0, fun x hx y hy e => by have := (hr x hx).1; have := (hd0 y hy).2.1; omega⟩
  · rcases List.mem_append.1 hbm with hx | hx
    · obtain ⟨a, c⟩ := hr b hx
      refine ⟨by omega, c, ?_⟩
      cases hmu : μ b with
      | none => rfl
      | some o => have := (Array.getElem?_eq_some_iff.1 (h2 b o hmu)).1; omega
    · exact ⟨(hd0 b hx).1, Nat.lt_of_lt_of_le (hd0 b hx).2.1 hb.size, (hd0 b hx).2.2⟩

/-- One of the call's own objects turns (and may move into new blocks); nothing else does. -/
theorem St.turn {w0 w : World} {μ : Mem} {L : List Own} {k : Nat} {e : Own} (h : St w0 w μ L) (hk : L[k]? = some e) :
    ∃ bs, e.φ bs (memOf w) ∧ bs.Nodup ∧ (∀ b ∈ bs, w0.heap.size ≤ b ∧ b < w.heap.size ∧ μ b = none) ∧
      ∀ (w' : World) (e' : Own) (bs' : List Nat), w'.os = w.os → w'.tape = w.tape → w'.output = w.output → w.drawn ≤ w'.drawn → w.heap.size ≤ w'.heap.size →
        (∀ b, b < w.heap.size → b ∉ bs → w'.heap[b]? = w.heap[b]?) → e'.φ bs' (memOf w') → bs'.Nodup →
        (∀ b ∈ bs', b ∈ bs ∨ (w.heap.size ≤ b ∧ b < w'.heap.size)) → St w0 w' μ (L.set k e') := by
  obtain ⟨h1, h2, bs0, hs0, hn0, hd0⟩ := h
  obtain ⟨b1, b2, b3, rfl, he, hrest⟩ := hs0.focus hk
  have hnn := hn0
  rw [List.nodup_append] at hnn
  obtain ⟨n1, n23, d1⟩ := hnn
  rw [List.nodup_append] at n23
  obtain ⟨n2, n3, d2⟩ := n23
  refine ⟨b2, he, n2, fun b hb => hd0 b (by simp [hb]), fun w' e' bs' ho ht hout hdr hsz hsame he' hn' hin => ?_⟩
  have hold : ∀ b ∈ b1 ++ b3, b < w.heap.size ∧ b ∉ b2 := fun b hb => by
    rcases List.mem_append.1 hb with hb | hb
    · exact ⟨(hd0 b (by simp [hb])).2.1, fun hx => d1 b hb b (by simp [hx]) rfl⟩
    · exact ⟨(hd0 b (by simp [hb])).2.1, fun hx => d2 b hx b hb rfl⟩
  have h1s := h1.size
  refine ⟨⟨⟨ho.trans h1.os, ht.trans h1.tape, hout.trans h1.output, Nat.le_trans h1.size hsz, fun b hb => ?_⟩, Nat.le_trans h1.drawn hdr⟩, fun b o e => ?_, b1 ++ (bs' ++ b3), ?_, ?_, ?_⟩
  · rw [hsame b (by omega) fun hx => by have := (hd0 b (by simp [hx])).1; omega]
    exact h1.block b hb
  · have e1 := h2 b o e
    have hlt : b < w.heap.size := (Array.getElem?_eq_some_iff.1 e1).1
    rw [hsame b hlt fun hx => by have := (hd0 b (by simp [hx])).2.2; rw [e] at this; cases this]
    exact e1
  · exact hrest e' bs' (memOf w') he' fun b hb => hsame b (hold b hb).1 (hold b hb).2
  · have key : ∀ x ∈ bs', ∀ y ∈ b1 ++ b3, x ≠ y := fun x hx y hy e => by
      subst e
      rcases hin x hx with hx | hx
      · exact (hold x hy).2 hx
      · have := (hold x hy).1; omega
    rw [List.nodup_append]
    refine ⟨n1, ?_, fun x hx y hy e => ?_⟩
    · rw [List.nodup_append]
      exact ⟨hn', n3, fun x hx y hy => key x hx y (by simp [hy])⟩
    · rcases List.mem_append.1 hy with hy | hy
      · exact key y hy x (by simp [hx]) e.symm
      · exact d1 x hx y (by simp [hy]) e
  · intro b hb
    simp only [List.mem_append] at hb
    rcases hb with hb | hb | hb
    · exact ⟨(hd0 b (by simp [hb])).1, Nat.lt_of_lt_of_le (hd0 b (by simp [hb])).2.1 hsz, (hd0 b (by simp [hb])).2.2⟩
    · rcases hin b hb with hx | ⟨hx, hy⟩
      · exact ⟨(hd0 b (by simp [hx])).1, Nat.lt_of_lt_of_le (hd0 b (by simp [hx])).2.1 hsz, (hd0 b (by simp [hx])).2.2⟩
      · refine ⟨by omega, hy, ?_⟩
        cases hmu : μ b with
        | none => rfl
        | some o => have := (Array.getElem?_eq_some_iff.1 (h2 b o hmu)).1; omega
    · exact ⟨(hd0 b (by simp [hb])).1, Nat.lt_of_lt_of_le (hd0 b (by simp [hb])).2.1 hsz, (hd0 b (by simp [hb])).2.2⟩

theorem St.drop {w0 w : World} {μ : Mem} {L : List Own} (k : Nat) {e : Own} (hk : L[k]? = some e) (h : St w0 w μ L) : St w0 w μ (L.eraseIdx k) := by
  obtain ⟨h1, h2, bs0, hs0, hn0, hd0⟩ := h
  obtain ⟨b1, b2, b3, rfl, he, hr⟩ := hs0.erase hk
  refine ⟨h1, h2, b1 ++ b3, hr, ?_, fun b hb => hd0 b (by simp only [List.mem_append] at hb ⊢; rcases hb with hb | hb <;> simp [hb])⟩
  rw [List.nodup_append] at hn0 ⊢
  obtain ⟨n1, n23, d1⟩ := hn0
  rw [List.nodup_append] at n23
  exact ⟨n1, n23.2.1, fun x hx y hy => d1 x hx y (by simp [hy])⟩

/-- An object is shut: from here on its blocks are immutable memory. -/
theorem St.shut {w0 w : World} {μ : Mem} {L : List Own} (k : Nat) {e : Own} (hk : L[k]? = some e) (h : St w0 w μ L) :
    ∃ bs μ', Mem.ext w0.heap.size μ μ' ∧ St w0 w μ' (L.eraseIdx k) ∧ e.φ bs μ' := by
  obtain ⟨h1, h2, bs0, hs0, hn0, hd0⟩ := h
  obtain ⟨b1, b2, b3, rfl, he, hr⟩ := hs0.erase hk
  have hn := hn0
  rw [List.nodup_append] at hn
  obtain ⟨n1, n23, d1⟩ := hn
  rw [List.nodup_append] at n23
  refine ⟨b2, fun b => if b ∈ b2 then w.heap[b]? else μ b, ⟨fun b o e => ?_, fun b hb => ?_⟩, ⟨h1, fun b o e => ?_, b1 ++ b3, hr, ?_, fun b hb => ?_⟩, ?_⟩
  · rw [if_neg fun hx => by have := (hd0 b (by simp [hx])).2.2; rw [e] at this; cases this]; exact e
  · rw [if_neg fun hx => by have := (hd0 b (by simp [hx])).1; omega]
  · by_cases hx : b ∈ b2
    · simpa [hx] using e
    · simp only [hx, if_false] at e; exact h2 b o e
  · rw [List.nodup_append]
    exact ⟨n1, n23.2.1, fun x hx y hy => d1 x hx y (by simp [hy])⟩
  · have hb' : b ∈ b1 ++ (b2 ++ b3) := by simp only [List.mem_append] at hb ⊢; rcases hb with hb | hb <;> simp [hb]
    refine ⟨(hd0 b hb').1, (hd0 b hb').2.1, ?_⟩
    rw [if_neg fun hx => ?_]
    · exact (hd0 b hb').2.2
    · rcases List.mem_append.1 hb with hb | hb
      · exact d1 b hb b (by simp [hx]) rfl
      · exact n23.2.2 b hx b hb rfl
  · exact e.loc b2 _ _ he fun b hb => by simp only [hb, if_true]; rfl

theorem St.swap {w0 w : World} {μ : Mem} {e1 e2 : Own} {L : List Own} (h : St w0 w μ (e1 :: e2 :: L)) : St w0 w μ (e2 :: e1 :: L) := by
  obtain ⟨h1, h2, bs0, ⟨b1, b23, rfl, x1, b2, b3, rfl, x2, x3⟩, hn0, hd0⟩ := h
  refine ⟨h1, h2, b2 ++ (b1 ++ b3), ⟨b2, b1 ++ b3, rfl, x2, b1, b3, rfl, x1, x3⟩, ?_, fun b hb => hd0 b (by simp only [List.mem_append] at hb ⊢; rcases hb with hb | hb | hb <;> simp [hb])⟩
  rw [List.nodup_append] at hn0
  obtain ⟨n1, n23, d1⟩ := hn0
  rw [List.nodup_append] at n23
  obtain ⟨n2, n3, d2⟩ := n23
  rw [List.nodup_append, List.nodup_append]
  refine ⟨n2, ⟨n1, n3, fun x hx y hy => d1 x hx y (by simp [hy])⟩, fun x hx y hy => ?_⟩
  rcases List.mem_append.1 hy with hy | hy
  · exact fun e => d1 y hy x (by simp [hx]) e.symm
  · exact d2 x hx y hy

end Go.Proofs.Ytgbdfgifgngijaa.Sy
