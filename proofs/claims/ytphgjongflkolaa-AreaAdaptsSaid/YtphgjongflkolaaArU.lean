/-
  Areas: facts on made boards and taps; Touch and Adapt as functions.
-/
import Derived.Test.YtphgjongflkolaaArT
import Derived.Test.YtphgjongflkolaaDat2
namespace Go.Proofs.Ytphgjongflkolaa
open Go.RowKit Sy Go.Sort

theorem made_len (l : List B2) : (made l).length = min l.length 14 := by simp [made]
theorem made_mem {l : List B2} {a : Area} (h : a ∈ made l) : ∃ i, i < min l.length 14 ∧ a = madeA l i := by
  obtain ⟨i, hi, rfl⟩ := List.mem_map.1 h
  exact ⟨i, List.mem_range.1 hi, rfl⟩
theorem wOf_lt (b : B2) : wOf b < 21 := by unfold wOf; omega
theorem hOf_lt (b : B2) : hOf b < 21 := by unfold hOf; omega
theorem madeA_in (l : List B2) {i : Nat} (h : i < 14) : 0 ≤ (madeA l i).X0 ∧ (madeA l i).X0 ≤ (madeA l i).X1 ∧ (madeA l i).X1 ≤ 200 ∧ 0 ≤ (madeA l i).Y0 ∧ (madeA l i).Y0 ≤ (madeA l i).Y1 ∧ (madeA l i).Y1 ≤ 100 := by
  have h1 := madeX_bound l i
  have h2 := madeY_bound (i := i) (by omega)
  have h3 := wOf_lt (bAt l i)
  have h4 := hOf_lt (bAt l i)
  simp only [madeA]; omega
theorem made_b {l : List B2} : ∀ a ∈ made l, ArB a := fun a ha => by
  obtain ⟨i, hi, rfl⟩ := made_mem ha
  have := madeA_in l (i := i) (by omega)
  exact ⟨by omega, by omega, by omega, by omega⟩
theorem range_map_pairwise {α : Type} {R : α → α → Prop} (f : Nat → α) (n : Nat) (h : ∀ i j, i < j → j < n → R (f i) (f j)) : ((List.range n).map f).Pairwise R := by
  rw [List.pairwise_iff_getElem]
  intro i j hi hj hij
  simp only [List.getElem_map, List.getElem_range]
  exact h i j hij (by simpa using hj)
theorem made_k (l : List B2) : AKeys (made l) := range_map_pairwise _ _ fun i j hij hj => by
  show (C97 i).toNat < (C97 j).toNat
  rw [C97_nat (by omega), C97_nat (by omega)]; omega

def I3.fine (x : I3) : Prop := (-128 ≤ x.a ∧ x.a ≤ 127) ∧ (-128 ≤ x.b ∧ x.b ≤ 127) ∧ (-128 ≤ x.c ∧ x.c ≤ 127)
theorem i3_fine {t : List I3} {μ : Mem} {ad : Option Addr} {c : Nat} (h : Sl μ ad c t) (i : Nat) : (tAt t i).fine := by
  unfold tAt
  rw [List.getD_eq_getElem?_getD]
  by_cases hi : i < t.length
  · rw [List.getElem?_eq_getElem hi]
    obtain ⟨b, o, _, k0, k1, k2⟩ := h.at hi
    exact ⟨k0.2, k1.2, k2.2⟩
  · rw [List.getElem?_eq_none (by omega)]
    exact ⟨by decide, by decide, by decide⟩
def Fine3 (t : List I3) : Prop := ∀ i, (tAt t i).fine
theorem tapsM_mem {t : List I3} {x : Tap} (h : x ∈ tapsM t) : ∃ i, i < min t.length 6 ∧ x = tapOf t i := by
  obtain ⟨i, hi, rfl⟩ := List.mem_map.1 h
  exact ⟨i, List.mem_range.1 hi, rfl⟩
theorem tapOf_in {t : List I3} (h : Fine3 t) (i : Nat) : -384 ≤ (tapOf t i).DX ∧ (tapOf t i).DX ≤ 381 ∧ -384 ≤ (tapOf t i).DY ∧ (tapOf t i).DY ≤ 381 ∧ 1 ≤ (tapOf t i).N ∧ (tapOf t i).N ≤ 63 := by
  obtain ⟨h1, h2, h3⟩ := h i
  simp only [tapOf, uOf]; omega
theorem tapsM_b {t : List I3} (h : Fine3 t) : ∀ x ∈ tapsM t, TapB x := fun x hx => by
  obtain ⟨i, _, rfl⟩ := tapsM_mem hx
  have := tapOf_in h i
  exact ⟨by omega, by omega, by omega⟩
theorem tapsM_N {t : List I3} (h : Fine3 t) : ∀ x ∈ tapsM t, x.N ≤ 63 := fun x hx => by
  obtain ⟨i, _, rfl⟩ := tapsM_mem hx
  exact (tapOf_in h i).2.2.2.2.2
theorem tapsM_r (t : List I3) : Rising (tapsM t) := range_map_pairwise _ _ fun i j hij hj => by
  show (C97 i).toNat < (C97 j).toNat
  rw [C97_nat (by omega), C97_nat (by omega)]; omega
theorem tapsM_len (t : List I3) : (tapsM t).length ≤ 6 := by simp [tapsM]; omega

section
variable {l : List Area} {taps : List Tap} {p : Pt} {v1 v2 : Value} {ada adt : Option Addr} {ca ct : Nat} {μ : Mem} {w : World}
theorem touchF_c (hμ : Imm μ w) (hl : Sl μ ada ca l) (ht : Sl μ adt ct taps) (hB : ∀ a ∈ l, ArB a) (hT : ∀ t ∈ taps, TapB t) (hr : Rising taps) (hk : AKeys l) (hll : l.length ≤ 1000) (htl : taps.length ≤ 1000) :
    Calls Try.prog 15 #[.agg #[.slice ada l.length ca, v1, v2], .slice adt taps.length ct, ptV p] w (RetV w μ (IsTR l taps p)) :=
  (touch_c l taps p v1 v2 ada adt ca ct μ w hμ hl ht hB hT hr hll htl).mono fun _ _ hr => RetV.imp hr fun _ _ hv => touch_fun hk hv
theorem reftouchF_c (hμ : Imm μ w) (hl : Sl μ ada ca l) (ht : Sl μ adt ct taps) (hB : ∀ a ∈ l, ArB a) (hT : ∀ t ∈ taps, TapB t) (hll : l.length ≤ 1000) :
    Calls Try.prog 16 #[.agg #[.slice ada l.length ca, v1, v2], .slice adt taps.length ct, ptV p] w (RetV w μ (IsTR l taps p)) :=
  (reftouch_c l taps p v1 v2 ada adt ca ct μ w hμ hl ht hB hT hll).mono fun _ _ hr => RetV.imp hr fun _ _ hv => reftouch_fun hv
theorem adaptF_c {key : UInt8} (hμ : Imm μ w) (hl : Sl μ ada ca l) (ht : Sl μ adt ct taps) (hB : ∀ a ∈ l, ArB a) (hT : ∀ t ∈ taps, TapB t) (hr : Rising taps) (hN : ∀ t ∈ taps, t.N ≤ 63) (hll : l.length ≤ 1000) (htl : taps.length ≤ 1000) :
    Calls Try.prog 17 #[.agg #[.slice ada l.length ca, v1, v2], .slice adt taps.length ct, .int .u8 key.toNat, ptV p] w (RetV w μ (IsAdapt (adaptR l taps key p))) := by
  rw [← adapt_same hr hN]
  exact adapt_c l taps key p v1 v2 ada adt ca ct μ w hμ hl ht hB hT hr hll htl
end
theorem keyw {z : Int} (h : 0 ≤ z ∧ z < 100) : IntKind.u8.wrap (97 + z) = ((C97 z.toNat).toNat : Int) := by
  rw [wu8 (by omega) (by omega), C97_nat (by omega)]; omega
end Go.Proofs.Ytphgjongflkolaa

