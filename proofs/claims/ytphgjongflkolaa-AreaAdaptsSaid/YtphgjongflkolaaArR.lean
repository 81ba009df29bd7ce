/-
  Areas: the plain laws: what Touch and Adapt hand back is what the reference does.
-/
import Derived.Test.YtphgjongflkolaaArQ
namespace Go.Proofs.Ytphgjongflkolaa
open Go.RowKit Sy Go.Sort

theorem filter_take {α : Type} (lt : α → α → Bool) (hirr : ∀ x, lt x x = false) (has : ∀ x y, lt x y = true → lt y x = false) (k : Nat) : ∀ ys : List α, ys.Pairwise (fun x y => lt x y = true) →
    ∀ (n : Nat) (pre : List α), pre.length = n → (∀ x ∈ pre, ∀ y ∈ ys, lt x y = true) → ys.filter (fun c => decide ((pre ++ ys).countP (fun x => lt x c) < k)) = ys.take (k - n)
  | [], _, n, pre, _, _ => by simp
  | y :: r, hp, n, pre, hn, hpre => by
    rw [List.pairwise_cons] at hp
    have hc : (pre ++ y :: r).countP (fun x => lt x y) = n := by
      rw [List.countP_append, List.countP_cons, hirr]
      have h1 : pre.countP (fun x => lt x y) = pre.length := List.countP_eq_length.2 fun x hx => hpre x hx y (List.mem_cons_self ..)
      have h2 : r.countP (fun x => lt x y) = 0 := List.countP_eq_zero.2 fun x hx => by rw [has _ _ (hp.1 x hx)]; simp
      rw [h1, h2, hn]; simp
    have ih := filter_take lt hirr has k r hp.2 (n + 1) (pre ++ [y]) (by simp [hn]) (fun x hx z hz => by
      rcases List.mem_append.1 hx with h | h
      · exact hpre x h z (List.mem_cons_of_mem _ hz)
      · obtain rfl : x = y := by simpa using h
        exact hp.1 z hz)
    rw [List.append_assoc, List.singleton_append] at ih
    rw [List.filter_cons, hc]
    by_cases hk : n < k
    · rw [if_pos (by simpa using hk), ih, show k - n = (k - (n + 1)) + 1 by omega, List.take_succ_cons]
    · rw [if_neg (by simpa using hk), ih, show k - (n + 1) = 0 by omega, show k - n = 0 by omega]; simp

def Keys (l : List Ch) : Prop := l.Pairwise fun x y => x.Key.toNat < y.Key.toNat
theorem keys_inj {l : List Ch} (h : Keys l) {x y : Ch} (hx : x ∈ l) (hy : y ∈ l) (he : x.Key = y.Key) : x = y := by
  obtain ⟨i, hi, rfl⟩ := List.getElem_of_mem hx
  obtain ⟨j, hj, rfl⟩ := List.getElem_of_mem hy
  rcases Nat.lt_trichotomy i j with h1 | h1 | h1
  · have := List.pairwise_iff_getElem.1 h i j hi hj h1; rw [he] at this; omega
  · subst h1; rfl
  · have := List.pairwise_iff_getElem.1 h j i hj hi h1; rw [he] at this; omega

/-- The first 8 by cost and key, ordered by key. -/
theorem few_of {M ys zs : List Ch} (hM : Keys M) (hy : ys.Perm M) (hw : ys.Pairwise (fun x y => ltOf byCost y x = false)) (hz : zs.Perm (ys.take 8)) (hk : zs.Pairwise (fun x y => ltOf byKey y x = false)) : zs = few M := by
  have hnd : ys.Nodup := hy.nodup_iff.2 (hM.imp fun h e => by rw [e] at h; exact absurd h (Nat.lt_irrefl _))
  have hstrict : ys.Pairwise (fun x y => lessCh x y = true) := by
    have h1 : ys.Pairwise (fun x y => ltOf byCost y x = false ∧ x ≠ y) := List.pairwise_and_iff.2 ⟨hw, hnd⟩
    refine h1.imp_of_mem fun {x y} hx hy' ⟨h2, h3⟩ => ?_
    rw [byCost_lt, decide_eq_false_iff_not] at h2
    have hke : x.Key ≠ y.Key := fun e => h3 (keys_inj hM (hy.mem_iff.1 hx) (hy.mem_iff.1 hy') e)
    have hkn : x.Key.toNat ≠ y.Key.toNat := fun e => hke (UInt8.toNat_inj.1 e)
    unfold lessCh; rw [decide_eq_true_eq]; omega
  have hf := filter_take lessCh (fun x => by simp [lessCh]) (fun x y h => by simp [lessCh] at h ⊢; omega) 8 ys hstrict 0 [] rfl (fun x hx => by cases hx)
  rw [List.nil_append] at hf
  have hperm : (few M).Perm (ys.take 8) := by
    unfold few
    have e : (fun c => decide (M.countP (fun x => lessCh x c) < 8)) = (fun c => decide (ys.countP (fun x => lessCh x c) < 8)) := by
      funext c; rw [hy.countP_eq]
    rw [e, ← hf]
    exact (hy.symm).filter _
  refine List.Perm.eq_of_pairwise (le := fun x y => ltOf byKey y x = false) ?_ hk ?_ (hz.trans hperm.symm)
  · intro a b ha hb h1 h2
    rw [byKey_lt, decide_eq_false_iff_not] at h1 h2
    have hm : ∀ x ∈ zs, x ∈ M := fun x hx => hy.mem_iff.1 (List.mem_of_mem_take (hz.mem_iff.1 hx))
    have hm2 : ∀ x ∈ few M, x ∈ M := fun x hx => (List.mem_filter.1 hx).1
    exact keys_inj hM (hm _ ha) (by first | exact hm2 _ hb | exact hm _ hb) (UInt8.toNat_inj.1 (by omega))
  · refine (hM.sublist List.filter_sublist).imp fun {x y} h => ?_
    rw [byKey_lt, decide_eq_false_iff_not]; omega

def AKeys (l : List Area) : Prop := l.Pairwise fun a b => a.Key.toNat < b.Key.toNat
theorem meant_keys {l : List Area} (h : AKeys l) (taps : List Tap) (p : Pt) : Keys (meant l taps p) := by
  unfold Keys meant
  rw [List.pairwise_filterMap]
  refine h.imp fun {a b} hab x hx y hy => ?_
  unfold mayMean at hx hy
  split at hx <;> split at hy <;> simp at hx hy
  subst hx; subst hy; exact hab
/-- Touch, both ways. -/
def touchR (l : List Area) (taps : List Tap) (p : Pt) : List Ch × Int := if inP p = false then ([], 1) else if meant l taps p = [] then ([], 210) else (few (meant l taps p), 0)
def IsTR (l : List Area) (taps : List Tap) (p : Pt) (μ : Mem) (v : Value) : Prop := ∃ ad c, v = .tuple #[.slice ad (touchR l taps p).1.length c, .int .i64 (touchR l taps p).2] ∧ Sl μ ad c (touchR l taps p).1
theorem touch_fun {l : List Area} {taps : List Tap} {p : Pt} {μ : Mem} {v : Value} (h : AKeys l) (ht : IsTouch l taps p μ v) : IsTR l taps p μ v := by
  obtain ⟨zs, ad, c, e, rfl, hs, hr⟩ := ht
  have key : touchR l taps p = (zs, e) := by
    unfold TouchRel at hr
    unfold touchR
    split at hr
    · rename_i h1; rw [if_pos h1, hr.1, hr.2]
    · rename_i h1
      rw [if_neg h1]
      split at hr
      · rename_i h2; rw [if_pos h2, hr.1, hr.2]
      · rename_i h2
        obtain ⟨rfl, ys, h3, h4, h5, h6⟩ := hr
        rw [if_neg h2, few_of (meant_keys h taps p) h3 h4 h5 h6]
  unfold IsTR
  rw [key]
  exact ⟨ad, c, rfl, hs⟩
theorem reftouch_fun {l : List Area} {taps : List Tap} {p : Pt} {μ : Mem} {v : Value} (ht : IsRTouch l taps p μ v) : IsTR l taps p μ v := by
  obtain ⟨zs, ad, c, e, rfl, hs, hr⟩ := ht
  have key : touchR l taps p = (zs, e) := by
    unfold touchR
    split at hr
    · rename_i h1; rw [if_pos h1, hr.1, hr.2]
    · rename_i h1
      rw [if_neg h1]
      split at hr
      · rename_i h2; rw [if_pos h2, hr.1, hr.2]
      · rename_i h2; rw [if_neg h2, hr.1, hr.2]
  unfold IsTR
  rw [key]
  exact ⟨ad, c, rfl, hs⟩

/-! ### Adapt -/
def insT (key : UInt8) (t : Tap) : List Tap → List Tap
  | [] => [t]
  | x :: r => if x.Key.toNat < key.toNat then x :: insT key t r else if x.Key = key then t :: r else t :: x :: r
def tapFor (key : UInt8) : List Tap → Tap
  | [] => ⟨key, 0, 0, 0⟩
  | x :: r => if x.Key = key then x else tapFor key r
theorem tapFor_none {key : UInt8} : ∀ {l : List Tap}, (∀ x ∈ l, x.Key ≠ key) → tapFor key l = ⟨key, 0, 0, 0⟩
  | [], _ => rfl
  | x :: r, h => by rw [tapFor, if_neg (h x (List.mem_cons_self ..)), tapFor_none fun y hy => h y (List.mem_cons_of_mem _ hy)]
theorem fold_none {key : UInt8} : ∀ {l : List Tap} {t : Tap}, (∀ x ∈ l, x.Key ≠ key) → l.foldl (fun t x => if x.Key = key then x else t) t = t
  | [], _, _ => rfl
  | x :: r, t, h => by rw [List.foldl_cons, if_neg (h x (List.mem_cons_self ..)), fold_none fun y hy => h y (List.mem_cons_of_mem _ hy)]
theorem rising_ne {x : Tap} {r : List Tap} (h : Rising (x :: r)) {key : UInt8} (hk : key.toNat ≤ x.Key.toNat) : ∀ y ∈ r, y.Key ≠ key := fun y hy e => by
  have := (List.pairwise_cons.1 h).1 y hy
  rw [e] at this; omega
theorem lastTap_eq {key : UInt8} : ∀ {l : List Tap}, Rising l → lastTap key l = tapFor key l
  | [], _ => rfl
  | x :: r, h => by
    unfold lastTap
    rw [List.foldl_cons, tapFor]
    by_cases hx : x.Key = key
    · rw [if_pos hx, if_pos hx, fold_none (rising_ne h (by rw [hx]; exact Nat.le_refl _))]
    · rw [if_neg hx, if_neg hx]
      exact lastTap_eq (List.pairwise_cons.1 h).2
theorem put_done {key : UInt8} {t : Tap} : ∀ {l : List Tap} {acc : List Tap}, (∀ x ∈ l, x.Key ≠ key) → l.foldl (putStep key t) (true, acc) = (true, acc ++ l)
  | [], acc, _ => by simp
  | x :: r, acc, h => by
    rw [List.foldl_cons, putStep, if_neg (by simp), if_neg (h x (List.mem_cons_self ..)), put_done fun y hy => h y (List.mem_cons_of_mem _ hy)]; simp
def putFin (t : Tap) (s : Bool × List Tap) : List Tap := if s.1 then s.2 else s.2 ++ [t]
theorem put_ins {key : UInt8} {t : Tap} : ∀ {l : List Tap} {acc : List Tap}, Rising l → putFin t (l.foldl (putStep key t) (false, acc)) = acc ++ insT key t l
  | [], acc, _ => by simp [insT, putFin]
  | x :: r, acc, h => by
    rw [List.foldl_cons, insT]
    by_cases hlt : x.Key.toNat < key.toNat
    · have hne : x.Key ≠ key := fun e => by rw [e] at hlt; omega
      rw [putStep, if_neg (by omega), if_neg hne, if_pos hlt, put_ins (List.pairwise_cons.1 h).2]; simp
    · rw [if_neg hlt]
      by_cases hx : x.Key = key
      · rw [putStep, if_pos ⟨by omega, rfl⟩, if_pos hx, if_pos hx, put_done (rising_ne h (by omega))]; simp [putFin]
      · rw [putStep, if_pos ⟨by omega, rfl⟩, if_neg hx, if_neg hx, put_done (rising_ne h (by omega))]; simp [putFin]
theorem putTap_eq {key : UInt8} {t : Tap} {l : List Tap} (h : Rising l) : putTap key t l = insT key t l := by
  have := put_ins (key := key) (t := t) (acc := []) h
  rw [List.nil_append] at this
  exact this
theorem pos_zero {key : UInt8} {x : Tap} {r : List Tap} (h : Rising (x :: r)) (hk : key.toNat ≤ x.Key.toNat) : posOf (x :: r) key = 0 := by
  unfold posOf
  rw [List.countP_eq_zero]
  intro y hy
  rcases List.mem_cons.1 hy with rfl | hy
  · simpa using hk
  · have := (List.pairwise_cons.1 h).1 y hy; simp; omega
theorem pos_succ {key : UInt8} {x : Tap} {r : List Tap} (hk : x.Key.toNat < key.toNat) : posOf (x :: r) key = posOf r key + 1 := by
  unfold posOf; rw [List.countP_cons_of_pos (by simpa using hk)]
theorem withTap_set {key : UInt8} {t : Tap} : ∀ {l : List Tap}, Rising l → (withTap l key).set (posOf l key) t = insT key t l ∧ (withTap l key).getD (posOf l key) ⟨key, 0, 0, 0⟩ = tapFor key l
  | [], _ => ⟨rfl, rfl⟩
  | x :: r, h => by
    rw [insT, tapFor]
    by_cases hlt : x.Key.toNat < key.toNat
    · have hne : x.Key ≠ key := fun e => by rw [e] at hlt; omega
      obtain ⟨ih1, ih2⟩ := withTap_set (key := key) (t := t) (List.pairwise_cons.1 h).2
      have hw : withTap (x :: r) key = x :: withTap r key := by
        unfold withTap
        have hh : hitAt (x :: r) key (posOf r key + 1) = hitAt r key (posOf r key) := rfl
        rw [pos_succ hlt, hh]; split <;> simp
      rw [if_pos hlt, if_neg hne, hw, pos_succ hlt, List.set_cons_succ, ih1, List.getD_cons_succ, ih2]
      exact ⟨rfl, rfl⟩
    · rw [if_neg hlt, pos_zero h (by omega)]
      by_cases hx : x.Key = key
      · have hw : withTap (x :: r) key = x :: r := by unfold withTap; rw [pos_zero h (by omega), if_pos (by simp [hitAt, hx])]
        rw [hw, if_pos hx, if_pos hx]; exact ⟨rfl, rfl⟩
      · have hw : withTap (x :: r) key = ⟨key, 0, 0, 0⟩ :: x :: r := by unfold withTap; rw [pos_zero h (by omega), if_neg (by simp [hitAt, hx])]; rfl
        rw [hw, if_neg hx, if_neg hx, tapFor_none (rising_ne h (by omega))]; exact ⟨rfl, rfl⟩
theorem tapFor_N {key : UInt8} {B : Int} (hB : 0 ≤ B) : ∀ {l : List Tap}, (∀ t ∈ l, t.N ≤ B) → (tapFor key l).N ≤ B
  | [], _ => hB
  | x :: r, h => by
    rw [tapFor]; split
    · exact h x (List.mem_cons_self ..)
    · exact tapFor_N hB fun y hy => h y (List.mem_cons_of_mem _ hy)
theorem adapt_same {l : List Area} {taps : List Tap} (hr : Rising taps) (hN : ∀ t ∈ taps, t.N ≤ 63) (key : UInt8) (p : Pt) : adaptA l taps key p = adaptR l taps key p := by
  unfold adaptA adaptR areaOf
  split
  · rfl
  · cases l.find? (fun a => decide (a.Key = key)) with
    | none => rfl
    | some a =>
      simp only
      rw [putTap_eq hr, lastTap_eq hr]
      have h1 := withTap_set (key := key) (t := tapNext (tapFor key taps) (p.X - (a.X0 + a.X1).tdiv 2) (p.Y - (a.Y0 + a.Y1).tdiv 2)) hr
      rw [h1.2, h1.1]
      have h2 := tapFor_N (key := key) (B := 63) (by omega) hN
      have h3 : ∀ dx dy, tapNext (tapFor key taps) dx dy = tapNextR (tapFor key taps) dx dy := fun dx dy => by
        unfold tapNext tapNextR
        by_cases h : (tapFor key taps).N + 1 = 64
        · rw [if_pos h, if_pos (by omega), h]; rfl
        · rw [if_neg h, if_neg (by omega)]
      rw [h3]
end Go.Proofs.Ytphgjongflkolaa

