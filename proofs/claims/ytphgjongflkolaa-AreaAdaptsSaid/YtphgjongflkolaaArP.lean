/-
  Areas: the walk of area.Adapt.
-/
import Derived.Test.YtphgjongflkolaaInT
namespace Go.Proofs.Ytphgjongflkolaa
open Go.RowKit Sy Go.Sort

theorem adapt1_c (a : Area) (key : UInt8) (b6 : Nat) (w : World) (hb : w.cell? ⟨b6, 0, none⟩ = some (.int .u8 key.toNat)) : Calls Try.prog 42 #[areaV a, .pointer (some ⟨b6, 0, none⟩)] w (RetS w (.bool (decide (a.Key = key)))) := by
  have hμ := imm_memOf w
  have hcell := memOf_cell hb
  have hS := St.start w (memOf w) hμ
  refine calls_start 8 [areaV a, .pointer (some ⟨b6, 0, none⟩)] Try.func42 rfl Try.ntmps42 rfl rfl ?_
  refine CW.seq fun K1 hK1 => ?_
  refine CW.region [0, 1] rfl ?_
  refine LW.hv rfl rfl rfl rfl (Hv.boxS hS rfl rfl) fun v w2 ⟨b2, hv, hb2, hS⟩ => ?_
  subst hv
  refine LW.ex rfl rfl rfl rfl (Ex.assign rfl) hS.rd ?_
  refine LW.nil fun aa ha => hK1 _ _ _ ?_ aa ha
  refine CW.seq fun K2 hK2 => ?_
  refine CW.region [0, 1, 2, 3, 4] rfl ?_
  refine LW.ex rfl rfl rfl rfl (Ex.fieldO 0 Try.underlying57 rfl rfl ti5 rfl) hS.rd ?_
  refine LW.ex rfl rfl rfl rfl (Ex.load1 ti5 rfl rfl (by first | exact Rd.obj (k := 0) rfl rfl | exact Rd.obj (k := 1) rfl rfl | exact Rd.obj (k := 2) rfl rfl | exact Rd.obj (k := 3) rfl rfl | exact Rd.obj (k := 4) rfl rfl | exact Rd.imm (by assumption) | exact Rd.sl (k := 0) rfl (by assumption) | exact Rd.sl (k := 1) rfl (by assumption) | exact Rd.sl (k := 2) rfl (by assumption) | exact Rd.sl (k := 3) rfl (by assumption))) hS.rd ?_
  refine LW.ex rfl rfl rfl rfl (Ex.load1 ti5 rfl rfl (by first | exact Rd.obj (k := 0) rfl rfl | exact Rd.obj (k := 1) rfl rfl | exact Rd.obj (k := 2) rfl rfl | exact Rd.obj (k := 3) rfl rfl | exact Rd.obj (k := 4) rfl rfl | exact Rd.imm (by assumption) | exact Rd.sl (k := 0) rfl (by assumption) | exact Rd.sl (k := 1) rfl (by assumption) | exact Rd.sl (k := 2) rfl (by assumption) | exact Rd.sl (k := 3) rfl (by assumption))) hS.rd ?_
  refine LW.ex rfl rfl rfl rfl (Ex.eql rfl rfl (by first | exact decide_eq_true (by omega) | exact decide_eq_false (by omega) | rfl)) hS.rd ?_
  refine LW.ex rfl rfl rfl rfl (Ex.assign rfl) hS.rd ?_
  refine LW.nil fun aa ha => hK2 _ _ _ ?_ aa ha
  refine CW.ret fun aa ha => ?_
  refine ret_one ha Try.results42 rfl ?_
  exact hS.retB (decide_eq_decide.2 ⟨fun h => u8_inj (by omega), fun h => by rw [h]⟩)
def idxOf (l : List Area) (key : UInt8) : Int := match l.findIdx? (fun a => decide (a.Key = key)) with
  | some i => i
  | none => -1
theorem findIdx?_at {α : Type} (p : α → Bool) (l : List α) (i : Nat) (hi : i < l.length) (h1 : ∀ j (h : j < l.length), j < i → p l[j] = false) (h2 : p l[i] = true) : l.findIdx? p = some i := by
  rw [List.findIdx?_eq_some_iff_getElem]
  exact ⟨hi, h2, fun j hj => by have := h1 j (by omega) hj; simp [this]⟩
set_option maxRecDepth 100000 in
theorem index_c (l : List Area) (key : UInt8) (b6 : Nat) (ad : Option Addr) (c : Nat) (μ : Mem) (w : World) (hμ : Imm μ w) (hl : Sl μ ad c l) (hb : μ.cell b6 0 = some (.int .u8 key.toNat)) :
    Calls Try.prog 41 #[.slice ad l.length c, .func (.func 42) #[] #[.pointer (some ⟨b6, 0, none⟩)]] w (RetS w (.int .i64 (idxOf l key))) := by
  have hll : l.length ≤ 9223372036854775807 := by have := hl.1; have := hl.2.1; simp only [maxLen] at this; omega
  have hS := St.start w μ hμ
  refine calls_start 19 [.slice ad l.length c, .func (.func 42) #[] #[.pointer (some ⟨b6, 0, none⟩)]] Try.func41 rfl Try.ntmps41 rfl rfl ?_
  refine CW.seq fun K3 hK3 => ?_
  refine CW.region [0] rfl ?_
  refine LW.ex rfl rfl rfl rfl (Ex.assign rfl) hS.rd ?_
  refine LW.nil fun aa ha => hK3 _ _ _ ?_ aa ha
  refine CW.seq fun K4 hK4 => ?_
  refine CW.seq fun K5 hK5 => ?_
  refine CW.region [0, 1, 2] rfl ?_
  refine LW.ex rfl rfl rfl rfl (Ex.move rfl) hS.rd ?_
  refine LW.ex rfl rfl rfl rfl (Ex.lenSl rfl Try.underlying27 rfl) hS.rd ?_
  refine LW.ex rfl rfl rfl rfl (Ex.move rfl) hS.rd ?_
  refine LW.nil fun aa ha => hK5 _ _ _ ?_ aa ha
  refine CW.block ?_
  refine CW.loop (fun q m wl2 => ∃ (i : Nat), i ≤ l.length ∧ q = l.length - i ∧ m = [(0, .slice ad l.length c), (1, .func (.func 42) #[] #[.pointer (some ⟨b6, 0, none⟩)]), (7, .int .i64 ((l.length : Nat) : Int)), (8, .int .i64 i)] ∧ St w wl2 μ [] ∧ (∀ j (h : j < l.length), j < i → decide (l[j].Key = key) = false)) _ ⟨0, (by first | omega | (simp; done) | (simp; omega)), rfl, rfl, hS, fun j _ hj => by omega⟩ ⟨rfl, rfl, rfl, rfl, trivial⟩ ?_
  clear hS
  rintro q m wl2 ⟨i, hi, hq, rfl, hS, hin⟩
  refine CW.seq fun K6 hK6 => ?_
  refine CW.region [0] rfl ?_
  refine LW.ex rfl rfl rfl rfl (Ex.lss rfl rfl rfl) hS.rd ?_
  refine LW.splitB (fun h2_0 => ?_) (fun h2_0 => ?_)
  · have h2_0 := of_decide_eq_true h2_0
    refine LW.nil fun aa ha => hK6 _ _ _ ?_ aa ha
    refine CW.seq fun K7 hK7 => ?_
    refine CW.yes rfl ?_
    refine CW.skip fun aa ha => hK7 _ _ _ ?_ aa ha
    refine CW.seq fun K8 hK8 => ?_
    refine CW.block ?_
    refine CW.seq fun K9 hK9 => ?_
    refine CW.region [0, 1] rfl ?_
    refine LW.ex rfl rfl rfl rfl (Ex.move rfl) hS.rd ?_
    refine LW.ex rfl rfl rfl rfl (Ex.assign rfl) hS.rd ?_
    refine LW.nil fun aa ha => hK9 _ _ _ ?_ aa ha
    refine CW.seq fun K10 hK10 => ?_
    have h1 : i < l.length := by omega
    obtain ⟨bl, ol, rfl, k0, k1, k2, k3, k4⟩ := hl.at h1
    refine CW.region [0, 1, 2, 3, 4, 5] rfl ?_
    refine LW.ex rfl rfl rfl rfl (Ex.move rfl) hS.rd ?_
    refine LW.ex rfl rfl rfl rfl (Ex.move rfl) hS.rd ?_
    refine LW.ex rfl rfl rfl rfl (Ex.move rfl) hS.rd ?_
    refine LW.ex rfl rfl rfl rfl (Ex.indexSl Try.underlying27 ti57 rfl rfl rfl (by omega)) hS.rd ?_
    refine LW.ex rfl rfl rfl rfl (Ex.load5c ti57 rfl rfl (by first | exact Rd.obj (k := 0) rfl rfl | exact Rd.obj (k := 1) rfl rfl | exact Rd.obj (k := 2) rfl rfl | exact Rd.obj (k := 3) rfl rfl | exact Rd.obj (k := 4) rfl rfl | exact Rd.imm (by assumption) | exact Rd.sl (k := 0) rfl (by assumption) | exact Rd.sl (k := 1) rfl (by assumption) | exact Rd.sl (k := 2) rfl (by assumption) | exact Rd.sl (k := 3) rfl (by assumption)) (by first | exact Rd.obj (k := 0) rfl rfl | exact Rd.obj (k := 1) rfl rfl | exact Rd.obj (k := 2) rfl rfl | exact Rd.obj (k := 3) rfl rfl | exact Rd.obj (k := 4) rfl rfl | exact Rd.imm (by assumption) | exact Rd.sl (k := 0) rfl (by assumption) | exact Rd.sl (k := 1) rfl (by assumption) | exact Rd.sl (k := 2) rfl (by assumption) | exact Rd.sl (k := 3) rfl (by assumption)) (by first | exact Rd.obj (k := 0) rfl rfl | exact Rd.obj (k := 1) rfl rfl | exact Rd.obj (k := 2) rfl rfl | exact Rd.obj (k := 3) rfl rfl | exact Rd.obj (k := 4) rfl rfl | exact Rd.imm (by assumption) | exact Rd.sl (k := 0) rfl (by assumption) | exact Rd.sl (k := 1) rfl (by assumption) | exact Rd.sl (k := 2) rfl (by assumption) | exact Rd.sl (k := 3) rfl (by assumption)) (by first | exact Rd.obj (k := 0) rfl rfl | exact Rd.obj (k := 1) rfl rfl | exact Rd.obj (k := 2) rfl rfl | exact Rd.obj (k := 3) rfl rfl | exact Rd.obj (k := 4) rfl rfl | exact Rd.imm (by assumption) | exact Rd.sl (k := 0) rfl (by assumption) | exact Rd.sl (k := 1) rfl (by assumption) | exact Rd.sl (k := 2) rfl (by assumption) | exact Rd.sl (k := 3) rfl (by assumption)) (by first | exact Rd.obj (k := 0) rfl rfl | exact Rd.obj (k := 1) rfl rfl | exact Rd.obj (k := 2) rfl rfl | exact Rd.obj (k := 3) rfl rfl | exact Rd.obj (k := 4) rfl rfl | exact Rd.imm (by assumption) | exact Rd.sl (k := 0) rfl (by assumption) | exact Rd.sl (k := 1) rfl (by assumption) | exact Rd.sl (k := 2) rfl (by assumption) | exact Rd.sl (k := 3) rfl (by assumption))) hS.rd ?_
    refine LW.hv rfl rfl rfl rfl (Hv.callS hS rfl rfl rfl cb42 (adapt1_c l[i] key b6 _ (hS.imm.cell hb))) fun v w16 ⟨hv, hS⟩ => ?_
    subst hv
    refine LW.splitB (fun h4_5 => ?_) (fun h4_5 => ?_)
    · skip
      refine LW.nil fun aa ha => hK10 _ _ _ ?_ aa ha
      refine CW.yes rfl ?_
      refine CW.seq fun K11 hK11 => ?_
      refine CW.region [0, 1] rfl ?_
      refine LW.ex rfl rfl rfl rfl (Ex.move rfl) hS.rd ?_
      refine LW.ex rfl rfl rfl rfl (Ex.assign rfl) hS.rd ?_
      refine LW.nil fun aa ha => hK11 _ _ _ ?_ aa ha
      refine CW.ret fun aa ha => ?_
      refine ret_one ha Try.results41 rfl ?_
      refine hS.retI ?_
      unfold idxOf; rw [findIdx?_at _ l i h1 hin h4_5]
    · skip
      refine LW.nil fun aa ha => hK10 _ _ _ ?_ aa ha
      refine CW.no rfl ?_
      refine CW.skip fun aa ha => hK8 _ _ _ ?_ aa ha
      refine CW.region [0, 1] rfl ?_
      refine LW.ex rfl rfl rfl rfl (Ex.add rfl rfl (by first | exact inc64 (by omega) | exact addN (by omega) | exact w64 (by omega) (by omega))) hS.rd ?_
      refine LW.ex rfl rfl rfl rfl (Ex.move rfl) hS.rd ?_
      refine LW.nil fun aa ha => ?_
      refine ⟨_, _, ?m2, ⟨i + 1, (by first | omega | (simp; done) | (simp; omega)), rfl, rfl, hS, ?_⟩, ha.sub ⟨rfl, rfl, rfl, rfl, trivial⟩⟩
      case m2 => omega
      intro j hj hji
      by_cases hji : j = i
      · subst hji; exact h4_5
      · exact hin j hj (by omega)
  · have h2_0 := of_decide_eq_false h2_0
    refine LW.nil fun aa ha => hK6 _ _ _ ?_ aa ha
    refine CW.seq fun K12 hK12 => ?_
    refine CW.no rfl ?_
    refine CW.exit fun aa ha => hK4 _ _ _ ?_ aa ha
    refine CW.seq fun K13 hK13 => ?_
    refine CW.region [0] rfl ?_
    refine LW.ex rfl rfl rfl rfl (Ex.assign rfl) hS.rd ?_
    refine LW.nil fun aa ha => hK13 _ _ _ ?_ aa ha
    refine CW.ret fun aa ha => ?_
    refine ret_one ha Try.results41 rfl ?_
    refine hS.retI ?_
    have e : l.findIdx? (fun a => decide (a.Key = key)) = none := by
      rw [List.findIdx?_eq_none_iff]
      intro a ha
      obtain ⟨j, hj, rfl⟩ := List.getElem_of_mem ha
      exact hin j hj (by omega)
    unfold idxOf; rw [e]

/-- The tap of a key, after a touch that missed the middle by dx and dy. -/
def tapNext (t : Tap) (dx dy : Int) : Tap := if t.N + 1 > 63 then ⟨t.Key, (t.DX + dx).tdiv 2, (t.DY + dy).tdiv 2, (t.N + 1).tdiv 2⟩ else ⟨t.Key, t.DX + dx, t.DY + dy, t.N + 1⟩
/-- The taps with one of the key. -/
def withTap (taps : List Tap) (key : UInt8) : List Tap := if hitAt taps key (posOf taps key) then taps else taps.take (posOf taps key) ++ ⟨key, 0, 0, 0⟩ :: taps.drop (posOf taps key)
/-- area.Adapt -/
def adaptA (l : List Area) (taps : List Tap) (key : UInt8) (p : Pt) : List Tap × Int :=
  if inP p = false then ([], 1) else match l.find? (fun a => decide (a.Key = key)) with
    | none => ([], 210)
    | some a => ((withTap taps key).set (posOf taps key) (tapNext ((withTap taps key).getD (posOf taps key) ⟨key, 0, 0, 0⟩) (p.X - (a.X0 + a.X1).tdiv 2) (p.Y - (a.Y0 + a.Y1).tdiv 2)), 0)
def IsAdapt (r : List Tap × Int) (μ : Mem) (v : Value) : Prop := ∃ ad c, v = .tuple #[.slice ad r.1.length c, .int .i64 r.2] ∧ Sl μ ad c r.1

theorem idx_none {l : List Area} {key : UInt8} (h : idxOf l key < 0) : l.find? (fun a => decide (a.Key = key)) = none := by
  unfold idxOf at h
  cases e : l.findIdx? (fun a => decide (a.Key = key)) with
  | some i => rw [e] at h; simp only at h; omega
  | none => rw [List.findIdx?_eq_none_iff] at e; rw [List.find?_eq_none]; intro a ha; have := e a ha; simpa using this
theorem idx_some {l : List Area} {key : UInt8} (h : ¬ idxOf l key < 0) : ∃ (i : Nat) (hi : i < l.length), idxOf l key = i ∧ l[i].Key = key ∧ l.find? (fun a => decide (a.Key = key)) = some l[i] := by
  unfold idxOf at h ⊢
  cases e : l.findIdx? (fun a => decide (a.Key = key)) with
  | none => rw [e] at h; simp at h
  | some i =>
    obtain ⟨hi, h1, h2⟩ := List.findIdx?_eq_some_iff_getElem.1 e
    refine ⟨i, hi, rfl, by simpa using h1, ?_⟩
    rw [List.find?_eq_some_iff_getElem]
    exact ⟨h1, i, hi, rfl, fun j hj => by have := h2 j hj; simpa using this⟩
theorem flatMap_set {α : Type} {enc : α → List Value} {k : Nat} (hk : ∀ x, (enc x).length = k) (h0 : 0 < k) (xs : List α) (i : Nat) (hi : i < xs.length) (j : Nat) (hj : j < k) (x' : α) (v : Value) (hx : (enc xs[i]).set j v = enc x') : (xs.flatMap enc).set (i * k + j) v = (xs.set i x').flatMap enc := by
  apply List.ext_getElem?
  intro t
  rw [flatMap_get hk h0]
  by_cases ht : t / k = i
  · have h1 : (xs.set i x')[t / k]? = some x' := by rw [ht, List.getElem?_set_self hi]
    rw [h1]
    simp only [Option.bind_some]
    have h2 : t = i * k + t % k := by rw [← ht]; exact (Nat.div_add_mod' t k).symm
    by_cases hm : t % k = j
    · rw [hm] at h2
      rw [← h2, List.getElem?_set_self (by rw [flatMap_len hk, h2]; have := Nat.mul_le_mul_right k (show i + 1 ≤ xs.length by omega); rw [Nat.add_mul] at this; omega), hm, ← hx, List.getElem?_set_self (by rw [hk]; exact hj)]
    · rw [List.getElem?_set_ne (by omega), flatMap_get hk h0, ht, List.getElem?_eq_getElem hi]
      simp only [Option.bind_some]
      rw [← hx, List.getElem?_set_ne (Ne.symm hm)]
  · have h1 : (xs.set i x')[t / k]? = xs[t / k]? := List.getElem?_set_ne (Ne.symm ht)
    rw [h1, ← flatMap_get hk h0, List.getElem?_set_ne]
    rintro rfl
    apply ht
    rw [Nat.mul_comm, Nat.mul_add_div h0, Nat.div_eq_of_lt hj, Nat.add_zero]
theorem tap_cell (ys : List Tap) (i : Nat) (t : Tap) (hi : i < ys.length) (j : Nat) (hj : j < 4) : ((ys.set i t).flatMap tapL)[0 + i * 4 + j]? = (tapL t)[j]? := by
  rw [flatMap_get tapL_len (by decide), show (0 + i * 4 + j) / 4 = i by omega, show (0 + i * 4 + j) % 4 = j by omega, List.getElem?_set_self hi]; rfl
theorem tap_set (ys : List Tap) (i : Nat) (t t' : Tap) (hi : i < ys.length) (j : Nat) (hj : j < 4) (v : Value) (h : (tapL t).set j v = tapL t') : ((ys.set i t).flatMap tapL).set (0 + i * 4 + j) v = (ys.set i t').flatMap tapL := by
  have h1 := flatMap_set tapL_len (by decide) (ys.set i t) i (by simpa using hi) j hj t' v (by rw [List.getElem_set_self]; exact h)
  rw [List.set_set] at h1
  rw [show 0 + i * 4 + j = i * 4 + j by omega]; exact h1
theorem tdiv2_in {a B : Int} (h : -B ≤ a ∧ a ≤ B) : -B ≤ a.tdiv 2 ∧ a.tdiv 2 ≤ B := by
  have h1 : (a.tdiv 2).natAbs ≤ a.natAbs := by rw [Int.natAbs_tdiv]; exact Nat.div_le_self _ _
  omega
theorem withTap_pos (taps : List Tap) (key : UInt8) : posOf taps key < (withTap taps key).length := by
  have hp := pos_le taps key
  unfold withTap
  cases hh : hitAt taps key (posOf taps key) with
  | true => simpa using (hit_get hh).1
  | false => simp; omega
theorem withTap_bound {taps : List Tap} (key : UInt8) (hT : ∀ t ∈ taps, TapB t) : ∀ t ∈ withTap taps key, -100000 ≤ t.DX ∧ t.DX ≤ 100000 ∧ -100000 ≤ t.DY ∧ t.DY ≤ 100000 ∧ 0 ≤ t.N ∧ t.N ≤ 1000 := by
  intro t ht
  have h1 : ∀ t ∈ taps, -100000 ≤ t.DX ∧ t.DX ≤ 100000 ∧ -100000 ≤ t.DY ∧ t.DY ≤ 100000 ∧ 0 ≤ t.N ∧ t.N ≤ 1000 := fun t h => by
    obtain ⟨⟨a, b⟩, ⟨c, d⟩, ⟨e, f⟩⟩ := hT t h; omega
  unfold withTap at ht
  split at ht
  · exact h1 t ht
  · rw [List.mem_append, List.mem_cons] at ht
    rcases ht with h | rfl | h
    · exact h1 t (List.mem_of_mem_take h)
    · simp
    · exact h1 t (List.mem_of_mem_drop h)
set_option maxRecDepth 100000 in
set_option maxHeartbeats 1000000 in
theorem adapt_c (l : List Area) (taps : List Tap) (key : UInt8) (p : Pt) (v1 v2 : Value) (ada adt : Option Addr) (ca ct : Nat) (μ : Mem) (w : World) (hμ : Imm μ w) (hl : Sl μ ada ca l) (ht : Sl μ adt ct taps) (hB : ∀ a ∈ l, ArB a) (hT : ∀ t ∈ taps, TapB t) (hr : Rising taps) (hll : l.length ≤ 1000) (htl : taps.length ≤ 1000) :
    Calls Try.prog 17 #[.agg #[.slice ada l.length ca, v1, v2], .slice adt taps.length ct, .int .u8 key.toNat, ptV p] w (RetV w μ (IsAdapt (adaptA l taps key p))) := by
  have hS := St.start w μ hμ
  refine calls_start 119 [.agg #[.slice ada l.length ca, v1, v2], .slice adt taps.length ct, .int .u8 key.toNat, ptV p] Try.func17 rfl Try.ntmps17 rfl rfl ?_
  refine CW.seq fun K14 hK14 => ?_
  refine CW.region [0, 1, 2, 3, 4] rfl ?_
  refine LW.hv rfl rfl rfl rfl (Hv.boxS hS rfl rfl) fun v w4 ⟨b4, hv, hb4, hS⟩ => ?_
  subst hv
  refine LW.hv rfl rfl rfl rfl (Hv.boxS hS rfl rfl) fun v w6 ⟨b6, hv, hb6, hS⟩ => ?_
  subst hv
  refine LW.hv rfl rfl rfl rfl (Hv.boxS hS rfl rfl) fun v w7 ⟨b7, hv, hb7, hS⟩ => ?_
  subst hv
  refine LW.ex rfl rfl rfl rfl (Ex.assign rfl) hS.rd ?_
  refine LW.ex rfl rfl rfl rfl (Ex.assign rfl) hS.rd ?_
  refine LW.nil fun aa ha => hK14 _ _ _ ?_ aa ha
  refine CW.seq fun K15 hK15 => ?_
  refine CW.seq fun K16 hK16 => ?_
  refine CW.region [0, 1, 2, 3] rfl ?_
  refine LW.ex rfl rfl rfl rfl (Ex.load2c ti36 rfl rfl (by first | exact Rd.obj (k := 0) rfl rfl | exact Rd.obj (k := 1) rfl rfl | exact Rd.obj (k := 2) rfl rfl | exact Rd.obj (k := 3) rfl rfl | exact Rd.obj (k := 4) rfl rfl | exact Rd.imm (by assumption) | exact Rd.sl (k := 0) rfl (by assumption) | exact Rd.sl (k := 1) rfl (by assumption) | exact Rd.sl (k := 2) rfl (by assumption) | exact Rd.sl (k := 3) rfl (by assumption)) (by first | exact Rd.obj (k := 0) rfl rfl | exact Rd.obj (k := 1) rfl rfl | exact Rd.obj (k := 2) rfl rfl | exact Rd.obj (k := 3) rfl rfl | exact Rd.obj (k := 4) rfl rfl | exact Rd.imm (by assumption) | exact Rd.sl (k := 0) rfl (by assumption) | exact Rd.sl (k := 1) rfl (by assumption) | exact Rd.sl (k := 2) rfl (by assumption) | exact Rd.sl (k := 3) rfl (by assumption))) hS.rd ?_
  refine LW.hv rfl rfl rfl rfl (Hv.buildSl hS Try.underlying53 ti36 rfl rfl rfl rfl rfl rfl) fun v w17 ⟨b17, hv, hb17, hS⟩ => ?_
  subst hv
  refine LW.hv rfl rfl rfl rfl (Hv.callS hS rfl rfl rfl cb31 (inside_c [p] _ _ (memOf _) _ (imm_memOf _) (hS.lend_obj (k := 0) rfl (ptReps _ [p]) (by simp [maxLen])))) fun v w18 ⟨hv, hS⟩ => ?_
  subst hv
  rw [show [p].all inP = inP p by simp]
  refine LW.splitB (fun h1_2 => ?_) (fun h1_2 => ?_)
  · skip
    refine LW.ex rfl rfl rfl rfl (Ex.not rfl rfl) hS.rd ?_
    refine LW.nil fun aa ha => hK16 _ _ _ ?_ aa ha
    refine CW.no rfl ?_
    refine CW.skip fun aa ha => hK15 _ _ _ ?_ aa ha
    refine CW.seq fun K17 hK17 => ?_
    have hpb : 0 ≤ p.X ∧ p.X ≤ 1000 ∧ 0 ≤ p.Y ∧ p.Y ≤ 1000 := by simp only [inP, Bool.and_eq_true, decide_eq_true_eq] at h1_2; omega
    refine CW.region [0, 1, 2, 3, 4] rfl ?_
    refine LW.ex rfl rfl rfl rfl (Ex.fieldO 0 Try.underlying31 rfl rfl ti27 rfl) hS.rd ?_
    refine LW.ex rfl rfl rfl rfl (Ex.load1 ti27 rfl rfl (by first | exact Rd.obj (k := 0) rfl rfl | exact Rd.obj (k := 1) rfl rfl | exact Rd.obj (k := 2) rfl rfl | exact Rd.obj (k := 3) rfl rfl | exact Rd.obj (k := 4) rfl rfl | exact Rd.imm (by assumption) | exact Rd.sl (k := 0) rfl (by assumption) | exact Rd.sl (k := 1) rfl (by assumption) | exact Rd.sl (k := 2) rfl (by assumption) | exact Rd.sl (k := 3) rfl (by assumption))) hS.rd ?_
    refine LW.ex rfl rfl rfl rfl (Ex.makeFunc rfl) hS.rd ?_
    refine LW.hv rfl rfl rfl rfl (Hv.callS hS rfl rfl rfl cb41 (index_c l key b6 _ _ (memOf _) _ (imm_memOf _) (hl.mono hS.imm.ext) (memOf_cell (Rd.obj (k := 2) rfl rfl _ hS.rd)))) fun v w23 ⟨hv, hS⟩ => ?_
    subst hv
    refine LW.ex rfl rfl rfl rfl (Ex.assign rfl) hS.rd ?_
    refine LW.nil fun aa ha => hK17 _ _ _ ?_ aa ha
    refine CW.seq fun K18 hK18 => ?_
    refine CW.seq fun K19 hK19 => ?_
    refine CW.region [0, 1] rfl ?_
    refine LW.ex rfl rfl rfl rfl (Ex.move rfl) hS.rd ?_
    refine LW.ex rfl rfl rfl rfl (Ex.lss rfl rfl rfl) hS.rd ?_
    refine LW.splitB (fun h4_1 => ?_) (fun h4_1 => ?_)
    · have h4_1 := of_decide_eq_true h4_1
      refine LW.nil fun aa ha => hK19 _ _ _ ?_ aa ha
      refine CW.yes rfl ?_
      refine CW.seq fun K20 hK20 => ?_
      refine CW.region [0, 1] rfl ?_
      refine LW.ex rfl rfl rfl rfl (Ex.assign rfl) hS.rd ?_
      refine LW.ex rfl rfl rfl rfl (Ex.assign rfl) hS.rd ?_
      refine LW.nil fun aa ha => hK20 _ _ _ ?_ aa ha
      refine CW.ret fun aa ha => ?_
      refine ret_two ha Try.results17 rfl rfl ?_
      refine ⟨_, μ, rfl, hS.below, Mem.ext.refl _ _, hS.imm, ?_⟩
      rw [adaptA, if_neg (by rw [h1_2]; simp), idx_none h4_1]; exact ⟨none, 0, rfl, Sl.nil _ _ _ (by simp [maxLen])⟩
    · have h4_1 := of_decide_eq_false h4_1
      refine LW.nil fun aa ha => hK19 _ _ _ ?_ aa ha
      refine CW.no rfl ?_
      refine CW.skip fun aa ha => hK18 _ _ _ ?_ aa ha
      refine CW.seq fun K21 hK21 => ?_
      obtain ⟨i, hi, hei, hki, hfi⟩ := idx_some h4_1
      rw [hei]
      obtain ⟨bl, ol, rfl, k0, k1, k2, k3, k4⟩ := hl.at hi
      refine CW.region [0, 1, 2, 3, 4, 5, 6] rfl ?_
      refine LW.ex rfl rfl rfl rfl (Ex.fieldO 0 Try.underlying31 rfl rfl ti27 rfl) hS.rd ?_
      refine LW.ex rfl rfl rfl rfl (Ex.load1 ti27 rfl rfl (by first | exact Rd.obj (k := 0) rfl rfl | exact Rd.obj (k := 1) rfl rfl | exact Rd.obj (k := 2) rfl rfl | exact Rd.obj (k := 3) rfl rfl | exact Rd.obj (k := 4) rfl rfl | exact Rd.imm (by assumption) | exact Rd.sl (k := 0) rfl (by assumption) | exact Rd.sl (k := 1) rfl (by assumption) | exact Rd.sl (k := 2) rfl (by assumption) | exact Rd.sl (k := 3) rfl (by assumption))) hS.rd ?_
      refine LW.ex rfl rfl rfl rfl (Ex.move rfl) hS.rd ?_
      refine LW.ex rfl rfl rfl rfl (Ex.indexSl Try.underlying27 ti57 rfl rfl rfl (by omega)) hS.rd ?_
      refine LW.ex rfl rfl rfl rfl (Ex.load5c ti57 rfl rfl (by first | exact Rd.obj (k := 0) rfl rfl | exact Rd.obj (k := 1) rfl rfl | exact Rd.obj (k := 2) rfl rfl | exact Rd.obj (k := 3) rfl rfl | exact Rd.obj (k := 4) rfl rfl | exact Rd.imm (by assumption) | exact Rd.sl (k := 0) rfl (by assumption) | exact Rd.sl (k := 1) rfl (by assumption) | exact Rd.sl (k := 2) rfl (by assumption) | exact Rd.sl (k := 3) rfl (by assumption)) (by first | exact Rd.obj (k := 0) rfl rfl | exact Rd.obj (k := 1) rfl rfl | exact Rd.obj (k := 2) rfl rfl | exact Rd.obj (k := 3) rfl rfl | exact Rd.obj (k := 4) rfl rfl | exact Rd.imm (by assumption) | exact Rd.sl (k := 0) rfl (by assumption) | exact Rd.sl (k := 1) rfl (by assumption) | exact Rd.sl (k := 2) rfl (by assumption) | exact Rd.sl (k := 3) rfl (by assumption)) (by first | exact Rd.obj (k := 0) rfl rfl | exact Rd.obj (k := 1) rfl rfl | exact Rd.obj (k := 2) rfl rfl | exact Rd.obj (k := 3) rfl rfl | exact Rd.obj (k := 4) rfl rfl | exact Rd.imm (by assumption) | exact Rd.sl (k := 0) rfl (by assumption) | exact Rd.sl (k := 1) rfl (by assumption) | exact Rd.sl (k := 2) rfl (by assumption) | exact Rd.sl (k := 3) rfl (by assumption)) (by first | exact Rd.obj (k := 0) rfl rfl | exact Rd.obj (k := 1) rfl rfl | exact Rd.obj (k := 2) rfl rfl | exact Rd.obj (k := 3) rfl rfl | exact Rd.obj (k := 4) rfl rfl | exact Rd.imm (by assumption) | exact Rd.sl (k := 0) rfl (by assumption) | exact Rd.sl (k := 1) rfl (by assumption) | exact Rd.sl (k := 2) rfl (by assumption) | exact Rd.sl (k := 3) rfl (by assumption)) (by first | exact Rd.obj (k := 0) rfl rfl | exact Rd.obj (k := 1) rfl rfl | exact Rd.obj (k := 2) rfl rfl | exact Rd.obj (k := 3) rfl rfl | exact Rd.obj (k := 4) rfl rfl | exact Rd.imm (by assumption) | exact Rd.sl (k := 0) rfl (by assumption) | exact Rd.sl (k := 1) rfl (by assumption) | exact Rd.sl (k := 2) rfl (by assumption) | exact Rd.sl (k := 3) rfl (by assumption))) hS.rd ?_
      refine LW.hv rfl rfl rfl rfl (Hv.alloc ti57 hS) fun v w11 ⟨b11, hv, hb11, hS⟩ => ?_
      subst hv
      refine LW.hu rfl rfl rfl (Hv.storeN (k := 0) ti57 hS rfl rfl rfl rfl (by simp [Value.oneCell'])) fun _ w_6 hS => ?_
      dsimp only [List.set] at hS
      refine LW.nil fun aa ha => hK21 _ _ _ ?_ aa ha
      refine CW.seq fun K22 hK22 => ?_
      refine CW.region [0, 1, 2] rfl ?_
      refine LW.ex rfl rfl rfl rfl (Ex.move rfl) hS.rd ?_
      refine LW.hv rfl rfl rfl rfl (Hv.callM rfl rfl rfl cb43 (cloneT_c hS ht (by omega))) fun v w32 ⟨ad32, c32, hv, hS⟩ => ?_
      subst hv
      refine LW.ex rfl rfl rfl rfl (Ex.assign rfl) hS.rd ?_
      refine LW.nil fun aa ha => hK22 _ _ _ ?_ aa ha
      refine CW.seq fun K23 hK23 => ?_
      refine CW.region [0, 1, 2, 3, 4, 5, 6, 7] rfl ?_
      refine LW.ex rfl rfl rfl rfl (Ex.move rfl) hS.rd ?_
      refine LW.ex rfl rfl rfl rfl (Ex.load1 ti5 rfl rfl (by first | exact Rd.obj (k := 0) rfl rfl | exact Rd.obj (k := 1) rfl rfl | exact Rd.obj (k := 2) rfl rfl | exact Rd.obj (k := 3) rfl rfl | exact Rd.obj (k := 4) rfl rfl | exact Rd.imm (by assumption) | exact Rd.sl (k := 0) rfl (by assumption) | exact Rd.sl (k := 1) rfl (by assumption) | exact Rd.sl (k := 2) rfl (by assumption) | exact Rd.sl (k := 3) rfl (by assumption))) hS.rd ?_
      refine LW.hv rfl rfl rfl rfl (Hv.callS hS rfl rfl rfl cb44 (find_c taps key _ _ (memOf _) _ (imm_memOf _) (hS.lend_sl 0 rfl (tapReps _ _) rfl) hr htl)) fun v w36 ⟨hv, hS⟩ => ?_
      subst hv
      refine LW.ex rfl rfl rfl rfl (Ex.move rfl) hS.rd ?_
      refine LW.ex rfl rfl rfl rfl (Ex.extract rfl rfl) hS.rd ?_
      refine LW.ex rfl rfl rfl rfl (Ex.extract rfl rfl) hS.rd ?_
      refine LW.ex rfl rfl rfl rfl (Ex.assign rfl) hS.rd ?_
      refine LW.ex rfl rfl rfl rfl (Ex.assign rfl) hS.rd ?_
      refine LW.nil fun aa ha => hK23 _ _ _ ?_ aa ha
      refine CW.seq fun K24 hK24 => ?_
      have hJ9 : ∀ (wj : World) (ado : Option Addr) (co : Nat), St w wj μ [Own.sl ado (withTap taps key).length co 82 4 ((withTap taps key).flatMap tapL), Own.obj b11 (areaL l[i]) 57, Own.obj b17 [.int .i64 p.X, .int .i64 p.Y] 36, Own.obj b7 [.int .i64 p.X, .int .i64 p.Y] 36, Own.obj b6 [.int .u8 key.toNat] 5, Own.obj b4 [.slice (some ⟨bl, ol, none⟩) l.length ca, v1, v2] 31] → KW K24 119 [(7, .pointer (some ⟨b7, 0, none⟩)), (11, .pointer (some ⟨b11, 0, none⟩)), (12, .slice ado (withTap taps key).length co), (13, .int .i64 (posOf taps key))] wj := by
        intro wj ado co hS 
        refine hK24 _ _ _ ?_
        have hpos := withTap_pos taps key
        have hbd := withTap_bound key hT
        obtain ⟨ys, hys⟩ : ∃ ys, ys = withTap taps key := ⟨_, rfl⟩
        rw [← hys] at hS hpos hbd ⊢
        obtain ⟨pp, hpp⟩ : ∃ pp, pp = posOf taps key := ⟨_, rfl⟩
        rw [← hpp] at hpos ⊢
        obtain ⟨t0, ht0⟩ : ∃ t0, t0 = ys[pp] := ⟨_, rfl⟩
        have hb0 := hbd t0 (by rw [ht0]; exact List.getElem_mem _)
        have hset : ys = ys.set pp t0 := by rw [ht0, List.set_getElem_self]
        obtain ⟨gO, rfl⟩ := hS.sl_some 0 rfl (by omega)
        have hA := hB _ (List.getElem_mem hi)
        obtain ⟨⟨a1, a2⟩, ⟨a3, a4⟩, ⟨a5, a6⟩, ⟨a7, a8⟩⟩ := hA
        have hmx := tdiv2_in (a := l[i].X0 + l[i].X1) (B := 20000) ⟨by omega, by omega⟩
        have hmy := tdiv2_in (a := l[i].Y0 + l[i].Y1) (B := 20000) ⟨by omega, by omega⟩
        have hlen : ∀ t, ((ys.set pp t).flatMap tapL).length = ys.length * 4 := fun t => by rw [flatMap_len tapL_len, List.length_set]
        have hl0 := hlen t0
        have hc := fun t j hj => tap_cell ys pp t hpos j hj
        rw [show Own.sl (some ⟨gO, 0, none⟩) ys.length co 82 4 (ys.flatMap tapL) = Own.sl (some ⟨gO, 0, none⟩) ys.length co 82 4 ((ys.set pp t0).flatMap tapL) by rw [← hset]] at hS
        have hq1 := hc t0 1 (by decide)
        have hq2 := hc t0 2 (by decide)
        have hq3 := hc t0 3 (by decide)
        refine CW.seq fun K25 hK25 => ?_
        refine CW.region [0, 1, 2, 3] rfl ?_
        refine LW.ex rfl rfl rfl rfl (Ex.move rfl) hS.rd ?_
        refine LW.ex rfl rfl rfl rfl (Ex.move rfl) hS.rd ?_
        refine LW.ex rfl rfl rfl rfl (Ex.indexSl Try.underlying33 ti82 rfl rfl rfl hpos) hS.rd ?_
        refine LW.ex rfl rfl rfl rfl (Ex.assign rfl) hS.rd ?_
        refine LW.nil fun aa ha => hK25 _ _ _ ?_ aa ha
        refine CW.seq fun K26 hK26 => ?_
        have hS := hS.drew
        refine CW.draw 16 (.ex 0 <| .ex 1 <| .ex 2 <| .ex 3 <| .ex 4 <| .ex 5 <| .ex 6 <| .ex 7 <| .ex 8 <| .ex 9 <| .ex 10 <| .ex 11 <| .ex 12 <| .ex 13 <| .ex 14 <| .ex 15 <| .done) [16] (Rd _ _) mixed (by kernel_rfl) rfl rfl hS.rd ?_
        refine PW.ex rfl rfl rfl rfl (Ex.move rfl) ?_
        refine PW.ex rfl rfl rfl rfl (Ex.nilCheck rfl) ?_
        refine PW.ex rfl rfl rfl rfl (Ex.fieldO 1 Try.underlying82 rfl rfl ti3 rfl) ?_
        refine PW.ex rfl rfl rfl rfl (Ex.load1 ti3 rfl rfl (by first | exact Rd.obj (k := 0) rfl rfl | exact Rd.obj (k := 1) rfl rfl | exact Rd.obj (k := 2) rfl rfl | exact Rd.obj (k := 3) rfl rfl | exact Rd.obj (k := 4) rfl rfl | exact Rd.imm (by assumption) | exact Rd.sl (k := 0) rfl (by assumption) | exact Rd.sl (k := 1) rfl (by assumption) | exact Rd.sl (k := 2) rfl (by assumption) | exact Rd.sl (k := 3) rfl (by assumption))) ?_
        refine PW.ex rfl rfl rfl rfl (Ex.fieldO 0 Try.underlying36 rfl rfl ti3 rfl) ?_
        refine PW.ex rfl rfl rfl rfl (Ex.load1 ti3 rfl rfl (by first | exact Rd.obj (k := 0) rfl rfl | exact Rd.obj (k := 1) rfl rfl | exact Rd.obj (k := 2) rfl rfl | exact Rd.obj (k := 3) rfl rfl | exact Rd.obj (k := 4) rfl rfl | exact Rd.imm (by assumption) | exact Rd.sl (k := 0) rfl (by assumption) | exact Rd.sl (k := 1) rfl (by assumption) | exact Rd.sl (k := 2) rfl (by assumption) | exact Rd.sl (k := 3) rfl (by assumption))) ?_
        refine PW.ex rfl rfl rfl rfl (Ex.fieldO 1 Try.underlying57 rfl rfl ti3 rfl) ?_
        refine PW.ex rfl rfl rfl rfl (Ex.load1 ti3 rfl rfl (by first | exact Rd.obj (k := 0) rfl rfl | exact Rd.obj (k := 1) rfl rfl | exact Rd.obj (k := 2) rfl rfl | exact Rd.obj (k := 3) rfl rfl | exact Rd.obj (k := 4) rfl rfl | exact Rd.imm (by assumption) | exact Rd.sl (k := 0) rfl (by assumption) | exact Rd.sl (k := 1) rfl (by assumption) | exact Rd.sl (k := 2) rfl (by assumption) | exact Rd.sl (k := 3) rfl (by assumption))) ?_
        refine PW.ex rfl rfl rfl rfl (Ex.fieldO 3 Try.underlying57 rfl rfl ti3 rfl) ?_
        refine PW.ex rfl rfl rfl rfl (Ex.load1 ti3 rfl rfl (by first | exact Rd.obj (k := 0) rfl rfl | exact Rd.obj (k := 1) rfl rfl | exact Rd.obj (k := 2) rfl rfl | exact Rd.obj (k := 3) rfl rfl | exact Rd.obj (k := 4) rfl rfl | exact Rd.imm (by assumption) | exact Rd.sl (k := 0) rfl (by assumption) | exact Rd.sl (k := 1) rfl (by assumption) | exact Rd.sl (k := 2) rfl (by assumption) | exact Rd.sl (k := 3) rfl (by assumption))) ?_
        refine PW.ex rfl rfl rfl rfl (Ex.add rfl rfl (by first | exact inc64 (by omega) | exact addN (by omega) | exact w64 (by omega) (by omega))) ?_
        refine PW.ex rfl rfl rfl rfl (Ex.quo rfl rfl (by omega) (quo_in ⟨by omega, by omega⟩)) ?_
        refine PW.ex rfl rfl rfl rfl (Ex.sub rfl rfl (w64 (by omega) (by omega))) ?_
        refine PW.ex rfl rfl rfl rfl (Ex.add rfl rfl (w64 (by omega) (by omega))) ?_
        refine PW.ex rfl rfl rfl rfl (Ex.nilCheck rfl) ?_
        refine PW.ex rfl rfl rfl rfl (Ex.fieldO 1 Try.underlying82 rfl rfl ti3 rfl) ?_
        refine PW.nil ?_
        refine LW.hu rfl rfl rfl (Hv.storeSl (k := 0) ti3 hS rfl rfl rfl rfl (by first | (simp; done) | omega)) fun _ w_16 hS => ?_
        dsimp only [List.set] at hS
        refine LW.nil fun aa ha => hK26 _ _ _ ?_ aa ha
        refine CW.seq fun K27 hK27 => ?_
        obtain ⟨t1, ht1⟩ : ∃ t1 : Tap, t1 = ⟨t0.Key, t0.DX + (p.X - (l[i].X0 + l[i].X1).tdiv 2), t0.DY, t0.N⟩ := ⟨_, rfl⟩
        rw [tap_set ys pp t0 t1 hpos 1 (by decide) _ (by rw [ht1]; rfl)] at hS
        have hq1 := hc t1 1 (by decide)
        have hq2 := hc t1 2 (by decide)
        have hq3 := hc t1 3 (by decide)
        have hl0 := hlen t1
        have hb1 : -200000 ≤ t1.DX ∧ t1.DX ≤ 200000 ∧ -100000 ≤ t1.DY ∧ t1.DY ≤ 100000 ∧ 0 ≤ t1.N ∧ t1.N ≤ 1000 := by rw [ht1]; simp only; omega
        have hS := hS.drew
        refine CW.draw 16 (.ex 0 <| .ex 1 <| .ex 2 <| .ex 3 <| .ex 4 <| .ex 5 <| .ex 6 <| .ex 7 <| .ex 8 <| .ex 9 <| .ex 10 <| .ex 11 <| .ex 12 <| .ex 13 <| .ex 14 <| .ex 15 <| .done) [16] (Rd _ _) mixed (by kernel_rfl) rfl rfl hS.rd ?_
        refine PW.ex rfl rfl rfl rfl (Ex.move rfl) ?_
        refine PW.ex rfl rfl rfl rfl (Ex.nilCheck rfl) ?_
        refine PW.ex rfl rfl rfl rfl (Ex.fieldO 2 Try.underlying82 rfl rfl ti3 rfl) ?_
        refine PW.ex rfl rfl rfl rfl (Ex.load1 ti3 rfl rfl (by first | exact Rd.obj (k := 0) rfl rfl | exact Rd.obj (k := 1) rfl rfl | exact Rd.obj (k := 2) rfl rfl | exact Rd.obj (k := 3) rfl rfl | exact Rd.obj (k := 4) rfl rfl | exact Rd.imm (by assumption) | exact Rd.sl (k := 0) rfl (by assumption) | exact Rd.sl (k := 1) rfl (by assumption) | exact Rd.sl (k := 2) rfl (by assumption) | exact Rd.sl (k := 3) rfl (by assumption))) ?_
        refine PW.ex rfl rfl rfl rfl (Ex.fieldO 1 Try.underlying36 rfl rfl ti3 rfl) ?_
        refine PW.ex rfl rfl rfl rfl (Ex.load1 ti3 rfl rfl (by first | exact Rd.obj (k := 0) rfl rfl | exact Rd.obj (k := 1) rfl rfl | exact Rd.obj (k := 2) rfl rfl | exact Rd.obj (k := 3) rfl rfl | exact Rd.obj (k := 4) rfl rfl | exact Rd.imm (by assumption) | exact Rd.sl (k := 0) rfl (by assumption) | exact Rd.sl (k := 1) rfl (by assumption) | exact Rd.sl (k := 2) rfl (by assumption) | exact Rd.sl (k := 3) rfl (by assumption))) ?_
        refine PW.ex rfl rfl rfl rfl (Ex.fieldO 2 Try.underlying57 rfl rfl ti3 rfl) ?_
        refine PW.ex rfl rfl rfl rfl (Ex.load1 ti3 rfl rfl (by first | exact Rd.obj (k := 0) rfl rfl | exact Rd.obj (k := 1) rfl rfl | exact Rd.obj (k := 2) rfl rfl | exact Rd.obj (k := 3) rfl rfl | exact Rd.obj (k := 4) rfl rfl | exact Rd.imm (by assumption) | exact Rd.sl (k := 0) rfl (by assumption) | exact Rd.sl (k := 1) rfl (by assumption) | exact Rd.sl (k := 2) rfl (by assumption) | exact Rd.sl (k := 3) rfl (by assumption))) ?_
        refine PW.ex rfl rfl rfl rfl (Ex.fieldO 4 Try.underlying57 rfl rfl ti3 rfl) ?_
        refine PW.ex rfl rfl rfl rfl (Ex.load1 ti3 rfl rfl (by first | exact Rd.obj (k := 0) rfl rfl | exact Rd.obj (k := 1) rfl rfl | exact Rd.obj (k := 2) rfl rfl | exact Rd.obj (k := 3) rfl rfl | exact Rd.obj (k := 4) rfl rfl | exact Rd.imm (by assumption) | exact Rd.sl (k := 0) rfl (by assumption) | exact Rd.sl (k := 1) rfl (by assumption) | exact Rd.sl (k := 2) rfl (by assumption) | exact Rd.sl (k := 3) rfl (by assumption))) ?_
        refine PW.ex rfl rfl rfl rfl (Ex.add rfl rfl (by first | exact inc64 (by omega) | exact addN (by omega) | exact w64 (by omega) (by omega))) ?_
        refine PW.ex rfl rfl rfl rfl (Ex.quo rfl rfl (by omega) (quo_in ⟨by omega, by omega⟩)) ?_
        refine PW.ex rfl rfl rfl rfl (Ex.sub rfl rfl (w64 (by omega) (by omega))) ?_
        refine PW.ex rfl rfl rfl rfl (Ex.add rfl rfl (w64 (by omega) (by omega))) ?_
        refine PW.ex rfl rfl rfl rfl (Ex.nilCheck rfl) ?_
        refine PW.ex rfl rfl rfl rfl (Ex.fieldO 2 Try.underlying82 rfl rfl ti3 rfl) ?_
        refine PW.nil ?_
        refine LW.hu rfl rfl rfl (Hv.storeSl (k := 0) ti3 hS rfl rfl rfl rfl (by first | (simp; done) | omega)) fun _ w_16 hS => ?_
        dsimp only [List.set] at hS
        refine LW.nil fun aa ha => hK27 _ _ _ ?_ aa ha
        refine CW.seq fun K28 hK28 => ?_
        obtain ⟨t2, ht2⟩ : ∃ t2 : Tap, t2 = ⟨t1.Key, t1.DX, t1.DY + (p.Y - (l[i].Y0 + l[i].Y1).tdiv 2), t1.N⟩ := ⟨_, rfl⟩
        rw [tap_set ys pp t1 t2 hpos 2 (by decide) _ (by rw [ht2]; rfl)] at hS
        have hq1 := hc t2 1 (by decide)
        have hq2 := hc t2 2 (by decide)
        have hq3 := hc t2 3 (by decide)
        have hl0 := hlen t2
        have hb2 : -200000 ≤ t2.DX ∧ t2.DX ≤ 200000 ∧ -200000 ≤ t2.DY ∧ t2.DY ≤ 200000 ∧ 0 ≤ t2.N ∧ t2.N ≤ 1000 := by rw [ht2]; simp only; omega
        refine CW.region [0, 1, 2, 3, 4, 5, 6, 7] rfl ?_
        refine LW.ex rfl rfl rfl rfl (Ex.move rfl) hS.rd ?_
        refine LW.ex rfl rfl rfl rfl (Ex.nilCheck rfl) hS.rd ?_
        refine LW.ex rfl rfl rfl rfl (Ex.fieldO 3 Try.underlying82 rfl rfl ti3 rfl) hS.rd ?_
        refine LW.ex rfl rfl rfl rfl (Ex.load1 ti3 rfl rfl (by first | exact Rd.obj (k := 0) rfl rfl | exact Rd.obj (k := 1) rfl rfl | exact Rd.obj (k := 2) rfl rfl | exact Rd.obj (k := 3) rfl rfl | exact Rd.obj (k := 4) rfl rfl | exact Rd.imm (by assumption) | exact Rd.sl (k := 0) rfl (by assumption) | exact Rd.sl (k := 1) rfl (by assumption) | exact Rd.sl (k := 2) rfl (by assumption) | exact Rd.sl (k := 3) rfl (by assumption))) hS.rd ?_
        refine LW.ex rfl rfl rfl rfl (Ex.add rfl rfl (w64 (by omega) (by omega))) hS.rd ?_
        refine LW.ex rfl rfl rfl rfl (Ex.nilCheck rfl) hS.rd ?_
        refine LW.ex rfl rfl rfl rfl (Ex.fieldO 3 Try.underlying82 rfl rfl ti3 rfl) hS.rd ?_
        refine LW.hu rfl rfl rfl (Hv.storeSl (k := 0) ti3 hS rfl rfl rfl rfl (by first | (simp; done) | omega)) fun _ w_7 hS => ?_
        dsimp only [List.set] at hS
        refine LW.nil fun aa ha => hK28 _ _ _ ?_ aa ha
        refine CW.seq fun K29 hK29 => ?_
        refine CW.seq fun K30 hK30 => ?_
        obtain ⟨t3, ht3⟩ : ∃ t3 : Tap, t3 = ⟨t2.Key, t2.DX, t2.DY, t2.N + 1⟩ := ⟨_, rfl⟩
        rw [tap_set ys pp t2 t3 hpos 3 (by decide) _ (by rw [ht3]; rfl)] at hS
        have hq1 := hc t3 1 (by decide)
        have hq2 := hc t3 2 (by decide)
        have hq3 := hc t3 3 (by decide)
        have hl0 := hlen t3
        have hb3 : -200000 ≤ t3.DX ∧ t3.DX ≤ 200000 ∧ -200000 ≤ t3.DY ∧ t3.DY ≤ 200000 ∧ 0 ≤ t3.N ∧ t3.N ≤ 1001 := by rw [ht3]; simp only; omega
        have hres : tapNext t0 (p.X - (l[i].X0 + l[i].X1).tdiv 2) (p.Y - (l[i].Y0 + l[i].Y1).tdiv 2) = if t3.N > 63 then ⟨t3.Key, t3.DX.tdiv 2, t3.DY.tdiv 2, t3.N.tdiv 2⟩ else t3 := by rw [ht3, ht2, ht1]; rfl
        have hfin : adaptA l taps key p = (ys.set pp (tapNext t0 (p.X - (l[i].X0 + l[i].X1).tdiv 2) (p.Y - (l[i].Y0 + l[i].Y1).tdiv 2)), 0) := by
          unfold adaptA
          rw [if_neg (by rw [h1_2]; simp), hfi, ← hys, ← hpp]
          simp only
          rw [show ys.getD pp ⟨key, 0, 0, 0⟩ = t0 by rw [ht0, List.getD_eq_getElem?_getD, List.getElem?_eq_getElem hpos]; rfl]
        refine CW.region [0, 1, 2, 3, 4] rfl ?_
        refine LW.ex rfl rfl rfl rfl (Ex.move rfl) hS.rd ?_
        refine LW.ex rfl rfl rfl rfl (Ex.nilCheck rfl) hS.rd ?_
        refine LW.ex rfl rfl rfl rfl (Ex.fieldO 3 Try.underlying82 rfl rfl ti3 rfl) hS.rd ?_
        refine LW.ex rfl rfl rfl rfl (Ex.load1 ti3 rfl rfl (by first | exact Rd.obj (k := 0) rfl rfl | exact Rd.obj (k := 1) rfl rfl | exact Rd.obj (k := 2) rfl rfl | exact Rd.obj (k := 3) rfl rfl | exact Rd.obj (k := 4) rfl rfl | exact Rd.imm (by assumption) | exact Rd.sl (k := 0) rfl (by assumption) | exact Rd.sl (k := 1) rfl (by assumption) | exact Rd.sl (k := 2) rfl (by assumption) | exact Rd.sl (k := 3) rfl (by assumption))) hS.rd ?_
        refine LW.ex rfl rfl rfl rfl (Ex.gtr rfl rfl rfl) hS.rd ?_
        refine LW.splitB (fun h15_4 => ?_) (fun h15_4 => ?_)
        · have h15_4 := of_decide_eq_true h15_4
          refine LW.nil fun aa ha => hK30 _ _ _ ?_ aa ha
          refine CW.yes rfl ?_
          have hS := hS.drew
          refine CW.drawP 20 [1, 2, 12, 17] (.ex 0 <| .pu 1 <| .pu 2 <| .ex 3 <| .ex 4 <| .ex 5 <| .ex 6 <| .ex 7 <| .ex 8 <| .ex 9 <| .ex 10 <| .ex 11 <| .pu 12 <| .ex 13 <| .ex 14 <| .ex 15 <| .ex 16 <| .pu 17 <| .ex 18 <| .ex 19 <| .done) [20, 21, 22, 23, 24, 25, 26] (Rd _ _) (Rd _ _) mixed (by kernel_rfl) rfl rfl (hS.rd.erase 0) hS.rd ?_
          refine QW.ex rfl rfl rfl rfl (Ex.move rfl) ?_
          refine QW.pu rfl rfl rfl rfl (Ex.move rfl) ?_
          refine QW.pu rfl rfl rfl rfl (Ex.move rfl) ?_
          refine QW.ex rfl rfl rfl rfl (Ex.move rfl) ?_
          refine QW.ex rfl rfl rfl rfl (Ex.nilCheck rfl) ?_
          refine QW.ex rfl rfl rfl rfl (Ex.fieldO 1 Try.underlying82 rfl rfl ti3 rfl) ?_
          refine QW.ex rfl rfl rfl rfl (Ex.load1 ti3 rfl rfl (by first | exact Rd.obj (k := 0) rfl rfl | exact Rd.obj (k := 1) rfl rfl | exact Rd.obj (k := 2) rfl rfl | exact Rd.obj (k := 3) rfl rfl | exact Rd.obj (k := 4) rfl rfl | exact Rd.imm (by assumption) | exact Rd.sl (k := 0) rfl (by assumption) | exact Rd.sl (k := 1) rfl (by assumption) | exact Rd.sl (k := 2) rfl (by assumption) | exact Rd.sl (k := 3) rfl (by assumption))) ?_
          refine QW.ex rfl rfl rfl rfl (Ex.quo rfl rfl (by omega) (quo_in ⟨by omega, by omega⟩)) ?_
          refine QW.ex rfl rfl rfl rfl (Ex.move rfl) ?_
          refine QW.ex rfl rfl rfl rfl (Ex.nilCheck rfl) ?_
          refine QW.ex rfl rfl rfl rfl (Ex.fieldO 2 Try.underlying82 rfl rfl ti3 rfl) ?_
          refine QW.ex rfl rfl rfl rfl (Ex.load1 ti3 rfl rfl (by first | exact Rd.obj (k := 0) rfl rfl | exact Rd.obj (k := 1) rfl rfl | exact Rd.obj (k := 2) rfl rfl | exact Rd.obj (k := 3) rfl rfl | exact Rd.obj (k := 4) rfl rfl | exact Rd.imm (by assumption) | exact Rd.sl (k := 0) rfl (by assumption) | exact Rd.sl (k := 1) rfl (by assumption) | exact Rd.sl (k := 2) rfl (by assumption) | exact Rd.sl (k := 3) rfl (by assumption))) ?_
          refine QW.pu rfl rfl rfl rfl (Ex.quo rfl rfl (by omega) (quo_in ⟨by omega, by omega⟩)) ?_
          refine QW.ex rfl rfl rfl rfl (Ex.move rfl) ?_
          refine QW.ex rfl rfl rfl rfl (Ex.nilCheck rfl) ?_
          refine QW.ex rfl rfl rfl rfl (Ex.fieldO 3 Try.underlying82 rfl rfl ti3 rfl) ?_
          refine QW.ex rfl rfl rfl rfl (Ex.load1 ti3 rfl rfl (by first | exact Rd.obj (k := 0) rfl rfl | exact Rd.obj (k := 1) rfl rfl | exact Rd.obj (k := 2) rfl rfl | exact Rd.obj (k := 3) rfl rfl | exact Rd.obj (k := 4) rfl rfl | exact Rd.imm (by assumption) | exact Rd.sl (k := 0) rfl (by assumption) | exact Rd.sl (k := 1) rfl (by assumption) | exact Rd.sl (k := 2) rfl (by assumption) | exact Rd.sl (k := 3) rfl (by assumption))) ?_
          refine QW.pu rfl rfl rfl rfl (Ex.quo rfl rfl (by omega) (quo_in ⟨by omega, by omega⟩)) ?_
          refine QW.ex rfl rfl rfl rfl (Ex.nilCheck rfl) ?_
          refine QW.ex rfl rfl rfl rfl (Ex.fieldO 1 Try.underlying82 rfl rfl ti3 rfl) ?_
          refine QW.nil ?_
          refine TW.hu rfl rfl rfl (Hv.storeSl (k := 0) ti3 hS rfl rfl rfl rfl (by first | (simp; done) | omega)) (fun _ _ h => (h.rd.erase 0)) fun _ w_20 hS => ?_
          dsimp only [List.set] at hS
          obtain ⟨t4, ht4⟩ : ∃ t4 : Tap, t4 = ⟨t3.Key, t3.DX.tdiv 2, t3.DY, t3.N⟩ := ⟨_, rfl⟩
          rw [tap_set ys pp t3 t4 hpos 1 (by decide) _ (by rw [ht4]; rfl)] at hS
          have hl0 := hlen t4
          refine TW.ex rfl rfl rfl rfl (Ex.nilCheck rfl) hS.rd ?_
          refine TW.ex rfl rfl rfl rfl (Ex.fieldO 2 Try.underlying82 rfl rfl ti3 rfl) hS.rd ?_
          refine TW.hu rfl rfl rfl (Hv.storeSl (k := 0) ti3 hS rfl rfl rfl rfl (by first | (simp; done) | omega)) (fun _ _ h => (h.rd.erase 0)) fun _ w_23 hS => ?_
          dsimp only [List.set] at hS
          obtain ⟨t5, ht5⟩ : ∃ t5 : Tap, t5 = ⟨t3.Key, t3.DX.tdiv 2, t3.DY.tdiv 2, t3.N⟩ := ⟨_, rfl⟩
          rw [tap_set ys pp t4 t5 hpos 2 (by decide) _ (by rw [ht5, ht4]; rfl)] at hS
          have hl0 := hlen t5
          refine TW.ex rfl rfl rfl rfl (Ex.nilCheck rfl) hS.rd ?_
          refine TW.ex rfl rfl rfl rfl (Ex.fieldO 3 Try.underlying82 rfl rfl ti3 rfl) hS.rd ?_
          refine TW.hu rfl rfl rfl (Hv.storeSl (k := 0) ti3 hS rfl rfl rfl rfl (by first | (simp; done) | omega)) (fun _ _ h => (h.rd.erase 0)) fun _ w_26 hS => ?_
          dsimp only [List.set] at hS
          obtain ⟨t6, ht6⟩ : ∃ t6 : Tap, t6 = ⟨t3.Key, t3.DX.tdiv 2, t3.DY.tdiv 2, t3.N.tdiv 2⟩ := ⟨_, rfl⟩
          rw [tap_set ys pp t5 t6 hpos 3 (by decide) _ (by rw [ht6, ht5]; rfl)] at hS
          refine TW.nil fun aa ha => hK29 _ _ _ ?_ aa ha
          refine CW.seq fun K31 hK31 => ?_
          refine CW.region [0, 1, 2] rfl ?_
          refine LW.ex rfl rfl rfl rfl (Ex.move rfl) hS.rd ?_
          refine LW.ex rfl rfl rfl rfl (Ex.assign rfl) hS.rd ?_
          refine LW.ex rfl rfl rfl rfl (Ex.assign rfl) hS.rd ?_
          refine LW.nil fun aa ha => hK31 _ _ _ ?_ aa ha
          refine CW.ret fun aa ha => ?_
          obtain ⟨bs, μ', hmm, hS, hφ⟩ := hS.shut 0 rfl
          refine ret_two ha Try.results17 rfl rfl ?_
          refine ⟨_, μ', rfl, hS.below, hmm, hS.imm, ?_⟩
          rw [hfin, hres, if_pos (by omega), ← ht6]
          exact ⟨some ⟨gO, 0, none⟩, co, by rw [List.length_set], Sl.of_own hφ (tapReps _ _) (by rw [List.length_set])⟩
        · have h15_4 := of_decide_eq_false h15_4
          refine LW.nil fun aa ha => hK30 _ _ _ ?_ aa ha
          refine CW.no rfl ?_
          refine CW.skip fun aa ha => hK29 _ _ _ ?_ aa ha
          refine CW.seq fun K32 hK32 => ?_
          refine CW.region [0, 1, 2] rfl ?_
          refine LW.ex rfl rfl rfl rfl (Ex.move rfl) hS.rd ?_
          refine LW.ex rfl rfl rfl rfl (Ex.assign rfl) hS.rd ?_
          refine LW.ex rfl rfl rfl rfl (Ex.assign rfl) hS.rd ?_
          refine LW.nil fun aa ha => hK32 _ _ _ ?_ aa ha
          refine CW.ret fun aa ha => ?_
          obtain ⟨bs, μ', hmm, hS, hφ⟩ := hS.shut 0 rfl
          refine ret_two ha Try.results17 rfl rfl ?_
          refine ⟨_, μ', rfl, hS.below, hmm, hS.imm, ?_⟩
          rw [hfin, hres, if_neg (by omega)]
          exact ⟨some ⟨gO, 0, none⟩, co, by rw [List.length_set], Sl.of_own hφ (tapReps _ _) (by rw [List.length_set])⟩
      refine CW.seq fun K33 hK33 => ?_
      refine CW.region [0, 1] rfl ?_
      refine LW.ex rfl rfl rfl rfl (Ex.move rfl) hS.rd ?_
      refine LW.splitB (fun h9_0 => ?_) (fun h9_0 => ?_)
      · skip
        refine LW.ex rfl rfl rfl rfl (Ex.not rfl rfl) hS.rd ?_
        refine LW.nil fun aa ha => hK33 _ _ _ ?_ aa ha
        refine CW.no rfl ?_
        refine CW.skip fun aa ha => ?_
        have hw : withTap taps key = taps := by unfold withTap; rw [if_pos h9_0]
        rw [hw] at hJ9
        refine hJ9 _ (ad32) (c32) hS  aa (ha.sub ⟨rfl, rfl, rfl, rfl, trivial⟩)
      · skip
        refine LW.ex rfl rfl rfl rfl (Ex.not rfl rfl) hS.rd ?_
        refine LW.nil fun aa ha => hK33 _ _ _ ?_ aa ha
        refine CW.yes rfl ?_
        refine CW.region [0, 1, 2, 3, 4, 5, 6] rfl ?_
        refine LW.ex rfl rfl rfl rfl (Ex.move rfl) hS.rd ?_
        refine LW.ex rfl rfl rfl rfl (Ex.move rfl) hS.rd ?_
        refine LW.ex rfl rfl rfl rfl (Ex.load1 ti5 rfl rfl (by first | exact Rd.obj (k := 0) rfl rfl | exact Rd.obj (k := 1) rfl rfl | exact Rd.obj (k := 2) rfl rfl | exact Rd.obj (k := 3) rfl rfl | exact Rd.obj (k := 4) rfl rfl | exact Rd.imm (by assumption) | exact Rd.sl (k := 0) rfl (by assumption) | exact Rd.sl (k := 1) rfl (by assumption) | exact Rd.sl (k := 2) rfl (by assumption) | exact Rd.sl (k := 3) rfl (by assumption))) hS.rd ?_
        refine LW.ex rfl rfl rfl rfl (Ex.buildS st82 rfl rfl rfl) hS.rd ?_
        refine LW.hv rfl rfl rfl rfl (Hv.buildSl hS Try.underlying33 ti82 rfl rfl rfl rfl rfl rfl) fun v w45 ⟨b45, hv, hb45, hS⟩ => ?_
        subst hv
        refine LW.hv rfl rfl rfl rfl (Hv.callM rfl rfl rfl cb45 (insertT_c (xs := taps) (x := ⟨key, 0, 0, 0⟩) hS rfl (pos_le _ _) (by omega))) fun v w46 ⟨ad46, c46, hv, hS⟩ => ?_
        subst hv
        refine LW.ex rfl rfl rfl rfl (Ex.assign rfl) hS.rd ?_
        refine LW.nil fun aa ha => ?_
        have hw : withTap taps key = taps.take (posOf taps key) ++ ⟨key, 0, 0, 0⟩ :: taps.drop (posOf taps key) := by unfold withTap; rw [if_neg (by rw [h9_0]; simp)]
        have hwl : (withTap taps key).length = taps.length + 1 := by rw [hw]; have := pos_le taps key; simp; omega
        rw [hwl, hw] at hJ9
        refine hJ9 _ (ad46) (c46) hS  aa (ha.sub ⟨rfl, rfl, rfl, rfl, trivial⟩)
  · skip
    refine LW.ex rfl rfl rfl rfl (Ex.not rfl rfl) hS.rd ?_
    refine LW.nil fun aa ha => hK16 _ _ _ ?_ aa ha
    refine CW.yes rfl ?_
    refine CW.seq fun K34 hK34 => ?_
    refine CW.region [0, 1] rfl ?_
    refine LW.ex rfl rfl rfl rfl (Ex.assign rfl) hS.rd ?_
    refine LW.ex rfl rfl rfl rfl (Ex.assign rfl) hS.rd ?_
    refine LW.nil fun aa ha => hK34 _ _ _ ?_ aa ha
    refine CW.ret fun aa ha => ?_
    refine ret_two ha Try.results17 rfl rfl ?_
    refine ⟨_, μ, rfl, hS.below, Mem.ext.refl _ _, hS.imm, ?_⟩
    rw [adaptA, if_pos h1_2]; exact ⟨none, 0, rfl, Sl.nil _ _ _ (by simp [maxLen])⟩
end Go.Proofs.Ytphgjongflkolaa

