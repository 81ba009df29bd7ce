/-
  Strokes: the walk of stroke.Match.
-/
import Derived.Test.YthbglfjajifkoaaStJ
namespace Go.Proofs.Ythbglfjajifkoaa
open Go.RowKit Sy Go.Sort

/-- stroke.Distance -/
def Dm (p q : List Pt) : Int := R (gapsOf p q) p.length q.length
theorem Dm_bound {p q : List Pt} (hp : Good p) (hq : Good q) : 0 ≤ Dm p q ∧ Dm p q ≤ 2000000000000 := by
  have := R_bound _ (gapsOf_bound hp.bd hq.bd) p.length q.length
  have := hp.len
  simp only [huge] at *
  unfold Dm; omega
theorem quo16m {x : Int} (h0 : 0 ≤ x) (h1 : x ≤ 2000000000000) : IntKind.i64.wrap (x.tdiv 16) = x / 16 := by
  rw [Int.tdiv_eq_ediv_of_nonneg h0]; exact w64 (by omega) (by omega)
def costM (p q : List Pt) : Int := leastL (Dm p q / 16) [1000]
def stepM (p : List Pt) (kv : List (UInt8 × Int)) (t : Tpl) : List (UInt8 × Int) :=
  match aget kv t.Key with
  | none => aset kv t.Key (costM p t.P)
  | some old => if costM p t.P < old then aset kv t.Key (costM p t.P) else kv
def kvOf (b : List Tpl) (p : List Pt) : List (UInt8 × Int) := b.foldl (stepM p) []
def mkCh (x : UInt8 × Int) : Ch := ⟨x.1, x.2⟩
def MatchRel (b : List Tpl) (p : List Pt) (zs : List Ch) (e : Int) : Prop :=
  if validP p = true ∧ 0 < b.length then e = 0 ∧ ∃ ys : List Ch, ys.Perm ((kvOf b p).map mkCh) ∧ ys.Pairwise (fun x y => ltOf byCost y x = false) ∧ zs.Perm (ys.take 8) ∧ zs.Pairwise (fun x y => ltOf byKey y x = false)
  else e = 220 ∧ zs = []
def IsMatchM (b : List Tpl) (p : List Pt) (μ : Mem) (v : Value) : Prop := ∃ zs ad c e, v = .tuple #[.slice ad (zs : List Ch).length c, .int .i64 e] ∧ Sl μ ad c zs ∧ MatchRel b p zs e

abbrev ekB (k : UInt8) : Value := .int .u8 k.toNat
abbrev evI (v : Int) : Value := .int .i64 v
theorem encB : EncK Try.prog 5 ekB := ⟨Maps.int_keyed Try.underlying5, fun a => ⟨_, Maps.keyOf_int_mk Try.underlying5 (by have h1 := a.toNat_lt; have e1 : IntKind.u8.min = 0 := rfl; have e2 : IntKind.u8.max = 255 := rfl; simp only [Lit.wf, e1, e2, Bool.and_eq_true, decide_eq_true_eq]; omega)⟩, fun a b h => by
  simp only [Value.int.injEq, true_and] at h; exact u8_inj h⟩

theorem cmpI_neg (a b : Int) : cmpI a b < 0 ↔ a < b := by unfold cmpI; (repeat' split) <;> omega
theorem byKey_lt (x y : Ch) : ltOf byKey x y = decide (x.Key.toNat < y.Key.toNat) := by
  unfold ltOf byKey
  by_cases h : x.Key.toNat < y.Key.toNat
  · rw [decide_eq_true h, decide_eq_true ((cmpI_neg _ _).2 (by omega))]
  · rw [decide_eq_false h, decide_eq_false fun h2 => h (by have := (cmpI_neg _ _).1 h2; omega)]
theorem byCost_lt (x y : Ch) : ltOf byCost x y = decide (x.Cost < y.Cost ∨ (x.Cost = y.Cost ∧ x.Key.toNat < y.Key.toNat)) := by
  unfold ltOf byCost orL
  by_cases h0 : x.Cost = y.Cost
  · have e0 : cmpI x.Cost y.Cost = 0 := by simp [cmpI, h0]
    rw [if_pos e0]
    have e1 : orL [cmpI x.Key.toNat y.Key.toNat] = cmpI x.Key.toNat y.Key.toNat := by unfold orL; split <;> simp_all [orL]
    rw [e1]
    by_cases h : x.Key.toNat < y.Key.toNat
    · rw [decide_eq_true ((cmpI_neg _ _).2 (by omega)), decide_eq_true (by omega)]
    · rw [decide_eq_false (fun h2 => h (by have := (cmpI_neg _ _).1 h2; omega)), decide_eq_false (by omega)]
  · have e0 : cmpI x.Cost y.Cost ≠ 0 := by unfold cmpI; (repeat' split) <;> omega
    rw [if_neg e0]
    by_cases h : x.Cost < y.Cost
    · rw [decide_eq_true ((cmpI_neg _ _).2 h), decide_eq_true (by omega)]
    · rw [decide_eq_false (fun h2 => h ((cmpI_neg _ _).1 h2)), decide_eq_false (by omega)]
theorem swoKey : SWO (ltOf byKey) where
  irrefl x := by rw [byKey_lt]; simp
  trans x y z h1 h2 := by rw [byKey_lt] at *; simp at *; omega
  ntrans x y z h1 h2 := by rw [byKey_lt] at *; simp at *; omega
theorem swoCost : SWO (ltOf byCost) where
  irrefl x := by rw [byCost_lt]; simp
  trans x y z h1 h2 := by rw [byCost_lt] at *; simp only [decide_eq_true_eq] at *; omega
  ntrans x y z h1 h2 := by rw [byCost_lt] at *; simp only [decide_eq_false_iff_not] at *; omega

theorem stepM_len (p : List Pt) (kv : List (UInt8 × Int)) (t : Tpl) : (stepM p kv t).length ≤ kv.length + 1 := by
  have := aset_len kv t.Key (costM p t.P)
  unfold stepM
  split
  · exact this
  · split
    · exact this
    · omega
theorem aset_pos {α β : Type} [DecidableEq α] (kv : List (α × β)) (a : α) (c : β) : 0 < (aset kv a c).length := by
  cases kv with
  | nil => simp [aset]
  | cons x r => obtain ⟨k, v⟩ := x; simp only [aset]; split <;> simp
theorem stepM_pos (p : List Pt) (kv : List (UInt8 × Int)) (t : Tpl) : 0 < (stepM p kv t).length := by
  have h1 := aset_pos kv t.Key (costM p t.P)
  unfold stepM
  split
  · exact h1
  · rename_i old h
    split
    · exact h1
    · cases kv with
      | nil => simp [aget] at h
      | cons x r => simp
theorem chL_len (x : Ch) : (chL x).length = 2 := rfl

set_option maxRecDepth 100000 in
theorem match_c (b : List Tpl) (p : List Pt) (ad adp : Option Addr) (c cp : Nat) (μ : Mem) (w : World) (hμ : Imm μ w) (hb : Sl μ ad c b) (hp : Sl μ adp cp p) (gb : ∀ t ∈ b, Good t.P) (hbl : b.length ≤ 1000) :
    Calls Try.prog 13 #[boardV ad b.length c, .slice adp p.length cp] w (RetV w μ (IsMatchM b p)) := by
  have hS := St.start w μ hμ
  refine calls_start 82 [boardV ad b.length c, .slice adp p.length cp] Try.func13 rfl Try.ntmps13 rfl rfl ?_
  refine CW.seq fun K0 hK0 => ?_
  refine CW.region [0, 1, 2] rfl ?_
  refine LW.hv rfl rfl rfl rfl (Hv.box hS rfl) fun v w2 ⟨b2, hv, hb2, hS⟩ => ?_
  subst hv
  refine LW.ex rfl rfl rfl rfl (Ex.assign rfl) hS.rd ?_
  refine LW.ex rfl rfl rfl rfl (Ex.assign rfl) hS.rd ?_
  refine LW.nil fun aa ha => hK0 _ _ _ ?_ aa ha
  by_cases hv : validP p = true
  rotate_left
  · have hv' : validP p = false := by simpa using hv
    have hno : ¬ (validP p = true ∧ 0 < b.length) := fun h => hv h.1
    refine CW.seq fun K1o hK1o => ?_
    refine CW.seq fun K1 hK1 => ?_
    refine CW.region [0, 1, 2, 3, 4, 5, 6, 7, 8] rfl ?_
    refine LW.ex rfl rfl rfl rfl (Ex.move rfl) hS.rd ?_
    refine LW.hv rfl rfl rfl rfl (Hv.callS hS rfl rfl rfl cb19 (valid_c p _ _ μ _ hS.imm hp)) fun v w16 ⟨hv, hS⟩ => ?_
    subst hv
    rw [hv']
    refine LW.ex rfl rfl rfl rfl (Ex.not rfl rfl) hS.rd ?_
    refine LW.ex rfl rfl rfl rfl (Ex.move rfl) hS.rd ?_
    refine LW.skip rfl rfl rfl rfl ?_
    refine LW.skip rfl rfl rfl rfl ?_
    refine LW.skip rfl rfl rfl rfl ?_
    refine LW.skip rfl rfl rfl rfl ?_
    refine LW.ex rfl rfl rfl rfl (by first | exact Ex.pick_yes rfl rfl | exact Ex.pick_no rfl rfl) hS.rd ?_
    refine LW.nil fun aa ha => hK1 _ _ _ ?_ aa ha
    refine CW.yes rfl ?_
    refine CW.seq fun K2 hK2 => ?_
    refine CW.region [0, 1] rfl ?_
    refine LW.ex rfl rfl rfl rfl (Ex.assign rfl) hS.rd ?_
    refine LW.ex rfl rfl rfl rfl (Ex.assign rfl) hS.rd ?_
    refine LW.nil fun aa ha => hK2 _ _ _ ?_ aa ha
    refine CW.ret fun aa ha => ?_
    refine ret_two ha Try.results13 rfl rfl ⟨_, μ, rfl, hS.below, Mem.ext.refl _ _, hS.imm, [], none, 0, 220, rfl, Sl.nil _ _ _ (by simp [maxLen]), ?_⟩
    rw [MatchRel, if_neg hno]; exact ⟨rfl, rfl⟩
  have gp := validP_good hv
  by_cases hn : b.length = 0
  · have hno : ¬ (validP p = true ∧ 0 < b.length) := fun h => by omega
    refine CW.seq fun K1o hK1o => ?_
    refine CW.seq fun K1 hK1 => ?_
    refine CW.region [0, 1, 2, 3, 4, 5, 6, 7, 8] rfl ?_
    refine LW.ex rfl rfl rfl rfl (Ex.move rfl) hS.rd ?_
    refine LW.hv rfl rfl rfl rfl (Hv.callS hS rfl rfl rfl cb19 (valid_c p _ _ μ _ hS.imm hp)) fun v w16 ⟨hv, hS⟩ => ?_
    subst hv
    rw [hv]
    refine LW.ex rfl rfl rfl rfl (Ex.not rfl rfl) hS.rd ?_
    refine LW.ex rfl rfl rfl rfl (Ex.move rfl) hS.rd ?_
    refine LW.ex rfl rfl rfl rfl (Ex.fieldA Try.underlying32 rfl ti29 rfl) hS.rd ?_
    refine LW.ex rfl rfl rfl rfl (Ex.load1 ti29 rfl rfl (by first | exact Rd.obj (k := 0) rfl rfl | exact Rd.obj (k := 1) rfl rfl | exact Rd.obj (k := 2) rfl rfl | exact Rd.obj (k := 3) rfl rfl | exact Rd.obj (k := 4) rfl rfl | exact Rd.imm (by assumption) | exact Rd.sl (k := 0) rfl (by assumption) | exact Rd.sl (k := 1) rfl (by assumption) | exact Rd.sl (k := 2) rfl (by assumption) | exact Rd.sl (k := 3) rfl (by assumption))) hS.rd ?_
    refine LW.ex rfl rfl rfl rfl (Ex.lenSl rfl Try.underlying29 rfl) hS.rd ?_
    refine LW.ex rfl rfl rfl rfl (Ex.eql rfl rfl (by first | exact decide_eq_true (by omega) | exact decide_eq_false (by omega) | rfl)) hS.rd ?_
    refine LW.ex rfl rfl rfl rfl (by first | exact Ex.pick_yes rfl rfl | exact Ex.pick_no rfl rfl) hS.rd ?_
    refine LW.nil fun aa ha => hK1 _ _ _ ?_ aa ha
    refine CW.yes rfl ?_
    refine CW.seq fun K2 hK2 => ?_
    refine CW.region [0, 1] rfl ?_
    refine LW.ex rfl rfl rfl rfl (Ex.assign rfl) hS.rd ?_
    refine LW.ex rfl rfl rfl rfl (Ex.assign rfl) hS.rd ?_
    refine LW.nil fun aa ha => hK2 _ _ _ ?_ aa ha
    refine CW.ret fun aa ha => ?_
    refine ret_two ha Try.results13 rfl rfl ⟨_, μ, rfl, hS.below, Mem.ext.refl _ _, hS.imm, [], none, 0, 220, rfl, Sl.nil _ _ _ (by simp [maxLen]), ?_⟩
    rw [MatchRel, if_neg hno]; exact ⟨rfl, rfl⟩
  refine CW.seq fun K1o hK1o => ?_
  refine CW.seq fun K1 hK1 => ?_
  refine CW.region [0, 1, 2, 3, 4, 5, 6, 7, 8] rfl ?_
  refine LW.ex rfl rfl rfl rfl (Ex.move rfl) hS.rd ?_
  refine LW.hv rfl rfl rfl rfl (Hv.callS hS rfl rfl rfl cb19 (valid_c p _ _ μ _ hS.imm hp)) fun v w16 ⟨hv, hS⟩ => ?_
  subst hv
  rw [hv]
  refine LW.ex rfl rfl rfl rfl (Ex.not rfl rfl) hS.rd ?_
  refine LW.ex rfl rfl rfl rfl (Ex.move rfl) hS.rd ?_
  refine LW.ex rfl rfl rfl rfl (Ex.fieldA Try.underlying32 rfl ti29 rfl) hS.rd ?_
  refine LW.ex rfl rfl rfl rfl (Ex.load1 ti29 rfl rfl (by first | exact Rd.obj (k := 0) rfl rfl | exact Rd.obj (k := 1) rfl rfl | exact Rd.obj (k := 2) rfl rfl | exact Rd.obj (k := 3) rfl rfl | exact Rd.obj (k := 4) rfl rfl | exact Rd.imm (by assumption) | exact Rd.sl (k := 0) rfl (by assumption) | exact Rd.sl (k := 1) rfl (by assumption) | exact Rd.sl (k := 2) rfl (by assumption) | exact Rd.sl (k := 3) rfl (by assumption))) hS.rd ?_
  refine LW.ex rfl rfl rfl rfl (Ex.lenSl rfl Try.underlying29 rfl) hS.rd ?_
  refine LW.ex rfl rfl rfl rfl (Ex.eql rfl rfl (by first | exact decide_eq_true (by omega) | exact decide_eq_false (by omega) | rfl)) hS.rd ?_
  refine LW.ex rfl rfl rfl rfl (by first | exact Ex.pick_yes rfl rfl | exact Ex.pick_no rfl rfl) hS.rd ?_
  refine LW.nil fun aa ha => hK1 _ _ _ ?_ aa ha
  refine CW.no rfl (CW.skip fun aa ha => hK1o _ _ _ ?_ aa ha)
  refine CW.seq fun K3 hK3 => ?_
  refine CW.region [0, 1] rfl ?_
  refine LW.hv rfl rfl rfl rfl (Hv.makeMap (α := UInt8) (β := Int) ekB evI hS) fun v w24 ⟨b24, hv24, hb24, hS⟩ => ?_
  subst hv24
  refine LW.ex rfl rfl rfl rfl (Ex.assign rfl) hS.rd ?_
  refine LW.nil fun aa ha => hK3 _ _ _ ?_ aa ha
  refine CW.seq fun K4o hK4o => ?_
  refine CW.seq fun K4 hK4 => ?_
  refine CW.region [0, 1, 2, 3] rfl ?_
  refine LW.ex rfl rfl rfl rfl (Ex.fieldA Try.underlying32 rfl ti29 rfl) hS.rd ?_
  refine LW.ex rfl rfl rfl rfl (Ex.load1 ti29 rfl rfl (by first | exact Rd.obj (k := 0) rfl rfl | exact Rd.obj (k := 1) rfl rfl | exact Rd.obj (k := 2) rfl rfl | exact Rd.obj (k := 3) rfl rfl | exact Rd.obj (k := 4) rfl rfl | exact Rd.imm (by assumption) | exact Rd.sl (k := 0) rfl (by assumption) | exact Rd.sl (k := 1) rfl (by assumption) | exact Rd.sl (k := 2) rfl (by assumption) | exact Rd.sl (k := 3) rfl (by assumption))) hS.rd ?_
  refine LW.ex rfl rfl rfl rfl (Ex.lenSl rfl Try.underlying29 rfl) hS.rd ?_
  refine LW.ex rfl rfl rfl rfl (Ex.move rfl) hS.rd ?_
  refine LW.nil fun aa ha => hK4 _ _ _ ?_ aa ha
  refine CW.block ?_
  refine CW.loop (fun q m w1 => ∃ (i : Nat) (kv : List (UInt8 × Int)), i ≤ b.length ∧ q = b.length - i ∧ kv.length ≤ i ∧
      m = [(1, .slice adp p.length cp), (6, .map (some b24)), (26, .slice ad b.length c), (27, .int .i64 b.length), (28, .int .i64 i)] ∧
      St w w1 μ [Own.mp ekB evI b24 kv, Own.obj b2 [.slice none 0 0, .slice ad b.length c, .slice none 0 0] 32] ∧ kvOf b p = (b.drop i).foldl (stepM p) kv ∧ (0 < i → 0 < kv.length)) b.length
    ⟨0, [], by omega, by omega, by simp, rfl, hS, rfl, fun h => by omega⟩ ⟨rfl, rfl, rfl, rfl, rfl, trivial⟩ ?_
  clear hS
  rintro q m w1 ⟨i, kv, hi, hq, hkl, rfl, hS, he, hpos⟩
  by_cases h1 : i < b.length
  · skip
    refine CW.seq fun K5 hK5 => ?_
    refine CW.region [0] rfl ?_
    refine LW.ex rfl rfl rfl rfl (Ex.lss rfl rfl (by first | exact decide_eq_true (by omega) | exact decide_eq_false (by omega) | rfl)) hS.rd ?_
    refine LW.nil fun aa ha => hK5 _ _ _ ?_ aa ha
    refine CW.seq fun Kc hKc => ?_
    refine CW.yes rfl ?_
    refine CW.skip fun aa ha => hKc _ _ _ ?_ aa ha
    obtain ⟨bl, ol, rfl, hk, adt, ct, hc, ht⟩ := hb.at h1
    have gt := gb _ (List.getElem_mem h1)
    have hD := Dm_bound gp gt
    rw [List.drop_eq_getElem_cons h1, List.foldl_cons] at he
    have hsl := stepM_len p kv b[i]
    have hsp := stepM_pos p kv b[i]
    refine CW.seq fun Kb hKb => ?_
    refine CW.block ?_
    refine CW.seq fun K6 hK6 => ?_
    refine CW.region [0, 1, 2, 3] rfl ?_
    refine LW.ex rfl rfl rfl rfl (Ex.indexSl Try.underlying29 ti61 rfl rfl rfl (by omega)) hS.rd ?_
    refine LW.ex rfl rfl rfl rfl (Ex.load2c ti61 rfl rfl (by first | exact Rd.obj (k := 0) rfl rfl | exact Rd.obj (k := 1) rfl rfl | exact Rd.obj (k := 2) rfl rfl | exact Rd.obj (k := 3) rfl rfl | exact Rd.obj (k := 4) rfl rfl | exact Rd.imm (by assumption) | exact Rd.sl (k := 0) rfl (by assumption) | exact Rd.sl (k := 1) rfl (by assumption) | exact Rd.sl (k := 2) rfl (by assumption) | exact Rd.sl (k := 3) rfl (by assumption)) (by first | exact Rd.obj (k := 0) rfl rfl | exact Rd.obj (k := 1) rfl rfl | exact Rd.obj (k := 2) rfl rfl | exact Rd.obj (k := 3) rfl rfl | exact Rd.obj (k := 4) rfl rfl | exact Rd.imm (by assumption) | exact Rd.sl (k := 0) rfl (by assumption) | exact Rd.sl (k := 1) rfl (by assumption) | exact Rd.sl (k := 2) rfl (by assumption) | exact Rd.sl (k := 3) rfl (by assumption))) hS.rd ?_
    refine LW.hv rfl rfl rfl rfl (Hv.alloc ti61 hS) fun v w8 ⟨b8, hv, hb8, hS⟩ => ?_
    subst hv
    refine LW.hu rfl rfl rfl (Hv.storeN (k := 0) ti61 hS rfl rfl rfl rfl (by simp [Value.oneCell'])) fun _ w_3 hS => ?_
    dsimp only [List.set] at hS
    refine LW.nil fun aa ha => hK6 _ _ _ ?_ aa ha
    refine CW.seq fun K7 hK7 => ?_
    refine CW.region [0, 1, 2, 3, 4, 5, 6, 7] rfl ?_
    refine LW.ex rfl rfl rfl rfl (Ex.move rfl) hS.rd ?_
    refine LW.ex rfl rfl rfl rfl (Ex.fieldA Try.underlying61 rfl ti26 rfl) hS.rd ?_
    refine LW.ex rfl rfl rfl rfl (Ex.load1 ti26 rfl rfl (by first | exact Rd.obj (k := 0) rfl rfl | exact Rd.obj (k := 1) rfl rfl | exact Rd.obj (k := 2) rfl rfl | exact Rd.obj (k := 3) rfl rfl | exact Rd.obj (k := 4) rfl rfl | exact Rd.imm (by assumption) | exact Rd.sl (k := 0) rfl (by assumption) | exact Rd.sl (k := 1) rfl (by assumption) | exact Rd.sl (k := 2) rfl (by assumption) | exact Rd.sl (k := 3) rfl (by assumption))) hS.rd ?_
    refine LW.hv rfl rfl rfl rfl (Hv.callS hS rfl rfl rfl cb15 (distance_c p b[i].P _ _ _ _ μ _ hS.imm hp ht gp.bd gt.bd gp.len gt.len)) fun v w35 ⟨hv, hS⟩ => ?_
    subst hv
    refine LW.ex rfl rfl rfl rfl (Ex.quo rfl rfl (by omega) (quo16m (x := Dm p b[i].P) hD.1 hD.2)) hS.rd ?_
    refine LW.hv rfl rfl rfl rfl (Hv.buildSl hS Try.underlying71 ti3 rfl rfl rfl rfl rfl rfl) fun v w37 ⟨b37, hv, hb37, hS⟩ => ?_
    subst hv
    refine LW.hv rfl rfl rfl rfl (Hv.callS hS rfl rfl rfl cb23 (least_c (Dm p b[i].P / 16) [1000] _ _ (memOf _) _ (imm_memOf _) (hS.lend_obj (k := 0) rfl (RepL.ints1 _ _) (by simp [maxLen])))) fun v w38 ⟨hv, hS⟩ => ?_
    subst hv
    refine LW.ex rfl rfl rfl rfl (Ex.assign rfl) hS.rd ?_
    have hS := hS.drop 0 rfl
    dsimp only [List.eraseIdx] at hS
    refine LW.nil fun aa ha => hK7 _ _ _ ?_ aa ha
    cases hg : aget kv b[i].Key with
    | none =>
      have hst : stepM p kv b[i] = aset kv b[i].Key (costM p b[i].P) := by simp only [stepM, hg]
      refine CW.seq fun K8 hK8 => ?_
      refine CW.region [0, 1, 2, 3, 4, 5, 6, 7, 8] rfl ?_
      refine LW.ex rfl rfl rfl rfl (Ex.move rfl) hS.rd ?_
      refine LW.ex rfl rfl rfl rfl (Ex.fieldA Try.underlying61 rfl ti5 rfl) hS.rd ?_
      refine LW.ex rfl rfl rfl rfl (Ex.load1 ti5 rfl rfl (by first | exact Rd.obj (k := 0) rfl rfl | exact Rd.obj (k := 1) rfl rfl | exact Rd.obj (k := 2) rfl rfl | exact Rd.obj (k := 3) rfl rfl | exact Rd.obj (k := 4) rfl rfl | exact Rd.imm (by assumption) | exact Rd.sl (k := 0) rfl (by assumption) | exact Rd.sl (k := 1) rfl (by assumption) | exact Rd.sl (k := 2) rfl (by assumption) | exact Rd.sl (k := 3) rfl (by assumption))) hS.rd ?_
      refine LW.ex rfl rfl rfl rfl (Ex.lookup_none (a := b[i].Key) Try.underlying63 ti3 encB 1 rfl rfl rfl hg) hS.rd ?_
      refine LW.ex rfl rfl rfl rfl (Ex.move rfl) hS.rd ?_
      refine LW.ex rfl rfl rfl rfl (Ex.extract rfl rfl) hS.rd ?_
      refine LW.ex rfl rfl rfl rfl (Ex.extract rfl rfl) hS.rd ?_
      refine LW.ex rfl rfl rfl rfl (Ex.assign rfl) hS.rd ?_
      refine LW.ex rfl rfl rfl rfl (Ex.assign rfl) hS.rd ?_
      refine LW.nil fun aa ha => hK8 _ _ _ ?_ aa ha
      refine CW.seq fun K9 hK9 => ?_
      refine CW.region [0, 1, 2, 3, 4, 5, 6] rfl ?_
      refine LW.ex rfl rfl rfl rfl (Ex.move rfl) hS.rd ?_
      refine LW.ex rfl rfl rfl rfl (Ex.not rfl rfl) hS.rd ?_
      refine LW.ex rfl rfl rfl rfl (Ex.move rfl) hS.rd ?_
      refine LW.skip rfl rfl rfl rfl ?_
      refine LW.skip rfl rfl rfl rfl ?_
      refine LW.skip rfl rfl rfl rfl ?_
      refine LW.ex rfl rfl rfl rfl (by first | exact Ex.pick_yes rfl rfl | exact Ex.pick_no rfl rfl) hS.rd ?_
      refine LW.nil fun aa ha => hK9 _ _ _ ?_ aa ha
      refine CW.yes rfl ?_
      refine CW.region [0, 1, 2, 3, 4] rfl ?_
      refine LW.ex rfl rfl rfl rfl (Ex.move rfl) hS.rd ?_
      refine LW.ex rfl rfl rfl rfl (Ex.fieldA Try.underlying61 rfl ti5 rfl) hS.rd ?_
      refine LW.ex rfl rfl rfl rfl (Ex.load1 ti5 rfl rfl (by first | exact Rd.obj (k := 0) rfl rfl | exact Rd.obj (k := 1) rfl rfl | exact Rd.obj (k := 2) rfl rfl | exact Rd.obj (k := 3) rfl rfl | exact Rd.obj (k := 4) rfl rfl | exact Rd.imm (by assumption) | exact Rd.sl (k := 0) rfl (by assumption) | exact Rd.sl (k := 1) rfl (by assumption) | exact Rd.sl (k := 2) rfl (by assumption) | exact Rd.sl (k := 3) rfl (by assumption))) hS.rd ?_
      refine LW.ex rfl rfl rfl rfl (Ex.move rfl) hS.rd ?_
      refine LW.hu rfl rfl rfl (Hv.mapUpdate (c := costM p b[i].P) Try.underlying63 encB 1 hS rfl rfl rfl rfl) fun _ w_4 hS => ?_
      dsimp only [List.set] at hS
      refine LW.nil fun aa ha => hKb _ _ _ ?_ aa ha
      refine CW.region [0, 1] rfl ?_
      refine LW.ex rfl rfl rfl rfl (Ex.add rfl rfl (by first | exact inc64 (by omega) | exact addN (by omega) | exact w64 (by omega) (by omega))) hS.rd ?_
      refine LW.ex rfl rfl rfl rfl (Ex.move rfl) hS.rd ?_
      refine LW.nil fun aa ha => ?_
      have hS := hS.drop 0 rfl
      dsimp only [List.eraseIdx] at hS
      refine ⟨b.length - (i + 1), _, by omega, ⟨i + 1, _, by omega, rfl, ?_, rfl, hS, ?_, fun _ => ?_⟩, ha.sub ⟨rfl, rfl, rfl, rfl, rfl, trivial⟩⟩
      · rw [← hst]; omega
      · rw [he, hst]
      · rw [← hst]; exact hsp
    | some old =>
      refine CW.seq fun K8 hK8 => ?_
      refine CW.region [0, 1, 2, 3, 4, 5, 6, 7, 8] rfl ?_
      refine LW.ex rfl rfl rfl rfl (Ex.move rfl) hS.rd ?_
      refine LW.ex rfl rfl rfl rfl (Ex.fieldA Try.underlying61 rfl ti5 rfl) hS.rd ?_
      refine LW.ex rfl rfl rfl rfl (Ex.load1 ti5 rfl rfl (by first | exact Rd.obj (k := 0) rfl rfl | exact Rd.obj (k := 1) rfl rfl | exact Rd.obj (k := 2) rfl rfl | exact Rd.obj (k := 3) rfl rfl | exact Rd.obj (k := 4) rfl rfl | exact Rd.imm (by assumption) | exact Rd.sl (k := 0) rfl (by assumption) | exact Rd.sl (k := 1) rfl (by assumption) | exact Rd.sl (k := 2) rfl (by assumption) | exact Rd.sl (k := 3) rfl (by assumption))) hS.rd ?_
      refine LW.ex rfl rfl rfl rfl (Ex.lookup_some (a := b[i].Key) Try.underlying63 ti3 encB 1 rfl rfl rfl hg) hS.rd ?_
      refine LW.ex rfl rfl rfl rfl (Ex.move rfl) hS.rd ?_
      refine LW.ex rfl rfl rfl rfl (Ex.extract rfl rfl) hS.rd ?_
      refine LW.ex rfl rfl rfl rfl (Ex.extract rfl rfl) hS.rd ?_
      refine LW.ex rfl rfl rfl rfl (Ex.assign rfl) hS.rd ?_
      refine LW.ex rfl rfl rfl rfl (Ex.assign rfl) hS.rd ?_
      refine LW.nil fun aa ha => hK8 _ _ _ ?_ aa ha
      by_cases hlt : costM p b[i].P < old
      · have hst : stepM p kv b[i] = aset kv b[i].Key (costM p b[i].P) := by simp only [stepM, hg, hlt, if_true]
        refine CW.seq fun K9 hK9 => ?_
        refine CW.region [0, 1, 2, 3, 4, 5, 6] rfl ?_
        refine LW.ex rfl rfl rfl rfl (Ex.move rfl) hS.rd ?_
        refine LW.ex rfl rfl rfl rfl (Ex.not rfl rfl) hS.rd ?_
        refine LW.ex rfl rfl rfl rfl (Ex.move rfl) hS.rd ?_
        refine LW.ex rfl rfl rfl rfl (Ex.move rfl) hS.rd ?_
        refine LW.ex rfl rfl rfl rfl (Ex.move rfl) hS.rd ?_
        refine LW.ex rfl rfl rfl rfl (Ex.lss rfl rfl (decide_eq_true hlt)) hS.rd ?_
        refine LW.ex rfl rfl rfl rfl (by first | exact Ex.pick_yes rfl rfl | exact Ex.pick_no rfl rfl) hS.rd ?_
        refine LW.nil fun aa ha => hK9 _ _ _ ?_ aa ha
        refine CW.yes rfl ?_
        refine CW.region [0, 1, 2, 3, 4] rfl ?_
        refine LW.ex rfl rfl rfl rfl (Ex.move rfl) hS.rd ?_
        refine LW.ex rfl rfl rfl rfl (Ex.fieldA Try.underlying61 rfl ti5 rfl) hS.rd ?_
        refine LW.ex rfl rfl rfl rfl (Ex.load1 ti5 rfl rfl (by first | exact Rd.obj (k := 0) rfl rfl | exact Rd.obj (k := 1) rfl rfl | exact Rd.obj (k := 2) rfl rfl | exact Rd.obj (k := 3) rfl rfl | exact Rd.obj (k := 4) rfl rfl | exact Rd.imm (by assumption) | exact Rd.sl (k := 0) rfl (by assumption) | exact Rd.sl (k := 1) rfl (by assumption) | exact Rd.sl (k := 2) rfl (by assumption) | exact Rd.sl (k := 3) rfl (by assumption))) hS.rd ?_
        refine LW.ex rfl rfl rfl rfl (Ex.move rfl) hS.rd ?_
        refine LW.hu rfl rfl rfl (Hv.mapUpdate (c := costM p b[i].P) Try.underlying63 encB 1 hS rfl rfl rfl rfl) fun _ w_4 hS => ?_
        dsimp only [List.set] at hS
        refine LW.nil fun aa ha => hKb _ _ _ ?_ aa ha
        refine CW.region [0, 1] rfl ?_
        refine LW.ex rfl rfl rfl rfl (Ex.add rfl rfl (by first | exact inc64 (by omega) | exact addN (by omega) | exact w64 (by omega) (by omega))) hS.rd ?_
        refine LW.ex rfl rfl rfl rfl (Ex.move rfl) hS.rd ?_
        refine LW.nil fun aa ha => ?_
        have hS := hS.drop 0 rfl
        dsimp only [List.eraseIdx] at hS
        refine ⟨b.length - (i + 1), _, by omega, ⟨i + 1, _, by omega, rfl, ?_, rfl, hS, ?_, fun _ => ?_⟩, ha.sub ⟨rfl, rfl, rfl, rfl, rfl, trivial⟩⟩
        · rw [← hst]; omega
        · rw [he, hst]
        · rw [← hst]; exact hsp
      · have hst : stepM p kv b[i] = kv := by simp only [stepM, hg, hlt, if_false]
        refine CW.seq fun K9 hK9 => ?_
        refine CW.region [0, 1, 2, 3, 4, 5, 6] rfl ?_
        refine LW.ex rfl rfl rfl rfl (Ex.move rfl) hS.rd ?_
        refine LW.ex rfl rfl rfl rfl (Ex.not rfl rfl) hS.rd ?_
        refine LW.ex rfl rfl rfl rfl (Ex.move rfl) hS.rd ?_
        refine LW.ex rfl rfl rfl rfl (Ex.move rfl) hS.rd ?_
        refine LW.ex rfl rfl rfl rfl (Ex.move rfl) hS.rd ?_
        refine LW.ex rfl rfl rfl rfl (Ex.lss rfl rfl (decide_eq_false hlt)) hS.rd ?_
        refine LW.ex rfl rfl rfl rfl (by first | exact Ex.pick_yes rfl rfl | exact Ex.pick_no rfl rfl) hS.rd ?_
        refine LW.nil fun aa ha => hK9 _ _ _ ?_ aa ha
        refine CW.no rfl (CW.skip fun aa ha => hKb _ _ _ ?_ aa ha)
        refine CW.region [0, 1] rfl ?_
        refine LW.ex rfl rfl rfl rfl (Ex.add rfl rfl (by first | exact inc64 (by omega) | exact addN (by omega) | exact w64 (by omega) (by omega))) hS.rd ?_
        refine LW.ex rfl rfl rfl rfl (Ex.move rfl) hS.rd ?_
        refine LW.nil fun aa ha => ?_
        have hS := hS.drop 0 rfl
        dsimp only [List.eraseIdx] at hS
        refine ⟨b.length - (i + 1), _, by omega, ⟨i + 1, _, by omega, rfl, ?_, rfl, hS, ?_, fun _ => ?_⟩, ha.sub ⟨rfl, rfl, rfl, rfl, rfl, trivial⟩⟩
        · omega
        · rw [he, hst]
        · rw [← hst]; exact hsp
  · skip
    refine CW.seq fun K5 hK5 => ?_
    refine CW.region [0] rfl ?_
    refine LW.ex rfl rfl rfl rfl (Ex.lss rfl rfl (by first | exact decide_eq_true (by omega) | exact decide_eq_false (by omega) | rfl)) hS.rd ?_
    refine LW.nil fun aa ha => hK5 _ _ _ ?_ aa ha
    refine CW.seq fun Kc hKc => ?_
    refine CW.no rfl ?_
    refine CW.exit fun aa ha => hK4o _ _ _ ?_ aa ha
    have hkv : kv = kvOf b p := by rw [he, List.drop_of_length_le (by omega)]; rfl
    have hkp := hpos (by omega)
    have hkl2 : kv.length ≤ 1000 := by omega
    refine CW.seq fun K12 hK12 => ?_
    refine CW.region [0] rfl ?_
    refine LW.ex rfl rfl rfl rfl (Ex.assign rfl) hS.rd ?_
    refine LW.nil fun aa ha => hK12 _ _ _ ?_ aa ha
    have hS := nil_sl 55 2 hS
    refine CW.seq fun K13o hK13o => ?_
    refine CW.seq fun K13 hK13 => ?_
    refine CW.region [0, 1] rfl ?_
    refine LW.ex rfl rfl rfl rfl (Ex.move rfl) hS.rd ?_
    refine LW.hv rfl rfl rfl rfl (Hv.range Try.underlying63 1 hS rfl rfl) fun v w59 ⟨b59, hv59, hb59, hS⟩ => ?_
    subst hv59
    dsimp only [List.set] at hS
    refine LW.nil fun aa ha => hK13 _ _ _ ?_ aa ha
    refine CW.block ?_
    refine CW.loop (fun q m w1 => ∃ (left : List (UInt8 × Int)) (cur : Option (UInt8 × Int)) (xs : List Ch) (ado : Option Addr) (co n : Nat), n = xs.length ∧ q = left.length ∧ n + left.length = kv.length ∧
        m = [(12, .slice ado n co), (59, .pointer (some ⟨b59, 0, none⟩))] ∧
        St w w1 μ [Own.sl ado n co 55 2 (xs.flatMap chL), Own.rng ekB evI b24 b59 kv left cur, Own.obj b2 [.slice none 0 0, .slice ad b.length c, .slice none 0 0] 32] ∧
        (xs ++ left.map mkCh).Perm (kv.map mkCh)) kv.length
      ⟨kv, none, [], none, 0, 0, rfl, rfl, by omega, rfl, hS, List.Perm.refl _⟩ ⟨rfl, rfl, trivial⟩ ?_
    clear hS
    rintro q m w1 ⟨left, cur, xs, ado, co, n, hn1, hq, hnl, rfl, hS, hperm⟩
    rcases hle : left with _ | ⟨p0, left0⟩
    · subst hle
      refine CW.seq fun K14 hK14 => ?_
      refine CW.region [0, 1] rfl ?_
      refine LW.hv rfl rfl rfl rfl (Hv.next_done 1 hS rfl rfl) fun v w60 ⟨hv60, hS⟩ => ?_
      subst hv60
      refine LW.ex rfl rfl rfl rfl (Ex.extract rfl rfl) hS.rd ?_
      refine LW.nil fun aa ha => hK14 _ _ _ ?_ aa ha
      refine CW.seq fun Kc hKc => ?_
      refine CW.no rfl ?_
      refine CW.exit fun aa ha => hK13o _ _ _ ?_ aa ha
      have hperm : xs.Perm (kv.map mkCh) := by simpa using hperm
      simp only [List.length_nil, Nat.add_zero] at hnl
      have hcap := hS.sl_cap 0 rfl
      obtain ⟨gO, rfl⟩ := hS.sl_some 0 rfl (by omega)
      subst hn1
      refine CW.seq fun K17 hK17 => ?_
      refine CW.region [0, 1] rfl ?_
      refine LW.ex rfl rfl rfl rfl (Ex.move rfl) hS.rd ?_
      refine LW.hv rfl rfl rfl rfl (Hv.sortBy (enc := chL) (k := 2) (xs := xs) 0 hS rfl chL_len (by omega) rfl rfl rfl rfl rfl cb24 (fun hH hg => sortFunc_c 25 byCost swoCost cb25 byCost_c gO co xs.toArray _ hH hg (by simp; omega))) fun v w72 ⟨hv72, ys, hyp, hyw, hS⟩ => ?_
      subst hv72
      dsimp only [List.set] at hS
      refine LW.nil fun aa ha => hK17 _ _ _ ?_ aa ha
      have hyl := hyp.length_eq
      obtain ⟨j, hj⟩ : ∃ j, j = min xs.length 8 := ⟨_, rfl⟩
      have hmin : leastL (xs.length : Int) [8] = (j : Int) := by simp only [leastL, List.foldl_cons, List.foldl_nil]; omega
      refine CW.seq fun K18 hK18 => ?_
      refine CW.region [0, 1, 2, 3, 4, 5, 6] rfl ?_
      refine LW.ex rfl rfl rfl rfl (Ex.move rfl) hS.rd ?_
      refine LW.ex rfl rfl rfl rfl (Ex.move rfl) hS.rd ?_
      refine LW.ex rfl rfl rfl rfl (Ex.lenSl rfl Try.underlying35 rfl) hS.rd ?_
      refine LW.hv rfl rfl rfl rfl (Hv.buildSl hS Try.underlying71 ti3 rfl rfl rfl rfl rfl rfl) fun v w76 ⟨b76, hv, hb76, hS⟩ => ?_
      subst hv
      refine LW.hv rfl rfl rfl rfl (Hv.callS hS rfl rfl rfl cb23 (least_c (xs.length : Int) [8] _ _ (memOf _) _ (imm_memOf _) (hS.lend_obj (k := 0) rfl (RepL.ints1 _ _) (by simp [maxLen])))) fun v w77 ⟨hv, hS⟩ => ?_
      subst hv
      refine LW.ex rfl rfl rfl rfl (Ex.sliceTo Try.underlying35 ti55 rfl rfl hmin (by omega)) hS.rd ?_
      have hS := hS.drop 0 rfl
      dsimp only [List.eraseIdx] at hS
      have hS := hS.take_sl (k := 0) rfl j (by omega)
      dsimp only [List.set] at hS
      rw [flatMap_take chL_len] at hS
      refine LW.ex rfl rfl rfl rfl (Ex.assign rfl) hS.rd ?_
      refine LW.nil fun aa ha => hK18 _ _ _ ?_ aa ha
      obtain ⟨zs0, hz⟩ : ∃ zs0, zs0 = ys.take j := ⟨_, rfl⟩
      have hzl : j = zs0.length := by rw [hz, List.length_take]; omega
      have hz8 : zs0 = ys.take 8 := by rw [hz, hj]; by_cases h8 : xs.length ≤ 8
                                       · rw [List.take_of_length_le (by omega), List.take_of_length_le (by omega)]
                                       · rw [Nat.min_eq_right (by omega)]
      rw [← hz] at hS
      subst hzl
      refine CW.seq fun K19 hK19 => ?_
      refine CW.region [0, 1] rfl ?_
      refine LW.ex rfl rfl rfl rfl (Ex.move rfl) hS.rd ?_
      refine LW.hv rfl rfl rfl rfl (Hv.sortBy (enc := chL) (k := 2) (xs := zs0) 0 hS rfl chL_len (by omega) rfl rfl rfl rfl rfl cb24 (fun hH hg => sortFunc_c 29 byKey swoKey cb29 byKey_c gO co zs0.toArray _ hH hg (by simp; omega))) fun v w80 ⟨hv80, zs, hzp, hzw, hS⟩ => ?_
      subst hv80
      dsimp only [List.set] at hS
      refine LW.nil fun aa ha => hK19 _ _ _ ?_ aa ha
      refine CW.seq fun K20 hK20 => ?_
      refine CW.region [0, 1, 2] rfl ?_
      refine LW.ex rfl rfl rfl rfl (Ex.move rfl) hS.rd ?_
      refine LW.ex rfl rfl rfl rfl (Ex.assign rfl) hS.rd ?_
      refine LW.ex rfl rfl rfl rfl (Ex.assign rfl) hS.rd ?_
      refine LW.nil fun aa ha => hK20 _ _ _ ?_ aa ha
      refine CW.ret fun aa ha => ?_
      obtain ⟨bs, μ', hm, hS, hφ⟩ := hS.shut 0 rfl
      refine ret_two ha Try.results13 rfl rfl ⟨_, μ', rfl, hS.below, hm, hS.imm, zs, some ⟨gO, 0, none⟩, co, 0, ?_, ?_, ?_⟩
      · rw [hzp.length_eq]
      · exact Sl.of_own hφ (RepL.flat chL_len (by decide) μ' (fun x => ⟨rfl, rfl⟩) zs) hzp.length_eq.symm
      · rw [MatchRel, if_pos ⟨hv, by omega⟩]
        refine ⟨rfl, ys, by rw [← hkv]; exact hyp.trans hperm, hyw, by rw [← hz8]; exact hzp, hzw⟩
    · have hne : left ≠ [] := by rw [hle]; simp
      have hlp : 0 < left.length := by rw [hle]; simp
      clear hle
      refine CW.seq fun K14 hK14 => ?_
      refine CW.region [0, 1] rfl ?_
      refine LW.hv rfl rfl rfl rfl (Hv.next_more 1 hS rfl rfl hne) fun v w60 ⟨j, pr, hj, hv60, hS⟩ => ?_
      subst hv60
      dsimp only [List.set] at hS
      refine LW.ex rfl rfl rfl rfl (Ex.extract rfl rfl) hS.rd ?_
      refine LW.nil fun aa ha => hK14 _ _ _ ?_ aa ha
      refine CW.seq fun Kc hKc => ?_
      refine CW.yes rfl (CW.skip fun aa ha => hKc _ _ _ ?_ aa ha)
      refine CW.block ?_
      refine CW.seq fun K15 hK15 => ?_
      refine CW.region [0, 1, 2, 3, 4] rfl ?_
      refine LW.ex rfl rfl rfl rfl (Ex.entry 1 rfl rfl) hS.rd ?_
      refine LW.ex rfl rfl rfl rfl (Ex.extract rfl rfl) hS.rd ?_
      refine LW.ex rfl rfl rfl rfl (Ex.extract rfl rfl) hS.rd ?_
      refine LW.ex rfl rfl rfl rfl (Ex.assign rfl) hS.rd ?_
      refine LW.ex rfl rfl rfl rfl (Ex.assign rfl) hS.rd ?_
      refine LW.nil fun aa ha => hK15 _ _ _ ?_ aa ha
      have hjl := (List.getElem?_eq_some_iff.1 hj).1
      have hel : (left.eraseIdx j).length = left.length - 1 := List.length_eraseIdx_of_lt hjl
      refine CW.region [0, 1, 2, 3, 4, 5, 6] rfl ?_
      refine LW.ex rfl rfl rfl rfl (Ex.move rfl) hS.rd ?_
      refine LW.ex rfl rfl rfl rfl (Ex.move rfl) hS.rd ?_
      refine LW.ex rfl rfl rfl rfl (Ex.move rfl) hS.rd ?_
      refine LW.ex rfl rfl rfl rfl (Ex.buildS st55 rfl rfl rfl) hS.rd ?_
      refine LW.hv rfl rfl rfl rfl (Hv.buildSl hS Try.underlying35 ti55 rfl rfl rfl rfl rfl rfl) fun v w69 ⟨b69, hv, hb69, hS⟩ => ?_
      subst hv
      refine LW.hv rfl rfl rfl rfl (Hv.append (k := 1) rfl Try.underlying35 ti55 rfl hS rfl rfl rfl rfl (Rd.objAll (k := 0) rfl hS.rd) (by simp [Value.oneCell']) (by unfold maxLen; omega) (by omega)) fun v w70 ⟨ad70, c70, hv, hS⟩ => ?_
      subst hv
      dsimp only [List.set] at hS
      have hS := hS.drop 0 rfl
      dsimp only [List.eraseIdx] at hS
      refine LW.ex rfl rfl rfl rfl (Ex.assign rfl) hS.rd ?_
      refine LW.nil fun aa ha => ?_
      refine ⟨left.length - 1, _, by omega, ⟨left.eraseIdx j, some pr, xs ++ [mkCh pr], _, _, n + 1, by simp [hn1], hel.symm, by omega, rfl, by rw [List.flatMap_append]; exact hS, ?_⟩, ha.sub ⟨rfl, rfl, trivial⟩⟩
      refine List.Perm.trans ?_ hperm
      rw [List.append_assoc]
      refine List.Perm.append_left _ ?_
      exact (erase_perm hj).map mkCh
end Go.Proofs.Ythbglfjajifkoaa
