/-
  Areas: the walk of area.Touch.
-/
import Derived.Test.YtphgjongflkolaaArH
namespace Go.Proofs.Ytphgjongflkolaa
open Go.RowKit Sy Go.Sort

theorem byKey_lt (x y : Ch) : ltOf byKey x y = decide (x.Key.toNat < y.Key.toNat) := by
  unfold ltOf byKey
  by_cases h : x.Key.toNat < y.Key.toNat
  · rw [decide_eq_true h, decide_eq_true ((cmpI_neg _ _).2 (by omega))]
  · rw [decide_eq_false h, decide_eq_false fun h2 => h (by have := (cmpI_neg _ _).1 h2; omega)]
theorem byCost_lt (x y : Ch) : ltOf byCost x y = decide (x.Cost < y.Cost ∨ (x.Cost = y.Cost ∧ x.Key.toNat < y.Key.toNat)) := by
  unfold ltOf byCost orL
  by_cases h0 : x.Cost = y.Cost
  · have e0 : cmpI x.Cost y.Cost = 0 := by simp [cmpI, h0]
    rw [if_pos e0]
    have e1 : orL [cmpI x.Key.toNat y.Key.toNat] = cmpI x.Key.toNat y.Key.toNat := by unfold orL; split <;> simp_all [orL]
    rw [e1]
    by_cases h : x.Key.toNat < y.Key.toNat
    · rw [decide_eq_true ((cmpI_neg _ _).2 (by omega)), decide_eq_true (by omega)]
    · rw [decide_eq_false (fun h2 => h (by have := (cmpI_neg _ _).1 h2; omega)), decide_eq_false (by omega)]
  · have e0 : cmpI x.Cost y.Cost ≠ 0 := by unfold cmpI; (repeat' split) <;> omega
    rw [if_neg e0]
    by_cases h : x.Cost < y.Cost
    · rw [decide_eq_true ((cmpI_neg _ _).2 h), decide_eq_true (by omega)]
    · rw [decide_eq_false (fun h2 => h ((cmpI_neg _ _).1 h2)), decide_eq_false (by omega)]
theorem swoKey : SWO (ltOf byKey) where
  irrefl x := by rw [byKey_lt]; simp
  trans x y z h1 h2 := by rw [byKey_lt] at *; simp at *; omega
  ntrans x y z h1 h2 := by rw [byKey_lt] at *; simp at *; omega
theorem swoCost : SWO (ltOf byCost) where
  irrefl x := by rw [byCost_lt]; simp
  trans x y z h1 h2 := by rw [byCost_lt] at *; simp only [decide_eq_true_eq] at *; omega
  ntrans x y z h1 h2 := by rw [byCost_lt] at *; simp only [decide_eq_false_iff_not] at *; omega

/-- The areas that a touch may mean. -/
def mayMean (taps : List Tap) (p : Pt) (a : Area) : Option Ch := if costOf a taps p ≤ 1000 then some ⟨a.Key, costOf a taps p⟩ else none
def meant (l : List Area) (taps : List Tap) (p : Pt) : List Ch := l.filterMap (mayMean taps p)
def TouchRel (l : List Area) (taps : List Tap) (p : Pt) (zs : List Ch) (e : Int) : Prop :=
  if inP p = false then e = 1 ∧ zs = [] else if meant l taps p = [] then e = 210 ∧ zs = []
  else e = 0 ∧ ∃ ys : List Ch, ys.Perm (meant l taps p) ∧ ys.Pairwise (fun x y => ltOf byCost y x = false) ∧ zs.Perm (ys.take 8) ∧ zs.Pairwise (fun x y => ltOf byKey y x = false)
def IsTouch (l : List Area) (taps : List Tap) (p : Pt) (μ : Mem) (v : Value) : Prop := ∃ zs ad c e, v = .tuple #[.slice ad (zs : List Ch).length c, .int .i64 e] ∧ Sl μ ad c zs ∧ TouchRel l taps p zs e

set_option maxRecDepth 100000 in
theorem touch_c (l : List Area) (taps : List Tap) (p : Pt) (v1 v2 : Value) (ada adt : Option Addr) (ca ct : Nat) (μ : Mem) (w : World) (hμ : Imm μ w) (hl : Sl μ ada ca l) (ht : Sl μ adt ct taps) (hB : ∀ a ∈ l, ArB a) (hT : ∀ t ∈ taps, TapB t) (hr : Rising taps) (hll : l.length ≤ 1000) (htl : taps.length ≤ 1000) :
    Calls Try.prog 15 #[.agg #[.slice ada l.length ca, v1, v2], .slice adt taps.length ct, ptV p] w (RetV w μ (IsTouch l taps p)) := by
  have hS := St.start w μ hμ
  refine calls_start 53 [.agg #[.slice ada l.length ca, v1, v2], .slice adt taps.length ct, ptV p] Try.func15 rfl Try.ntmps15 rfl rfl ?_
  refine CW.seq fun K0 hK0 => ?_
  refine CW.region [0, 1, 2, 3] rfl ?_
  refine LW.hv rfl rfl rfl rfl (Hv.box hS rfl) fun v w3 ⟨b3, hv, hb3, hS⟩ => ?_
  subst hv
  refine LW.hv rfl rfl rfl rfl (Hv.box hS rfl) fun v w5 ⟨b5, hv, hb5, hS⟩ => ?_
  subst hv
  refine LW.ex rfl rfl rfl rfl (Ex.assign rfl) hS.rd ?_
  refine LW.ex rfl rfl rfl rfl (Ex.assign rfl) hS.rd ?_
  refine LW.nil fun aa ha => hK0 _ _ _ ?_ aa ha
  cases hin : inP p with
  | false =>
    refine CW.seq fun K1o hK1o => ?_
    refine CW.seq fun K1 hK1 => ?_
    refine CW.region [0, 1, 2, 3] rfl ?_
    refine LW.ex rfl rfl rfl rfl (Ex.load2c ti36 rfl rfl (by first | exact Rd.obj (k := 0) rfl rfl | exact Rd.obj (k := 1) rfl rfl | exact Rd.obj (k := 2) rfl rfl | exact Rd.obj (k := 3) rfl rfl | exact Rd.obj (k := 4) rfl rfl | exact Rd.imm (by assumption) | exact Rd.sl (k := 0) rfl (by assumption) | exact Rd.sl (k := 1) rfl (by assumption) | exact Rd.sl (k := 2) rfl (by assumption) | exact Rd.sl (k := 3) rfl (by assumption)) (by first | exact Rd.obj (k := 0) rfl rfl | exact Rd.obj (k := 1) rfl rfl | exact Rd.obj (k := 2) rfl rfl | exact Rd.obj (k := 3) rfl rfl | exact Rd.obj (k := 4) rfl rfl | exact Rd.imm (by assumption) | exact Rd.sl (k := 0) rfl (by assumption) | exact Rd.sl (k := 1) rfl (by assumption) | exact Rd.sl (k := 2) rfl (by assumption) | exact Rd.sl (k := 3) rfl (by assumption))) hS.rd ?_
    refine LW.hv rfl rfl rfl rfl (Hv.buildSl hS Try.underlying53 ti36 rfl rfl rfl rfl rfl rfl) fun v w14 ⟨b14, hv, hb14, hS⟩ => ?_
    subst hv
    refine LW.hv rfl rfl rfl rfl (Hv.callS hS rfl rfl rfl cb31 (inside_c [p] _ _ (memOf _) _ (imm_memOf _) (hS.lend_obj (k := 0) rfl (ptReps _ [p]) (by simp [maxLen])))) fun v w15 ⟨hv, hS⟩ => ?_
    subst hv
    rw [show [p].all inP = false by simp [hin]]
    refine LW.ex rfl rfl rfl rfl (Ex.not rfl rfl) hS.rd ?_
    refine LW.nil fun aa ha => hK1 _ _ _ ?_ aa ha
    refine CW.yes rfl ?_
    refine CW.seq fun K2 hK2 => ?_
    refine CW.region [0, 1] rfl ?_
    refine LW.ex rfl rfl rfl rfl (Ex.assign rfl) hS.rd ?_
    refine LW.ex rfl rfl rfl rfl (Ex.assign rfl) hS.rd ?_
    refine LW.nil fun aa ha => hK2 _ _ _ ?_ aa ha
    refine CW.ret fun aa ha => ?_
    refine ret_two ha Try.results15 rfl rfl ⟨_, μ, rfl, hS.below, Mem.ext.refl _ _, hS.imm, [], none, 0, 1, rfl, Sl.nil _ _ _ (by simp [maxLen]), ?_⟩
    rw [TouchRel, if_pos hin]; exact ⟨rfl, rfl⟩
  | true =>
    refine CW.seq fun K1o hK1o => ?_
    refine CW.seq fun K1 hK1 => ?_
    refine CW.region [0, 1, 2, 3] rfl ?_
    refine LW.ex rfl rfl rfl rfl (Ex.load2c ti36 rfl rfl (by first | exact Rd.obj (k := 0) rfl rfl | exact Rd.obj (k := 1) rfl rfl | exact Rd.obj (k := 2) rfl rfl | exact Rd.obj (k := 3) rfl rfl | exact Rd.obj (k := 4) rfl rfl | exact Rd.imm (by assumption) | exact Rd.sl (k := 0) rfl (by assumption) | exact Rd.sl (k := 1) rfl (by assumption) | exact Rd.sl (k := 2) rfl (by assumption) | exact Rd.sl (k := 3) rfl (by assumption)) (by first | exact Rd.obj (k := 0) rfl rfl | exact Rd.obj (k := 1) rfl rfl | exact Rd.obj (k := 2) rfl rfl | exact Rd.obj (k := 3) rfl rfl | exact Rd.obj (k := 4) rfl rfl | exact Rd.imm (by assumption) | exact Rd.sl (k := 0) rfl (by assumption) | exact Rd.sl (k := 1) rfl (by assumption) | exact Rd.sl (k := 2) rfl (by assumption) | exact Rd.sl (k := 3) rfl (by assumption))) hS.rd ?_
    refine LW.hv rfl rfl rfl rfl (Hv.buildSl hS Try.underlying53 ti36 rfl rfl rfl rfl rfl rfl) fun v w14 ⟨b14, hv, hb14, hS⟩ => ?_
    subst hv
    refine LW.hv rfl rfl rfl rfl (Hv.callS hS rfl rfl rfl cb31 (inside_c [p] _ _ (memOf _) _ (imm_memOf _) (hS.lend_obj (k := 0) rfl (ptReps _ [p]) (by simp [maxLen])))) fun v w15 ⟨hv, hS⟩ => ?_
    subst hv
    rw [show [p].all inP = true by simp [hin]]
    refine LW.ex rfl rfl rfl rfl (Ex.not rfl rfl) hS.rd ?_
    refine LW.nil fun aa ha => hK1 _ _ _ ?_ aa ha
    refine CW.no rfl (CW.skip fun aa ha => hK1o _ _ _ ?_ aa ha)
    have hpb : 0 ≤ p.X ∧ p.X ≤ 1000 ∧ 0 ≤ p.Y ∧ p.Y ≤ 1000 := by simp only [inP, Bool.and_eq_true, decide_eq_true_eq] at hin; omega
    have hS := hS.drop 0 rfl
    dsimp only [List.eraseIdx] at hS
    have hS := nil_sl 67 2 hS
    refine CW.seq fun K3 hK3 => ?_
    refine CW.region [0] rfl ?_
    refine LW.ex rfl rfl rfl rfl (Ex.assign rfl) hS.rd ?_
    refine LW.nil fun aa ha => hK3 _ _ _ ?_ aa ha
    refine CW.seq fun K4o hK4o => ?_
    refine CW.seq fun K4 hK4 => ?_
    refine CW.region [0, 1, 2, 3] rfl ?_
    refine LW.ex rfl rfl rfl rfl (Ex.fieldA Try.underlying31 rfl ti27 rfl) hS.rd ?_
    refine LW.ex rfl rfl rfl rfl (Ex.load1 ti27 rfl rfl (by first | exact Rd.obj (k := 0) rfl rfl | exact Rd.obj (k := 1) rfl rfl | exact Rd.obj (k := 2) rfl rfl | exact Rd.obj (k := 3) rfl rfl | exact Rd.obj (k := 4) rfl rfl | exact Rd.imm (by assumption) | exact Rd.sl (k := 0) rfl (by assumption) | exact Rd.sl (k := 1) rfl (by assumption) | exact Rd.sl (k := 2) rfl (by assumption) | exact Rd.sl (k := 3) rfl (by assumption))) hS.rd ?_
    refine LW.ex rfl rfl rfl rfl (Ex.lenSl rfl Try.underlying27 rfl) hS.rd ?_
    refine LW.ex rfl rfl rfl rfl (Ex.move rfl) hS.rd ?_
    refine LW.nil fun aa ha => hK4 _ _ _ ?_ aa ha
    refine CW.block ?_
    refine CW.loop (fun q m w1 => ∃ (i n : Nat) (xs : List Ch) (ado : Option Addr) (co : Nat), i ≤ l.length ∧ q = l.length - i ∧ n = xs.length ∧ n ≤ i ∧
        m = [(1, .slice adt taps.length ct), (5, .pointer (some ⟨b5, 0, none⟩)), (8, .slice ado n co), (18, .slice ada l.length ca), (19, .int .i64 l.length), (20, .int .i64 i)] ∧
        St w w1 μ [Own.sl ado n co 67 2 (xs.flatMap chL), Own.obj b5 [.int .i64 p.X, .int .i64 p.Y] 36, Own.obj b3 [.slice ada l.length ca, v1, v2] 31] ∧ xs = meant (l.take i) taps p) l.length
      ⟨0, 0, [], none, 0, by omega, by omega, rfl, by omega, rfl, hS, rfl⟩ ⟨rfl, rfl, rfl, rfl, rfl, rfl, trivial⟩ ?_
    clear hS
    rintro q m w1 ⟨i, n, xs, ado, co, hi, hq, hn, hni, rfl, hS, hxs⟩
    by_cases h1 : i < l.length
    · skip
      refine CW.seq fun K5 hK5 => ?_
      refine CW.region [0] rfl ?_
      refine LW.ex rfl rfl rfl rfl (Ex.lss rfl rfl (by first | exact decide_eq_true (by omega) | exact decide_eq_false (by omega) | rfl)) hS.rd ?_
      refine LW.nil fun aa ha => hK5 _ _ _ ?_ aa ha
      refine CW.seq fun Kc hKc => ?_
      refine CW.yes rfl ?_
      refine CW.skip fun aa ha => hKc _ _ _ ?_ aa ha
      obtain ⟨bl, ol, rfl, k0, k1, k2, k3, k4⟩ := hl.at h1
      have hA := hB _ (List.getElem_mem h1)
      have hst : meant (l.take (i + 1)) taps p = meant (l.take i) taps p ++ (match mayMean taps p l[i] with | some x => [x] | none => []) := by
        unfold meant; rw [List.take_succ_eq_append_getElem h1, List.filterMap_append]; congr 1; simp only [List.filterMap_cons, List.filterMap_nil]; cases mayMean taps p l[i] <;> rfl
      refine CW.seq fun Kb hKb => ?_
      refine CW.block ?_
      refine CW.seq fun K6 hK6 => ?_
      refine CW.region [0, 1, 2, 3] rfl ?_
      refine LW.ex rfl rfl rfl rfl (Ex.indexSl Try.underlying27 ti57 rfl rfl rfl (by omega)) hS.rd ?_
      refine LW.ex rfl rfl rfl rfl (Ex.load5c ti57 rfl rfl (by first | exact Rd.obj (k := 0) rfl rfl | exact Rd.obj (k := 1) rfl rfl | exact Rd.obj (k := 2) rfl rfl | exact Rd.obj (k := 3) rfl rfl | exact Rd.obj (k := 4) rfl rfl | exact Rd.imm (by assumption) | exact Rd.sl (k := 0) rfl (by assumption) | exact Rd.sl (k := 1) rfl (by assumption) | exact Rd.sl (k := 2) rfl (by assumption) | exact Rd.sl (k := 3) rfl (by assumption)) (by first | exact Rd.obj (k := 0) rfl rfl | exact Rd.obj (k := 1) rfl rfl | exact Rd.obj (k := 2) rfl rfl | exact Rd.obj (k := 3) rfl rfl | exact Rd.obj (k := 4) rfl rfl | exact Rd.imm (by assumption) | exact Rd.sl (k := 0) rfl (by assumption) | exact Rd.sl (k := 1) rfl (by assumption) | exact Rd.sl (k := 2) rfl (by assumption) | exact Rd.sl (k := 3) rfl (by assumption)) (by first | exact Rd.obj (k := 0) rfl rfl | exact Rd.obj (k := 1) rfl rfl | exact Rd.obj (k := 2) rfl rfl | exact Rd.obj (k := 3) rfl rfl | exact Rd.obj (k := 4) rfl rfl | exact Rd.imm (by assumption) | exact Rd.sl (k := 0) rfl (by assumption) | exact Rd.sl (k := 1) rfl (by assumption) | exact Rd.sl (k := 2) rfl (by assumption) | exact Rd.sl (k := 3) rfl (by assumption)) (by first | exact Rd.obj (k := 0) rfl rfl | exact Rd.obj (k := 1) rfl rfl | exact Rd.obj (k := 2) rfl rfl | exact Rd.obj (k := 3) rfl rfl | exact Rd.obj (k := 4) rfl rfl | exact Rd.imm (by assumption) | exact Rd.sl (k := 0) rfl (by assumption) | exact Rd.sl (k := 1) rfl (by assumption) | exact Rd.sl (k := 2) rfl (by assumption) | exact Rd.sl (k := 3) rfl (by assumption)) (by first | exact Rd.obj (k := 0) rfl rfl | exact Rd.obj (k := 1) rfl rfl | exact Rd.obj (k := 2) rfl rfl | exact Rd.obj (k := 3) rfl rfl | exact Rd.obj (k := 4) rfl rfl | exact Rd.imm (by assumption) | exact Rd.sl (k := 0) rfl (by assumption) | exact Rd.sl (k := 1) rfl (by assumption) | exact Rd.sl (k := 2) rfl (by assumption) | exact Rd.sl (k := 3) rfl (by assumption))) hS.rd ?_
      refine LW.hv rfl rfl rfl rfl (Hv.alloc ti57 hS) fun v w10 ⟨b10, hv, hb10, hS⟩ => ?_
      subst hv
      refine LW.hu rfl rfl rfl (Hv.storeN (k := 0) ti57 hS rfl rfl rfl rfl (by simp [Value.oneCell'])) fun _ w_3 hS => ?_
      dsimp only [List.set] at hS
      refine LW.nil fun aa ha => hK6 _ _ _ ?_ aa ha
      refine CW.seq fun K7 hK7 => ?_
      refine CW.region [0, 1, 2, 3, 4] rfl ?_
      refine LW.ex rfl rfl rfl rfl (Ex.load5c ti57 rfl rfl (by first | exact Rd.obj (k := 0) rfl rfl | exact Rd.obj (k := 1) rfl rfl | exact Rd.obj (k := 2) rfl rfl | exact Rd.obj (k := 3) rfl rfl | exact Rd.obj (k := 4) rfl rfl | exact Rd.imm (by assumption) | exact Rd.sl (k := 0) rfl (by assumption) | exact Rd.sl (k := 1) rfl (by assumption) | exact Rd.sl (k := 2) rfl (by assumption) | exact Rd.sl (k := 3) rfl (by assumption)) (by first | exact Rd.obj (k := 0) rfl rfl | exact Rd.obj (k := 1) rfl rfl | exact Rd.obj (k := 2) rfl rfl | exact Rd.obj (k := 3) rfl rfl | exact Rd.obj (k := 4) rfl rfl | exact Rd.imm (by assumption) | exact Rd.sl (k := 0) rfl (by assumption) | exact Rd.sl (k := 1) rfl (by assumption) | exact Rd.sl (k := 2) rfl (by assumption) | exact Rd.sl (k := 3) rfl (by assumption)) (by first | exact Rd.obj (k := 0) rfl rfl | exact Rd.obj (k := 1) rfl rfl | exact Rd.obj (k := 2) rfl rfl | exact Rd.obj (k := 3) rfl rfl | exact Rd.obj (k := 4) rfl rfl | exact Rd.imm (by assumption) | exact Rd.sl (k := 0) rfl (by assumption) | exact Rd.sl (k := 1) rfl (by assumption) | exact Rd.sl (k := 2) rfl (by assumption) | exact Rd.sl (k := 3) rfl (by assumption)) (by first | exact Rd.obj (k := 0) rfl rfl | exact Rd.obj (k := 1) rfl rfl | exact Rd.obj (k := 2) rfl rfl | exact Rd.obj (k := 3) rfl rfl | exact Rd.obj (k := 4) rfl rfl | exact Rd.imm (by assumption) | exact Rd.sl (k := 0) rfl (by assumption) | exact Rd.sl (k := 1) rfl (by assumption) | exact Rd.sl (k := 2) rfl (by assumption) | exact Rd.sl (k := 3) rfl (by assumption)) (by first | exact Rd.obj (k := 0) rfl rfl | exact Rd.obj (k := 1) rfl rfl | exact Rd.obj (k := 2) rfl rfl | exact Rd.obj (k := 3) rfl rfl | exact Rd.obj (k := 4) rfl rfl | exact Rd.imm (by assumption) | exact Rd.sl (k := 0) rfl (by assumption) | exact Rd.sl (k := 1) rfl (by assumption) | exact Rd.sl (k := 2) rfl (by assumption) | exact Rd.sl (k := 3) rfl (by assumption))) hS.rd ?_
      refine LW.ex rfl rfl rfl rfl (Ex.move rfl) hS.rd ?_
      refine LW.ex rfl rfl rfl rfl (Ex.load2c ti36 rfl rfl (by first | exact Rd.obj (k := 0) rfl rfl | exact Rd.obj (k := 1) rfl rfl | exact Rd.obj (k := 2) rfl rfl | exact Rd.obj (k := 3) rfl rfl | exact Rd.obj (k := 4) rfl rfl | exact Rd.imm (by assumption) | exact Rd.sl (k := 0) rfl (by assumption) | exact Rd.sl (k := 1) rfl (by assumption) | exact Rd.sl (k := 2) rfl (by assumption) | exact Rd.sl (k := 3) rfl (by assumption)) (by first | exact Rd.obj (k := 0) rfl rfl | exact Rd.obj (k := 1) rfl rfl | exact Rd.obj (k := 2) rfl rfl | exact Rd.obj (k := 3) rfl rfl | exact Rd.obj (k := 4) rfl rfl | exact Rd.imm (by assumption) | exact Rd.sl (k := 0) rfl (by assumption) | exact Rd.sl (k := 1) rfl (by assumption) | exact Rd.sl (k := 2) rfl (by assumption) | exact Rd.sl (k := 3) rfl (by assumption))) hS.rd ?_
      refine LW.hv rfl rfl rfl rfl (Hv.callS hS rfl rfl rfl cb32 (cost_c l[i] taps p _ _ μ _ hS.imm ht hT hA (by omega) hr htl)) fun v w27 ⟨hv, hS⟩ => ?_
      subst hv
      refine LW.ex rfl rfl rfl rfl (Ex.assign rfl) hS.rd ?_
      refine LW.nil fun aa ha => hK7 _ _ _ ?_ aa ha
      have hlen := hS.sl_cap 1 rfl
      by_cases c1 : costOf l[i] taps p ≤ 1000
      · skip
        refine CW.seq fun K8 hK8 => ?_
        refine CW.region [0, 1] rfl ?_
        refine LW.ex rfl rfl rfl rfl (Ex.move rfl) hS.rd ?_
        refine LW.ex rfl rfl rfl rfl (Ex.leq rfl rfl (by first | exact decide_eq_true (by omega) | exact decide_eq_false (by omega) | rfl)) hS.rd ?_
        refine LW.nil fun aa ha => hK8 _ _ _ ?_ aa ha
        refine CW.yes rfl ?_
        refine CW.region [0, 1, 2, 3, 4, 5, 6, 7] rfl ?_
        refine LW.ex rfl rfl rfl rfl (Ex.move rfl) hS.rd ?_
        refine LW.ex rfl rfl rfl rfl (Ex.fieldA Try.underlying57 rfl ti5 rfl) hS.rd ?_
        refine LW.ex rfl rfl rfl rfl (Ex.load1 ti5 rfl rfl (by first | exact Rd.obj (k := 0) rfl rfl | exact Rd.obj (k := 1) rfl rfl | exact Rd.obj (k := 2) rfl rfl | exact Rd.obj (k := 3) rfl rfl | exact Rd.obj (k := 4) rfl rfl | exact Rd.imm (by assumption) | exact Rd.sl (k := 0) rfl (by assumption) | exact Rd.sl (k := 1) rfl (by assumption) | exact Rd.sl (k := 2) rfl (by assumption) | exact Rd.sl (k := 3) rfl (by assumption))) hS.rd ?_
        refine LW.ex rfl rfl rfl rfl (Ex.move rfl) hS.rd ?_
        refine LW.ex rfl rfl rfl rfl (Ex.buildS st67 rfl rfl rfl) hS.rd ?_
        refine LW.hv rfl rfl rfl rfl (Hv.buildSl hS Try.underlying39 ti67 rfl rfl rfl rfl rfl rfl) fun v w35 ⟨b35, hv, hb35, hS⟩ => ?_
        subst hv
        refine LW.hv rfl rfl rfl rfl (Hv.append (k := 2) rfl Try.underlying39 ti67 rfl hS rfl rfl rfl rfl (Rd.objAll (k := 0) rfl hS.rd) (by simp [Value.oneCell']) (by unfold maxLen; omega) (by omega)) fun v w36 ⟨ad36, c36, hv, hS⟩ => ?_
        subst hv
        dsimp only [List.set] at hS
        have hS := hS.drop 0 rfl
        dsimp only [List.eraseIdx] at hS
        refine LW.ex rfl rfl rfl rfl (Ex.assign rfl) hS.rd ?_
        refine LW.nil fun aa ha => hKb _ _ _ ?_ aa ha
        refine CW.region [0, 1] rfl ?_
        refine LW.ex rfl rfl rfl rfl (Ex.add rfl rfl (by first | exact inc64 (by omega) | exact addN (by omega) | exact w64 (by omega) (by omega))) hS.rd ?_
        refine LW.ex rfl rfl rfl rfl (Ex.move rfl) hS.rd ?_
        refine LW.nil fun aa ha => ?_
        have hS := hS.drop 0 rfl
        dsimp only [List.eraseIdx] at hS
        refine ⟨l.length - (i + 1), _, by omega, ⟨i + 1, n + 1, xs ++ [⟨l[i].Key, costOf l[i] taps p⟩], _, _, by omega, rfl, by simp [hn], by omega, rfl, by rw [List.flatMap_append]; exact hS, ?_⟩, ha.sub ⟨rfl, rfl, rfl, rfl, rfl, rfl, trivial⟩⟩
        rw [hst, ← hxs]; unfold mayMean; rw [if_pos c1]
      · skip
        refine CW.seq fun K8 hK8 => ?_
        refine CW.region [0, 1] rfl ?_
        refine LW.ex rfl rfl rfl rfl (Ex.move rfl) hS.rd ?_
        refine LW.ex rfl rfl rfl rfl (Ex.leq rfl rfl (by first | exact decide_eq_true (by omega) | exact decide_eq_false (by omega) | rfl)) hS.rd ?_
        refine LW.nil fun aa ha => hK8 _ _ _ ?_ aa ha
        refine CW.no rfl (CW.skip fun aa ha => hKb _ _ _ ?_ aa ha)
        refine CW.region [0, 1] rfl ?_
        refine LW.ex rfl rfl rfl rfl (Ex.add rfl rfl (by first | exact inc64 (by omega) | exact addN (by omega) | exact w64 (by omega) (by omega))) hS.rd ?_
        refine LW.ex rfl rfl rfl rfl (Ex.move rfl) hS.rd ?_
        refine LW.nil fun aa ha => ?_
        have hS := hS.drop 0 rfl
        dsimp only [List.eraseIdx] at hS
        refine ⟨l.length - (i + 1), _, by omega, ⟨i + 1, n, xs, _, _, by omega, rfl, hn, by omega, rfl, hS, ?_⟩, ha.sub ⟨rfl, rfl, rfl, rfl, rfl, rfl, trivial⟩⟩
        rw [hst, ← hxs]; unfold mayMean; rw [if_neg c1]; simp
    · skip
      refine CW.seq fun K5 hK5 => ?_
      refine CW.region [0] rfl ?_
      refine LW.ex rfl rfl rfl rfl (Ex.lss rfl rfl (by first | exact decide_eq_true (by omega) | exact decide_eq_false (by omega) | rfl)) hS.rd ?_
      refine LW.nil fun aa ha => hK5 _ _ _ ?_ aa ha
      refine CW.seq fun Kc hKc => ?_
      refine CW.no rfl ?_
      refine CW.exit fun aa ha => hK4o _ _ _ ?_ aa ha
      have hxs : xs = meant l taps p := by rw [hxs, List.take_of_length_le (by omega)]
      by_cases h0 : n = 0
      · have hm : meant l taps p = [] := by rw [← hxs]; exact List.eq_nil_of_length_eq_zero (by omega)
        refine CW.seq fun K11o hK11o => ?_
        refine CW.seq fun K11 hK11 => ?_
        refine CW.region [0, 1, 2] rfl ?_
        refine LW.ex rfl rfl rfl rfl (Ex.move rfl) hS.rd ?_
        refine LW.ex rfl rfl rfl rfl (Ex.lenSl rfl Try.underlying39 rfl) hS.rd ?_
        refine LW.ex rfl rfl rfl rfl (Ex.eql rfl rfl (by first | exact decide_eq_true (by omega) | exact decide_eq_false (by omega) | rfl)) hS.rd ?_
        refine LW.nil fun aa ha => hK11 _ _ _ ?_ aa ha
        refine CW.yes rfl ?_
        refine CW.seq fun K12 hK12 => ?_
        refine CW.region [0, 1] rfl ?_
        refine LW.ex rfl rfl rfl rfl (Ex.assign rfl) hS.rd ?_
        refine LW.ex rfl rfl rfl rfl (Ex.assign rfl) hS.rd ?_
        refine LW.nil fun aa ha => hK12 _ _ _ ?_ aa ha
        refine CW.ret fun aa ha => ?_
        refine ret_two ha Try.results15 rfl rfl ⟨_, μ, rfl, hS.below, Mem.ext.refl _ _, hS.imm, [], none, 0, 210, rfl, Sl.nil _ _ _ (by simp [maxLen]), ?_⟩
        rw [TouchRel, if_neg (by rw [hin]; simp), if_pos hm]; exact ⟨rfl, rfl⟩
      have hm : ¬ meant l taps p = [] := fun h => by rw [h] at hxs; subst hxs; exact h0 hn
      refine CW.seq fun K11o hK11o => ?_
      refine CW.seq fun K11 hK11 => ?_
      refine CW.region [0, 1, 2] rfl ?_
      refine LW.ex rfl rfl rfl rfl (Ex.move rfl) hS.rd ?_
      refine LW.ex rfl rfl rfl rfl (Ex.lenSl rfl Try.underlying39 rfl) hS.rd ?_
      refine LW.ex rfl rfl rfl rfl (Ex.eql rfl rfl (by first | exact decide_eq_true (by omega) | exact decide_eq_false (by omega) | rfl)) hS.rd ?_
      refine LW.nil fun aa ha => hK11 _ _ _ ?_ aa ha
      refine CW.no rfl (CW.skip fun aa ha => hK11o _ _ _ ?_ aa ha)
      have hcap := hS.sl_cap 0 rfl
      obtain ⟨gO, rfl⟩ := hS.sl_some 0 rfl (by omega)
      subst hn
      refine CW.seq fun K13 hK13 => ?_
      refine CW.region [0, 1] rfl ?_
      refine LW.hv rfl rfl rfl rfl (Hv.alloc ti87 hS) fun v w12 ⟨b12, hv, hb12, hS⟩ => ?_
      subst hv
      refine LW.hu rfl rfl rfl (Hv.storeObj (k := 0) ti87 hS rfl rfl rfl rfl (by decide)) fun _ w_1 hS => ?_
      dsimp only [List.set] at hS
      refine LW.nil fun aa ha => hK13 _ _ _ ?_ aa ha
      have hne := hS.ne_sl
      have hcell := Rd.obj (k := 0) (off := 0) rfl rfl _ hS.rd
      refine CW.seq fun K14 hK14 => ?_
      refine CW.region [0, 1, 2] rfl ?_
      refine LW.ex rfl rfl rfl rfl (Ex.move rfl) hS.rd ?_
      refine LW.ex rfl rfl rfl rfl (Ex.makeFunc rfl) hS.rd ?_
      refine LW.hv rfl rfl rfl rfl (Hv.sortBy (enc := chL) (k := 2) (xs := xs) 1 hS rfl chL_len (by omega) rfl rfl rfl rfl rfl cb35 (fun hH hg => sortFunc_c 36 #[.pointer (some ⟨b12, 0, none⟩)] byCost swoCost cb36 gO co xs.toArray _ (cmpLays_inv (fun W => W.cell? ⟨b12, 0, none⟩ = some (.func (.func 33) #[] #[])) (fun m os dk _ => sort_cell hne.1 hne.2 hcell m os dk) (fun x y W hI => byCost_c x y b12 W hI)) hH hg (by simp; omega))) fun v w43 ⟨hv43, ys, hyp, hyw, hS⟩ => ?_
      subst hv43
      dsimp only [List.set] at hS
      refine LW.nil fun aa ha => hK14 _ _ _ ?_ aa ha
      have hyl := hyp.length_eq
      obtain ⟨j, hj⟩ : ∃ j, j = min xs.length 8 := ⟨_, rfl⟩
      have hmin : min (xs.length : Int) 8 = (j : Int) := by omega
      refine CW.seq fun K15 hK15 => ?_
      refine CW.region [0, 1, 2, 3, 4, 5] rfl ?_
      refine LW.ex rfl rfl rfl rfl (Ex.move rfl) hS.rd ?_
      refine LW.ex rfl rfl rfl rfl (Ex.move rfl) hS.rd ?_
      refine LW.ex rfl rfl rfl rfl (Ex.lenSl rfl Try.underlying39 rfl) hS.rd ?_
      refine LW.ex rfl rfl rfl rfl (Ex.min2 rfl rfl rfl) hS.rd ?_
      refine LW.ex rfl rfl rfl rfl (Ex.sliceTo Try.underlying39 ti67 rfl rfl hmin (by omega)) hS.rd ?_
      have hS := hS.take_sl (k := 1) rfl j (by omega)
      dsimp only [List.set] at hS
      rw [flatMap_take chL_len] at hS
      refine LW.ex rfl rfl rfl rfl (Ex.assign rfl) hS.rd ?_
      refine LW.nil fun aa ha => hK15 _ _ _ ?_ aa ha
      obtain ⟨zs0, hz⟩ : ∃ zs0, zs0 = ys.take j := ⟨_, rfl⟩
      have hzl : j = zs0.length := by rw [hz, List.length_take]; omega
      have hz8 : zs0 = ys.take 8 := by rw [hz, hj]; by_cases h8 : xs.length ≤ 8
                                       · rw [List.take_of_length_le (by omega), List.take_of_length_le (by omega)]
                                       · rw [Nat.min_eq_right (by omega)]
      rw [← hz] at hS
      subst hzl
      refine CW.seq fun K16 hK16 => ?_
      refine CW.region [0, 1, 2] rfl ?_
      refine LW.ex rfl rfl rfl rfl (Ex.move rfl) hS.rd ?_
      refine LW.ex rfl rfl rfl rfl (Ex.load1 ti87 rfl rfl (by first | exact Rd.obj (k := 0) rfl rfl | exact Rd.obj (k := 1) rfl rfl | exact Rd.obj (k := 2) rfl rfl | exact Rd.obj (k := 3) rfl rfl | exact Rd.obj (k := 4) rfl rfl | exact Rd.imm (by assumption) | exact Rd.sl (k := 0) rfl (by assumption) | exact Rd.sl (k := 1) rfl (by assumption) | exact Rd.sl (k := 2) rfl (by assumption) | exact Rd.sl (k := 3) rfl (by assumption))) hS.rd ?_
      refine LW.hv rfl rfl rfl rfl (Hv.sortBy (enc := chL) (k := 2) (xs := zs0) 1 hS rfl chL_len (by omega) rfl rfl rfl rfl rfl cb35 (fun hH hg => sortFunc_c 33 #[] byKey swoKey cb33 gO co zs0.toArray _ (cmpLays_of byKey_c) hH hg (by simp; omega))) fun v w51 ⟨hv51, zs, hzp, hzw, hS⟩ => ?_
      subst hv51
      dsimp only [List.set] at hS
      refine LW.nil fun aa ha => hK16 _ _ _ ?_ aa ha
      refine CW.seq fun K17 hK17 => ?_
      refine CW.region [0, 1, 2] rfl ?_
      refine LW.ex rfl rfl rfl rfl (Ex.move rfl) hS.rd ?_
      refine LW.ex rfl rfl rfl rfl (Ex.assign rfl) hS.rd ?_
      refine LW.ex rfl rfl rfl rfl (Ex.assign rfl) hS.rd ?_
      refine LW.nil fun aa ha => hK17 _ _ _ ?_ aa ha
      refine CW.ret fun aa ha => ?_
      obtain ⟨bs, μ', hmm, hS, hφ⟩ := hS.shut 1 rfl
      refine ret_two ha Try.results15 rfl rfl ⟨_, μ', rfl, hS.below, hmm, hS.imm, zs, some ⟨gO, 0, none⟩, co, 0, ?_, ?_, ?_⟩
      · rw [hzp.length_eq]
      · exact Sl.of_own hφ (chReps μ' zs) hzp.length_eq.symm
      · rw [TouchRel, if_neg (by rw [hin]; simp), if_neg hm]
        exact ⟨rfl, ys, by rw [← hxs]; exact hyp, hyw, by rw [← hz8]; exact hzp, hzw⟩
end Go.Proofs.Ytphgjongflkolaa
