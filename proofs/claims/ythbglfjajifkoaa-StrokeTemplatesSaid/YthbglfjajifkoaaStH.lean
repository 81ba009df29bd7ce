/-
  Strokes: the walk of the reference's Match.
-/
import Derived.Test.YthbglfjajifkoaaStG
namespace Go.Proofs.Ythbglfjajifkoaa
open Go.RowKit Sy

def C97 (i : Nat) : UInt8 := UInt8.ofNat (97 + i)
theorem C97_nat {i : Nat} (h : i < 26) : (C97 i).toNat = 97 + i := by unfold C97; rw [UInt8.toNat_ofNat']; omega
def costsOf (b : List Tpl) (p : List Pt) : List Int := (List.range 26).map fun i => costOf b p (C97 i)
def picked (b : List Tpl) (p : List Pt) (i : Nat) : Bool := decide (0 ≤ (costsOf b p)[i]!) && decide (better (costsOf b p) i < 8)
def chOf (b : List Tpl) (p : List Pt) (i : Nat) : Ch := ⟨C97 i, (costsOf b p)[i]!⟩
/-- syllabaryref22.Match -/
def refMatch (b : List Tpl) (p : List Pt) : List Ch × Int :=
  if validP p = true ∧ 0 < b.length then (((List.range 26).filter (picked b p)).map (chOf b p), 0) else ([], 220)
def IsMatch (r : List Ch × Int) (μ : Mem) (v : Value) : Prop := ∃ ad c, v = .tuple #[.slice ad r.1.length c, .int .i64 r.2] ∧ Sl μ ad c r.1

theorem validP_good {p : List Pt} (h : validP p = true) : Good p := by
  simp only [validP, Bool.and_eq_true, decide_eq_true_eq, List.all_eq_true] at h
  obtain ⟨⟨h1, h2⟩, h3⟩ := h
  refine ⟨fun q hq => ?_, by omega, by omega⟩
  have := h3 q hq
  simp only [inP, Bool.and_eq_true, decide_eq_true_eq] at this
  exact ⟨by omega, by omega, by omega, by omega⟩
theorem better_le (l : List Int) (i : Nat) : better l i ≤ l.length := by
  unfold better
  exact Nat.le_trans (List.length_filter_le _ _) (by simp)

set_option maxRecDepth 100000 in
theorem refmatch_c (b : List Tpl) (p : List Pt) (ad adp : Option Addr) (c cp : Nat) (μ : Mem) (w : World) (hμ : Imm μ w) (hb : Sl μ ad c b) (hp : Sl μ adp cp p) (gb : ∀ t ∈ b, Good t.P) :
    Calls Try.prog 14 #[boardV ad b.length c, .slice adp p.length cp] w (RetV w μ (IsMatch (refMatch b p))) := by
  have hS := St.start w μ hμ
  refine calls_start 63 [boardV ad b.length c, .slice adp p.length cp] Try.func14 rfl Try.ntmps14 rfl rfl ?_
  refine CW.seq fun K0 hK0 => ?_
  refine CW.region [0, 1, 2] rfl ?_
  refine LW.hv rfl rfl rfl rfl (Hv.box hS rfl) fun v w2 ⟨b2, hv, hb2, hS⟩ => ?_
  subst hv
  refine LW.ex rfl rfl rfl rfl (Ex.assign rfl) hS.rd ?_
  refine LW.ex rfl rfl rfl rfl (Ex.assign rfl) hS.rd ?_
  refine LW.nil fun aa ha => hK0 _ _ _ ?_ aa ha
  refine CW.seq fun K1 hK1 => ?_
  refine CW.region [0, 1, 2] rfl ?_
  refine LW.ex rfl rfl rfl rfl (Ex.move rfl) hS.rd ?_
  refine LW.hv rfl rfl rfl rfl (Hv.callS hS rfl rfl rfl cb18 (refvalid_c p _ _ μ _ hS.imm hp)) fun v w12 ⟨hv, hS⟩ => ?_
  subst hv
  refine LW.ex rfl rfl rfl rfl (Ex.assign rfl) hS.rd ?_
  refine LW.nil fun aa ha => hK1 _ _ _ ?_ aa ha
  by_cases hv : validP p = true
  rotate_left
  · have hv' : validP p = false := by simpa using hv
    have hno : ¬ (validP p = true ∧ 0 < b.length) := fun h => hv h.1
    rw [hv']
    refine CW.seq fun K2o hK2o => ?_
    refine CW.seq fun K2 hK2 => ?_
    refine CW.region [0, 1, 2, 3, 4, 5, 6, 7] rfl ?_
    refine LW.ex rfl rfl rfl rfl (Ex.move rfl) hS.rd ?_
    refine LW.ex rfl rfl rfl rfl (Ex.not rfl rfl) hS.rd ?_
    refine LW.ex rfl rfl rfl rfl (Ex.move rfl) hS.rd ?_
    refine LW.skip rfl rfl rfl rfl ?_
    refine LW.skip rfl rfl rfl rfl ?_
    refine LW.skip rfl rfl rfl rfl ?_
    refine LW.skip rfl rfl rfl rfl ?_
    refine LW.ex rfl rfl rfl rfl (by first | exact Ex.pick_yes rfl rfl | exact Ex.pick_no rfl rfl) hS.rd ?_
    refine LW.nil fun aa ha => hK2 _ _ _ ?_ aa ha
    refine CW.yes rfl ?_
    refine CW.seq fun K3 hK3 => ?_
    refine CW.region [0, 1] rfl ?_
    refine LW.ex rfl rfl rfl rfl (Ex.assign rfl) hS.rd ?_
    refine LW.ex rfl rfl rfl rfl (Ex.assign rfl) hS.rd ?_
    refine LW.nil fun aa ha => hK3 _ _ _ ?_ aa ha
    refine CW.ret fun aa ha => ?_
    refine ret_two ha Try.results14 rfl rfl ⟨_, μ, rfl, hS.below, Mem.ext.refl _ _, hS.imm, none, 0, ?_, ?_⟩
    · rw [show refMatch b p = ([], 220) from if_neg hno]; rfl
    · rw [show refMatch b p = ([], 220) from if_neg hno]; exact Sl.nil _ _ _ (by simp [maxLen])
  have gp := validP_good hv
  rw [hv]
  by_cases hn : b.length = 0
  · have hno : ¬ (validP p = true ∧ 0 < b.length) := fun h => by omega
    refine CW.seq fun K2o hK2o => ?_
    refine CW.seq fun K2 hK2 => ?_
    refine CW.region [0, 1, 2, 3, 4, 5, 6, 7] rfl ?_
    refine LW.ex rfl rfl rfl rfl (Ex.move rfl) hS.rd ?_
    refine LW.ex rfl rfl rfl rfl (Ex.not rfl rfl) hS.rd ?_
    refine LW.ex rfl rfl rfl rfl (Ex.move rfl) hS.rd ?_
    refine LW.ex rfl rfl rfl rfl (Ex.fieldA Try.underlying32 rfl ti29 rfl) hS.rd ?_
    refine LW.ex rfl rfl rfl rfl (Ex.load1 ti29 rfl rfl (by first | exact Rd.obj (k := 0) rfl rfl | exact Rd.obj (k := 1) rfl rfl | exact Rd.obj (k := 2) rfl rfl | exact Rd.obj (k := 3) rfl rfl | exact Rd.obj (k := 4) rfl rfl | exact Rd.imm (by assumption) | exact Rd.sl (k := 0) rfl (by assumption) | exact Rd.sl (k := 1) rfl (by assumption) | exact Rd.sl (k := 2) rfl (by assumption) | exact Rd.sl (k := 3) rfl (by assumption))) hS.rd ?_
    refine LW.ex rfl rfl rfl rfl (Ex.lenSl rfl Try.underlying29 rfl) hS.rd ?_
    refine LW.ex rfl rfl rfl rfl (Ex.eql rfl rfl (by first | exact decide_eq_true (by omega) | exact decide_eq_false (by omega) | rfl)) hS.rd ?_
    refine LW.ex rfl rfl rfl rfl (by first | exact Ex.pick_yes rfl rfl | exact Ex.pick_no rfl rfl) hS.rd ?_
    refine LW.nil fun aa ha => hK2 _ _ _ ?_ aa ha
    refine CW.yes rfl ?_
    refine CW.seq fun K3 hK3 => ?_
    refine CW.region [0, 1] rfl ?_
    refine LW.ex rfl rfl rfl rfl (Ex.assign rfl) hS.rd ?_
    refine LW.ex rfl rfl rfl rfl (Ex.assign rfl) hS.rd ?_
    refine LW.nil fun aa ha => hK3 _ _ _ ?_ aa ha
    refine CW.ret fun aa ha => ?_
    refine ret_two ha Try.results14 rfl rfl ⟨_, μ, rfl, hS.below, Mem.ext.refl _ _, hS.imm, none, 0, ?_, ?_⟩
    · rw [show refMatch b p = ([], 220) from if_neg hno]; rfl
    · rw [show refMatch b p = ([], 220) from if_neg hno]; exact Sl.nil _ _ _ (by simp [maxLen])
  refine CW.seq fun K2o hK2o => ?_
  refine CW.seq fun K2 hK2 => ?_
  refine CW.region [0, 1, 2, 3, 4, 5, 6, 7] rfl ?_
  refine LW.ex rfl rfl rfl rfl (Ex.move rfl) hS.rd ?_
  refine LW.ex rfl rfl rfl rfl (Ex.not rfl rfl) hS.rd ?_
  refine LW.ex rfl rfl rfl rfl (Ex.move rfl) hS.rd ?_
  refine LW.ex rfl rfl rfl rfl (Ex.fieldA Try.underlying32 rfl ti29 rfl) hS.rd ?_
  refine LW.ex rfl rfl rfl rfl (Ex.load1 ti29 rfl rfl (by first | exact Rd.obj (k := 0) rfl rfl | exact Rd.obj (k := 1) rfl rfl | exact Rd.obj (k := 2) rfl rfl | exact Rd.obj (k := 3) rfl rfl | exact Rd.obj (k := 4) rfl rfl | exact Rd.imm (by assumption) | exact Rd.sl (k := 0) rfl (by assumption) | exact Rd.sl (k := 1) rfl (by assumption) | exact Rd.sl (k := 2) rfl (by assumption) | exact Rd.sl (k := 3) rfl (by assumption))) hS.rd ?_
  refine LW.ex rfl rfl rfl rfl (Ex.lenSl rfl Try.underlying29 rfl) hS.rd ?_
  refine LW.ex rfl rfl rfl rfl (Ex.eql rfl rfl (by first | exact decide_eq_true (by omega) | exact decide_eq_false (by omega) | rfl)) hS.rd ?_
  refine LW.ex rfl rfl rfl rfl (by first | exact Ex.pick_yes rfl rfl | exact Ex.pick_no rfl rfl) hS.rd ?_
  refine LW.nil fun aa ha => hK2 _ _ _ ?_ aa ha
  refine CW.no rfl (CW.skip fun aa ha => hK2o _ _ _ ?_ aa ha)
  refine CW.seq fun K4 hK4 => ?_
  refine CW.region [0, 1] rfl ?_
  refine LW.hv rfl rfl rfl rfl (Hv.buildSl hS Try.underlying71 ti3 rfl rfl rfl rfl rfl rfl) fun v w21 ⟨b21, hv, hb21, hS⟩ => ?_
  subst hv
  refine LW.ex rfl rfl rfl rfl (Ex.assign rfl) hS.rd ?_
  refine LW.nil fun aa ha => hK4 _ _ _ ?_ aa ha
  refine CW.seq fun K5o hK5o => ?_
  refine CW.seq fun K5 hK5 => ?_
  refine CW.region [0] rfl ?_
  refine LW.ex rfl rfl rfl rfl (Ex.assign rfl) hS.rd ?_
  refine LW.nil fun aa ha => hK5 _ _ _ ?_ aa ha
  have hS : St w _ μ [Own.sl (some ⟨b21, 0, none⟩) 0 0 3 1 [], Own.obj b2 [.slice none 0 0, .slice ad b.length c, .slice none 0 0] 32] := hS.row_sl (k := 0) rfl 0 1 rfl (by simp [maxLen])
  refine CW.block ?_
  refine CW.loop (fun q m w1 => ∃ (i : Nat) (xs : List Int) (ado : Option Addr) (co : Nat), i ≤ 26 ∧ i = xs.length ∧ q = 26 - i ∧
      m = [(1, .slice adp p.length cp), (2, .pointer (some ⟨b2, 0, none⟩)), (7, .slice ado i co), (8, .int .i64 i)] ∧
      St w w1 μ [Own.sl ado i co 3 1 (xs.map fun x => Value.int .i64 x), Own.obj b2 [.slice none 0 0, .slice ad b.length c, .slice none 0 0] 32] ∧
      xs = (List.range i).map fun i => costOf b p (C97 i)) 26
    ⟨0, [], _, _, by omega, rfl, by omega, rfl, hS, rfl⟩ ⟨rfl, rfl, rfl, rfl, trivial⟩ ?_
  clear hS
  rintro q m w1 ⟨i, xs, ado, co, hi, hix, hq, rfl, hS, hxs⟩
  by_cases h1 : i < 26
  · skip
    refine CW.seq fun K6o hK6o => ?_
    refine CW.seq fun K6 hK6 => ?_
    refine CW.region [0, 1] rfl ?_
    refine LW.ex rfl rfl rfl rfl (Ex.move rfl) hS.rd ?_
    refine LW.ex rfl rfl rfl rfl (Ex.lss rfl rfl (by first | exact decide_eq_true (by omega) | exact decide_eq_false (by omega) | rfl)) hS.rd ?_
    refine LW.nil fun aa ha => hK6 _ _ _ ?_ aa ha
    refine CW.yes rfl ?_
    refine CW.skip fun aa ha => hK6o _ _ _ ?_ aa ha
    refine CW.seq fun Kb hKb => ?_
    refine CW.block ?_
    have hkey := C97_nat h1
    have hadd : IntKind.i64.wrap (97 + (i : Int)) = ((C97 i).toNat : Int) := by rw [w64 (by omega) (by omega), hkey]; omega
    refine CW.region [0, 1, 2, 3, 4, 5, 6, 7, 8, 9] rfl ?_
    refine LW.ex rfl rfl rfl rfl (Ex.move rfl) hS.rd ?_
    refine LW.ex rfl rfl rfl rfl (Ex.load3c ti32 rfl rfl (by first | exact Rd.obj (k := 0) rfl rfl | exact Rd.obj (k := 1) rfl rfl | exact Rd.obj (k := 2) rfl rfl | exact Rd.obj (k := 3) rfl rfl | exact Rd.obj (k := 4) rfl rfl | exact Rd.imm (by assumption) | exact Rd.sl (k := 0) rfl (by assumption) | exact Rd.sl (k := 1) rfl (by assumption) | exact Rd.sl (k := 2) rfl (by assumption) | exact Rd.sl (k := 3) rfl (by assumption)) (by first | exact Rd.obj (k := 0) rfl rfl | exact Rd.obj (k := 1) rfl rfl | exact Rd.obj (k := 2) rfl rfl | exact Rd.obj (k := 3) rfl rfl | exact Rd.obj (k := 4) rfl rfl | exact Rd.imm (by assumption) | exact Rd.sl (k := 0) rfl (by assumption) | exact Rd.sl (k := 1) rfl (by assumption) | exact Rd.sl (k := 2) rfl (by assumption) | exact Rd.sl (k := 3) rfl (by assumption)) (by first | exact Rd.obj (k := 0) rfl rfl | exact Rd.obj (k := 1) rfl rfl | exact Rd.obj (k := 2) rfl rfl | exact Rd.obj (k := 3) rfl rfl | exact Rd.obj (k := 4) rfl rfl | exact Rd.imm (by assumption) | exact Rd.sl (k := 0) rfl (by assumption) | exact Rd.sl (k := 1) rfl (by assumption) | exact Rd.sl (k := 2) rfl (by assumption) | exact Rd.sl (k := 3) rfl (by assumption))) hS.rd ?_
    refine LW.ex rfl rfl rfl rfl (Ex.move rfl) hS.rd ?_
    refine LW.ex rfl rfl rfl rfl (Ex.move rfl) hS.rd ?_
    refine LW.ex rfl rfl rfl rfl (Ex.add rfl rfl hadd) hS.rd ?_
    refine LW.ex rfl rfl rfl rfl (Ex.conv Try.underlying3 Try.underlying5 rfl (by first | exact w64 (by omega) (by omega) | exact wu8 (by omega) (by omega))) hS.rd ?_
    refine LW.hv rfl rfl rfl rfl (Hv.callS hS rfl rfl rfl cb22 (cost_c b _ _ p _ _ (C97 i) μ _ hS.imm hb hp gp gb)) fun v w32 ⟨hv, hS⟩ => ?_
    subst hv
    refine LW.hv rfl rfl rfl rfl (Hv.buildSl hS Try.underlying71 ti3 rfl rfl rfl rfl rfl rfl) fun v w33 ⟨b33, hv, hb33, hS⟩ => ?_
    subst hv
    refine LW.hv rfl rfl rfl rfl (Hv.append (k := 1) rfl Try.underlying71 ti3 rfl hS rfl rfl rfl rfl (Rd.objAll (k := 0) rfl hS.rd) (by simp [Value.oneCell']) (by unfold maxLen; omega) (by omega)) fun v w34 ⟨ad34, c34, hv, hS⟩ => ?_
    subst hv
    dsimp only [List.set] at hS
    have hS := hS.drop 0 rfl
    dsimp only [List.eraseIdx] at hS
    refine LW.ex rfl rfl rfl rfl (Ex.assign rfl) hS.rd ?_
    refine LW.nil fun aa ha => hKb _ _ _ ?_ aa ha
    refine CW.region [0, 1, 2] rfl ?_
    refine LW.ex rfl rfl rfl rfl (Ex.move rfl) hS.rd ?_
    refine LW.ex rfl rfl rfl rfl (Ex.add rfl rfl (by first | exact inc64 (by omega) | exact addN (by omega) | exact w64 (by omega) (by omega))) hS.rd ?_
    refine LW.ex rfl rfl rfl rfl (Ex.assign rfl) hS.rd ?_
    refine LW.nil fun aa ha => ?_
    refine ⟨26 - (i + 1), _, by omega, ⟨i + 1, xs ++ [costOf b p (C97 i)], _, _, by omega, by simp [hix], rfl, rfl, by rw [List.map_append]; exact hS, ?_⟩, ha.sub ⟨rfl, rfl, rfl, rfl, trivial⟩⟩
    rw [List.range_succ, List.map_append, ← hxs]; rfl
  · skip
    refine CW.seq fun K6o hK6o => ?_
    refine CW.seq fun K6 hK6 => ?_
    refine CW.region [0, 1] rfl ?_
    refine LW.ex rfl rfl rfl rfl (Ex.move rfl) hS.rd ?_
    refine LW.ex rfl rfl rfl rfl (Ex.lss rfl rfl (by first | exact decide_eq_true (by omega) | exact decide_eq_false (by omega) | rfl)) hS.rd ?_
    refine LW.nil fun aa ha => hK6 _ _ _ ?_ aa ha
    refine CW.no rfl ?_
    refine CW.exit fun aa ha => hK5o _ _ _ ?_ aa ha
    replace hxs : xs = costsOf b p := by rw [hxs, show i = 26 by omega]; rfl
    subst hix
    subst hxs
    have hCl : (costsOf b p).length = 26 := by simp [costsOf]
    refine CW.seq fun K9 hK9 => ?_
    refine CW.region [0, 1] rfl ?_
    refine LW.hv rfl rfl rfl rfl (Hv.buildSl hS Try.underlying35 ti55 rfl rfl rfl rfl rfl rfl) fun v w35 ⟨b35, hv, hb35, hS⟩ => ?_
    subst hv
    refine LW.ex rfl rfl rfl rfl (Ex.assign rfl) hS.rd ?_
    refine LW.nil fun aa ha => hK9 _ _ _ ?_ aa ha
    have hS := hS.row_sl (k := 0) rfl 0 2 rfl (by simp [maxLen])
    dsimp only [List.set] at hS
    refine CW.seq fun K10o hK10o => ?_
    refine CW.seq fun K10 hK10 => ?_
    refine CW.region [0] rfl ?_
    refine LW.ex rfl rfl rfl rfl (Ex.assign rfl) hS.rd ?_
    refine LW.nil fun aa ha => hK10 _ _ _ ?_ aa ha
    refine CW.block ?_
    refine CW.loop (fun q m w1 => ∃ (i n : Nat) (xs : List Ch) (ado2 : Option Addr) (co2 : Nat) (us : List Value), i ≤ 26 ∧ n = xs.length ∧ n ≤ i ∧ q = 26 - i ∧
        m = [(7, .slice ado (costsOf b p).length co), (9, .slice ado2 n co2), (10, .int .i64 i)] ∧
        St w w1 μ [Own.sl ado2 n co2 55 2 us, Own.sl ado (costsOf b p).length co 3 1 ((costsOf b p).map fun x => Value.int .i64 x), Own.obj b2 [.slice none 0 0, .slice ad b.length c, .slice none 0 0] 32] ∧
        RepL μ us xs ∧ xs = ((List.range i).filter (picked b p)).map (chOf b p)) 26
      ⟨0, 0, [], _, _, [], by omega, rfl, by omega, by omega, rfl, hS, RepL.nil μ, rfl⟩ ⟨rfl, rfl, rfl, trivial⟩ ?_
    clear hS
    rintro q m w1 ⟨i, n, xs, ado2, co2, us, hi, hn, hni, hq, rfl, hS, hus, hxs⟩
    by_cases h1 : i < 26
    · skip
      refine CW.seq fun K11o hK11o => ?_
      refine CW.seq fun K11 hK11 => ?_
      refine CW.region [0, 1] rfl ?_
      refine LW.ex rfl rfl rfl rfl (Ex.move rfl) hS.rd ?_
      refine LW.ex rfl rfl rfl rfl (Ex.lss rfl rfl (by first | exact decide_eq_true (by omega) | exact decide_eq_false (by omega) | rfl)) hS.rd ?_
      refine LW.nil fun aa ha => hK11 _ _ _ ?_ aa ha
      refine CW.yes rfl ?_
      refine CW.skip fun aa ha => hK11o _ _ _ ?_ aa ha
      refine CW.seq fun Kb hKb => ?_
      refine CW.block ?_
      have hCi : (costsOf b p)[i]! = (costsOf b p)[i] := getElem!_pos _ _ (by omega)
      have hload : ((costsOf b p).map fun x => Value.int .i64 x)[0 + i * 1]? = some (.int .i64 (costsOf b p)[i]!) := by
        rw [show 0 + i * 1 = i by omega, List.getElem?_map, List.getElem?_eq_getElem (by omega), hCi]; rfl
      obtain ⟨gC, rfl⟩ := hS.sl_some 1 rfl (by omega)
      have hbl := better_le (costsOf b p) i
      have hkey := C97_nat h1
      have hadd : IntKind.i64.wrap (97 + (i : Int)) = ((C97 i).toNat : Int) := by rw [w64 (by omega) (by omega), hkey]; omega
      have hlast : xs = ((List.range i).filter (picked b p)).map (chOf b p) := hxs
      have hno : picked b p i = false → xs = ((List.range (i + 1)).filter (picked b p)).map (chOf b p) := fun h => by rw [List.range_succ, List.filter_append, List.map_append, ← hxs]; simp [h]
      have hyes : picked b p i = true → xs ++ [chOf b p i] = ((List.range (i + 1)).filter (picked b p)).map (chOf b p) := fun h => by rw [List.range_succ, List.filter_append, List.map_append, ← hxs]; simp [h]
      by_cases c1 : 0 ≤ (costsOf b p)[i]!
      · by_cases c2 : better (costsOf b p) i < 8
        · skip
          refine CW.seq fun K13 hK13 => ?_
          refine CW.region [0, 1, 2, 3, 4, 5, 6, 7, 8, 9, 10] rfl ?_
          refine LW.ex rfl rfl rfl rfl (Ex.move rfl) hS.rd ?_
          refine LW.ex rfl rfl rfl rfl (Ex.move rfl) hS.rd ?_
          refine LW.ex rfl rfl rfl rfl (Ex.indexSl Try.underlying71 ti3 rfl rfl rfl (by omega)) hS.rd ?_
          refine LW.ex rfl rfl rfl rfl (Ex.load1 ti3 rfl rfl (by first | exact Rd.obj (k := 0) rfl rfl | exact Rd.obj (k := 1) rfl rfl | exact Rd.obj (k := 2) rfl rfl | exact Rd.obj (k := 3) rfl rfl | exact Rd.obj (k := 4) rfl rfl | exact Rd.imm (by assumption) | exact Rd.sl (k := 0) rfl (by assumption) | exact Rd.sl (k := 1) rfl (by assumption) | exact Rd.sl (k := 2) rfl (by assumption) | exact Rd.sl (k := 3) rfl (by assumption))) hS.rd ?_
          refine LW.ex rfl rfl rfl rfl (Ex.geq rfl rfl (by first | exact decide_eq_true (by omega) | exact decide_eq_false (by omega) | rfl)) hS.rd ?_
          refine LW.ex rfl rfl rfl rfl (Ex.move rfl) hS.rd ?_
          refine LW.ex rfl rfl rfl rfl (Ex.move rfl) hS.rd ?_
          refine LW.ex rfl rfl rfl rfl (Ex.move rfl) hS.rd ?_
          refine LW.hv rfl rfl rfl rfl (Hv.callS hS rfl rfl rfl cb30 (better_c (costsOf b p) i _ co (memOf _) _ (imm_memOf _) (hS.lend_sl 1 rfl (RepL.ints _ _) rfl) (by omega) (by omega))) fun v w48 ⟨hv, hS⟩ => ?_
          subst hv
          refine LW.ex rfl rfl rfl rfl (Ex.lss rfl rfl (by first | exact decide_eq_true (by omega) | exact decide_eq_false (by omega) | rfl)) hS.rd ?_
          refine LW.ex rfl rfl rfl rfl (by first | exact Ex.pick_yes rfl rfl | exact Ex.pick_no rfl rfl) hS.rd ?_
          refine LW.nil fun aa ha => hK13 _ _ _ ?_ aa ha
          refine CW.yes rfl ?_
          refine CW.region [0, 1, 2, 3, 4, 5, 6, 7, 8, 9, 10, 11] rfl ?_
          refine LW.ex rfl rfl rfl rfl (Ex.move rfl) hS.rd ?_
          refine LW.ex rfl rfl rfl rfl (Ex.move rfl) hS.rd ?_
          refine LW.ex rfl rfl rfl rfl (Ex.add rfl rfl hadd) hS.rd ?_
          refine LW.ex rfl rfl rfl rfl (Ex.conv Try.underlying3 Try.underlying5 rfl (by first | exact w64 (by omega) (by omega) | exact wu8 (by omega) (by omega))) hS.rd ?_
          refine LW.ex rfl rfl rfl rfl (Ex.move rfl) hS.rd ?_
          refine LW.ex rfl rfl rfl rfl (Ex.move rfl) hS.rd ?_
          refine LW.ex rfl rfl rfl rfl (Ex.indexSl Try.underlying71 ti3 rfl rfl rfl (by omega)) hS.rd ?_
          refine LW.ex rfl rfl rfl rfl (Ex.load1 ti3 rfl rfl (by first | exact Rd.obj (k := 0) rfl rfl | exact Rd.obj (k := 1) rfl rfl | exact Rd.obj (k := 2) rfl rfl | exact Rd.obj (k := 3) rfl rfl | exact Rd.obj (k := 4) rfl rfl | exact Rd.imm (by assumption) | exact Rd.sl (k := 0) rfl (by assumption) | exact Rd.sl (k := 1) rfl (by assumption) | exact Rd.sl (k := 2) rfl (by assumption) | exact Rd.sl (k := 3) rfl (by assumption))) hS.rd ?_
          refine LW.ex rfl rfl rfl rfl (Ex.buildS st55 rfl rfl rfl) hS.rd ?_
          refine LW.hv rfl rfl rfl rfl (Hv.buildSl hS Try.underlying35 ti55 rfl rfl rfl rfl rfl rfl) fun v w60 ⟨b60, hv, hb60, hS⟩ => ?_
          subst hv
          refine LW.hv rfl rfl rfl rfl (Hv.append (k := 1) rfl Try.underlying35 ti55 rfl hS rfl rfl rfl rfl (Rd.objAll (k := 0) rfl hS.rd) (by simp [Value.oneCell']) (by unfold maxLen; omega) (by omega)) fun v w61 ⟨ad61, c61, hv, hS⟩ => ?_
          subst hv
          dsimp only [List.set] at hS
          have hS := hS.drop 0 rfl
          dsimp only [List.eraseIdx] at hS
          refine LW.ex rfl rfl rfl rfl (Ex.assign rfl) hS.rd ?_
          refine LW.nil fun aa ha => hKb _ _ _ ?_ aa ha
          refine CW.region [0, 1, 2] rfl ?_
          refine LW.ex rfl rfl rfl rfl (Ex.move rfl) hS.rd ?_
          refine LW.ex rfl rfl rfl rfl (Ex.add rfl rfl (by first | exact inc64 (by omega) | exact addN (by omega) | exact w64 (by omega) (by omega))) hS.rd ?_
          refine LW.ex rfl rfl rfl rfl (Ex.assign rfl) hS.rd ?_
          refine LW.nil fun aa ha => ?_
          refine ⟨26 - (i + 1), _, by omega, ⟨i + 1, n + 1, xs ++ [chOf b p i], _, _, _, by omega, by simp [hn], by omega, rfl, rfl, hS, hus.snoc rfl ⟨rfl, rfl⟩, hyes ?_⟩, ha.sub ⟨rfl, rfl, rfl, trivial⟩⟩
          rw [picked, decide_eq_true c1, decide_eq_true c2]; rfl
        · skip
          refine CW.seq fun K13 hK13 => ?_
          refine CW.region [0, 1, 2, 3, 4, 5, 6, 7, 8, 9, 10] rfl ?_
          refine LW.ex rfl rfl rfl rfl (Ex.move rfl) hS.rd ?_
          refine LW.ex rfl rfl rfl rfl (Ex.move rfl) hS.rd ?_
          refine LW.ex rfl rfl rfl rfl (Ex.indexSl Try.underlying71 ti3 rfl rfl rfl (by omega)) hS.rd ?_
          refine LW.ex rfl rfl rfl rfl (Ex.load1 ti3 rfl rfl (by first | exact Rd.obj (k := 0) rfl rfl | exact Rd.obj (k := 1) rfl rfl | exact Rd.obj (k := 2) rfl rfl | exact Rd.obj (k := 3) rfl rfl | exact Rd.obj (k := 4) rfl rfl | exact Rd.imm (by assumption) | exact Rd.sl (k := 0) rfl (by assumption) | exact Rd.sl (k := 1) rfl (by assumption) | exact Rd.sl (k := 2) rfl (by assumption) | exact Rd.sl (k := 3) rfl (by assumption))) hS.rd ?_
          refine LW.ex rfl rfl rfl rfl (Ex.geq rfl rfl (by first | exact decide_eq_true (by omega) | exact decide_eq_false (by omega) | rfl)) hS.rd ?_
          refine LW.ex rfl rfl rfl rfl (Ex.move rfl) hS.rd ?_
          refine LW.ex rfl rfl rfl rfl (Ex.move rfl) hS.rd ?_
          refine LW.ex rfl rfl rfl rfl (Ex.move rfl) hS.rd ?_
          refine LW.hv rfl rfl rfl rfl (Hv.callS hS rfl rfl rfl cb30 (better_c (costsOf b p) i _ co (memOf _) _ (imm_memOf _) (hS.lend_sl 1 rfl (RepL.ints _ _) rfl) (by omega) (by omega))) fun v w48 ⟨hv, hS⟩ => ?_
          subst hv
          refine LW.ex rfl rfl rfl rfl (Ex.lss rfl rfl (by first | exact decide_eq_true (by omega) | exact decide_eq_false (by omega) | rfl)) hS.rd ?_
          refine LW.ex rfl rfl rfl rfl (by first | exact Ex.pick_yes rfl rfl | exact Ex.pick_no rfl rfl) hS.rd ?_
          refine LW.nil fun aa ha => hK13 _ _ _ ?_ aa ha
          refine CW.no rfl (CW.skip fun aa ha => hKb _ _ _ ?_ aa ha)
          refine CW.region [0, 1, 2] rfl ?_
          refine LW.ex rfl rfl rfl rfl (Ex.move rfl) hS.rd ?_
          refine LW.ex rfl rfl rfl rfl (Ex.add rfl rfl (by first | exact inc64 (by omega) | exact addN (by omega) | exact w64 (by omega) (by omega))) hS.rd ?_
          refine LW.ex rfl rfl rfl rfl (Ex.assign rfl) hS.rd ?_
          refine LW.nil fun aa ha => ?_
          refine ⟨26 - (i + 1), _, by omega, ⟨i + 1, n, xs, _, _, us, by omega, hn, by omega, rfl, rfl, hS, hus, hno ?_⟩, ha.sub ⟨rfl, rfl, rfl, trivial⟩⟩
          rw [picked, decide_eq_false c2, Bool.and_false]
      · skip
        refine CW.seq fun K13 hK13 => ?_
        refine CW.region [0, 1, 2, 3, 4, 5, 6, 7, 8, 9, 10] rfl ?_
        refine LW.ex rfl rfl rfl rfl (Ex.move rfl) hS.rd ?_
        refine LW.ex rfl rfl rfl rfl (Ex.move rfl) hS.rd ?_
        refine LW.ex rfl rfl rfl rfl (Ex.indexSl Try.underlying71 ti3 rfl rfl rfl (by omega)) hS.rd ?_
        refine LW.ex rfl rfl rfl rfl (Ex.load1 ti3 rfl rfl (by first | exact Rd.obj (k := 0) rfl rfl | exact Rd.obj (k := 1) rfl rfl | exact Rd.obj (k := 2) rfl rfl | exact Rd.obj (k := 3) rfl rfl | exact Rd.obj (k := 4) rfl rfl | exact Rd.imm (by assumption) | exact Rd.sl (k := 0) rfl (by assumption) | exact Rd.sl (k := 1) rfl (by assumption) | exact Rd.sl (k := 2) rfl (by assumption) | exact Rd.sl (k := 3) rfl (by assumption))) hS.rd ?_
        refine LW.ex rfl rfl rfl rfl (Ex.geq rfl rfl (by first | exact decide_eq_true (by omega) | exact decide_eq_false (by omega) | rfl)) hS.rd ?_
        refine LW.ex rfl rfl rfl rfl (Ex.move rfl) hS.rd ?_
        refine LW.skip rfl rfl rfl rfl ?_
        refine LW.skip rfl rfl rfl rfl ?_
        refine LW.skip rfl rfl rfl rfl ?_
        refine LW.skip rfl rfl rfl rfl ?_
        refine LW.ex rfl rfl rfl rfl (by first | exact Ex.pick_yes rfl rfl | exact Ex.pick_no rfl rfl) hS.rd ?_
        refine LW.nil fun aa ha => hK13 _ _ _ ?_ aa ha
        refine CW.no rfl (CW.skip fun aa ha => hKb _ _ _ ?_ aa ha)
        refine CW.region [0, 1, 2] rfl ?_
        refine LW.ex rfl rfl rfl rfl (Ex.move rfl) hS.rd ?_
        refine LW.ex rfl rfl rfl rfl (Ex.add rfl rfl (by first | exact inc64 (by omega) | exact addN (by omega) | exact w64 (by omega) (by omega))) hS.rd ?_
        refine LW.ex rfl rfl rfl rfl (Ex.assign rfl) hS.rd ?_
        refine LW.nil fun aa ha => ?_
        refine ⟨26 - (i + 1), _, by omega, ⟨i + 1, n, xs, _, _, us, by omega, hn, by omega, rfl, rfl, hS, hus, hno ?_⟩, ha.sub ⟨rfl, rfl, rfl, trivial⟩⟩
        rw [picked, decide_eq_false c1, Bool.false_and]
    · skip
      refine CW.seq fun K11o hK11o => ?_
      refine CW.seq fun K11 hK11 => ?_
      refine CW.region [0, 1] rfl ?_
      refine LW.ex rfl rfl rfl rfl (Ex.move rfl) hS.rd ?_
      refine LW.ex rfl rfl rfl rfl (Ex.lss rfl rfl (by first | exact decide_eq_true (by omega) | exact decide_eq_false (by omega) | rfl)) hS.rd ?_
      refine LW.nil fun aa ha => hK11 _ _ _ ?_ aa ha
      refine CW.no rfl ?_
      refine CW.exit fun aa ha => hK10o _ _ _ ?_ aa ha
      refine CW.seq fun K15 hK15 => ?_
      refine CW.region [0, 1, 2] rfl ?_
      refine LW.ex rfl rfl rfl rfl (Ex.move rfl) hS.rd ?_
      refine LW.ex rfl rfl rfl rfl (Ex.assign rfl) hS.rd ?_
      refine LW.ex rfl rfl rfl rfl (Ex.assign rfl) hS.rd ?_
      refine LW.nil fun aa ha => hK15 _ _ _ ?_ aa ha
      refine CW.ret fun aa ha => ?_
      obtain ⟨bs, μ', hm, hS, hφ⟩ := hS.shut 0 rfl
      have he : refMatch b p = (xs, 0) := by rw [refMatch, if_pos ⟨hv, by omega⟩, hxs, show i = 26 by omega]
      refine ret_two ha Try.results14 rfl rfl ⟨_, μ', rfl, hS.below, hm, hS.imm, ado2, co2, ?_, ?_⟩
      · rw [he, hn]
      · rw [he]; exact Sl.of_own hφ (hus.mono hm) hn
end Go.Proofs.Ythbglfjajifkoaa
