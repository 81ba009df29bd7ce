/-
  Strokes: the walk of changed.
-/
import Derived.Test.YthbglfjajifkoaaStW
namespace Go.Proofs.Ythbglfjajifkoaa
open Go.RowKit Sy Go.Sort

set_option maxRecDepth 100000 in
theorem changed_c (l : List Pt) (how : UInt8) (cc : Pt) (ad : Option Addr) (c : Nat) (μ : Mem) (w : World) (hμ : Imm μ w) (hl : Sl μ ad c l) (hbd : ∀ q ∈ l, Bd 2000 q) (hcc : Bd 2000 cc) (hll : l.length ≤ 1000) :
    Calls Try.prog 21 #[.slice ad l.length c, .int .u8 how.toNat, ptV cc] w (RetV w μ (IsSl (chg (how.toNat % 4) cc l))) := by
  have hS := St.start w μ hμ
  have hh := how.toNat_lt
  have hm4 := Nat.mod_lt how.toNat (show 0 < 4 by omega)
  have hrem : ((how.toNat : Int).tmod 4) = ((how.toNat % 4 : Nat) : Int) := by rw [Int.tmod_eq_emod_of_nonneg (by omega)]; rfl
  generalize how.toNat % 4 = hw at *
  obtain ⟨b1, b2, b3, b4⟩ := hcc
  refine calls_start 64 [.slice ad l.length c, .int .u8 how.toNat, ptV cc] Try.func21 rfl Try.ntmps21 rfl rfl ?_
  refine CW.seq fun K0 hK0 => ?_
  refine CW.region [0, 1] rfl ?_
  refine LW.hv rfl rfl rfl rfl (Hv.box hS rfl) fun v w5 ⟨b5, hv, hb5, hS⟩ => ?_
  subst hv
  refine LW.ex rfl rfl rfl rfl (Ex.assign rfl) hS.rd ?_
  refine LW.nil fun aa ha => hK0 _ _ _ ?_ aa ha
  refine CW.seq fun K1 hK1 => ?_
  refine CW.region [0, 1] rfl ?_
  refine LW.hv rfl rfl rfl rfl (Hv.buildSl hS Try.underlying26 ti46 rfl rfl rfl rfl rfl rfl) fun v w10 ⟨b10, hv, hb10, hS⟩ => ?_
  subst hv
  refine LW.ex rfl rfl rfl rfl (Ex.assign rfl) hS.rd ?_
  refine LW.nil fun aa ha => hK1 _ _ _ ?_ aa ha
  have hS := hS.row_sl (k := 0) rfl 0 2 rfl (by simp [maxLen])
  dsimp only [List.set] at hS
  refine CW.seq fun K2o hK2o => ?_
  refine CW.seq fun K2 hK2 => ?_
  refine CW.region [0] rfl ?_
  refine LW.ex rfl rfl rfl rfl (Ex.assign rfl) hS.rd ?_
  refine LW.nil fun aa ha => hK2 _ _ _ ?_ aa ha
  refine CW.block ?_
  refine CW.loop (fun q m w1 => ∃ (i : Nat) (ado : Option Addr) (co : Nat) (us : List Value), i ≤ l.length ∧ q = l.length - i ∧
      m = [(0, .slice ad l.length c), (1, .int .u8 how.toNat), (5, .pointer (some ⟨b5, 0, none⟩)), (7, .slice ado i co), (8, .int .i64 i)] ∧
      St w w1 μ [Own.sl ado i co 46 2 us, Own.obj b5 [.int .i64 cc.X, .int .i64 cc.Y] 46] ∧ RepL μ us ((List.range i).map (chgAt hw cc l))) l.length
    ⟨0, _, _, [], by omega, by omega, rfl, hS, RepL.nil μ⟩ ⟨rfl, rfl, rfl, rfl, rfl, trivial⟩ ?_
  clear hS
  rintro q m w1 ⟨i, ado, co, us, hi, hq, rfl, hS, hus⟩
  by_cases h1 : i < l.length
  · skip
    refine CW.seq fun K3o hK3o => ?_
    refine CW.seq fun K3 hK3 => ?_
    refine CW.region [0, 1, 2, 3] rfl ?_
    refine LW.ex rfl rfl rfl rfl (Ex.move rfl) hS.rd ?_
    refine LW.ex rfl rfl rfl rfl (Ex.move rfl) hS.rd ?_
    refine LW.ex rfl rfl rfl rfl (Ex.lenSl rfl Try.underlying26 rfl) hS.rd ?_
    refine LW.ex rfl rfl rfl rfl (Ex.lss rfl rfl (by first | exact decide_eq_true (by omega) | exact decide_eq_false (by omega) | rfl)) hS.rd ?_
    refine LW.nil fun aa ha => hK3 _ _ _ ?_ aa ha
    refine CW.yes rfl ?_
    refine CW.skip fun aa ha => hK3o _ _ _ ?_ aa ha
    have hi' : l.length - 1 - i < l.length := by omega
    have gi : l[i]! = l[i] := getElem!_pos l i h1
    have gj : l[l.length - 1 - i]! = l[l.length - 1 - i] := getElem!_pos l _ hi'
    obtain ⟨bl, ol, rfl, hx, hy⟩ := hl.at h1
    obtain ⟨_, _, e1, hjx, hjy⟩ := hl.at hi'
    cases e1
    obtain ⟨p1, p2, p3, p4⟩ := hbd _ (List.getElem_mem h1)
    refine CW.seq fun Kb hKb => ?_
    refine CW.block ?_
    refine CW.seq fun K5 hK5 => ?_
    refine CW.region [0, 1, 2, 3, 4, 5] rfl ?_
    refine LW.ex rfl rfl rfl rfl (Ex.move rfl) hS.rd ?_
    refine LW.ex rfl rfl rfl rfl (Ex.move rfl) hS.rd ?_
    refine LW.ex rfl rfl rfl rfl (Ex.indexSl Try.underlying26 ti46 rfl rfl rfl (by omega)) hS.rd ?_
    refine LW.ex rfl rfl rfl rfl (Ex.load2c ti46 rfl rfl (by first | exact Rd.obj (k := 0) rfl rfl | exact Rd.obj (k := 1) rfl rfl | exact Rd.obj (k := 2) rfl rfl | exact Rd.obj (k := 3) rfl rfl | exact Rd.obj (k := 4) rfl rfl | exact Rd.imm (by assumption) | exact Rd.sl (k := 0) rfl (by assumption) | exact Rd.sl (k := 1) rfl (by assumption) | exact Rd.sl (k := 2) rfl (by assumption) | exact Rd.sl (k := 3) rfl (by assumption)) (by first | exact Rd.obj (k := 0) rfl rfl | exact Rd.obj (k := 1) rfl rfl | exact Rd.obj (k := 2) rfl rfl | exact Rd.obj (k := 3) rfl rfl | exact Rd.obj (k := 4) rfl rfl | exact Rd.imm (by assumption) | exact Rd.sl (k := 0) rfl (by assumption) | exact Rd.sl (k := 1) rfl (by assumption) | exact Rd.sl (k := 2) rfl (by assumption) | exact Rd.sl (k := 3) rfl (by assumption))) hS.rd ?_
    refine LW.hv rfl rfl rfl rfl (Hv.alloc ti46 hS) fun v w9 ⟨b9, hv, hb9, hS⟩ => ?_
    subst hv
    refine LW.hu rfl rfl rfl (Hv.storeN (k := 0) ti46 hS rfl rfl rfl rfl (by simp [Value.oneCell'])) fun _ w_5 hS => ?_
    dsimp only [List.set] at hS
    refine LW.nil fun aa ha => hK5 _ _ _ ?_ aa ha
    refine CW.seq fun K6o hK6o => ?_
    refine CW.seq fun K6 hK6 => ?_
    refine CW.region [0, 1] rfl ?_
    refine LW.ex rfl rfl rfl rfl (Ex.move rfl) hS.rd ?_
    refine LW.ex rfl rfl rfl rfl (Ex.rem rfl rfl (by omega) hrem) hS.rd ?_
    refine LW.nil fun aa ha => hK6 _ _ _ ?_ aa ha
    have hrest : ∀ (x : Pt) (w2 : World), x = chgAt hw cc l i → St w w2 μ [Own.obj b9 [.int .i64 x.X, .int .i64 x.Y] 46, Own.sl ado i co 46 2 us, Own.obj b5 [.int .i64 cc.X, .int .i64 cc.Y] 46] →
        KW K6o 64 [(0, .slice (some ⟨bl, ol, none⟩) l.length c), (1, .int .u8 how.toNat), (5, .pointer (some ⟨b5, 0, none⟩)), (7, .slice ado i co), (8, .int .i64 i), (9, .pointer (some ⟨b9, 0, none⟩))] w2 := by
      intro x w2 hxe hS
      refine hK6o _ _ _ ?_
      refine CW.region [0, 1, 2, 3, 4] rfl ?_
      refine LW.ex rfl rfl rfl rfl (Ex.move rfl) hS.rd ?_
      refine LW.ex rfl rfl rfl rfl (Ex.load2c ti46 rfl rfl (by first | exact Rd.obj (k := 0) rfl rfl | exact Rd.obj (k := 1) rfl rfl | exact Rd.obj (k := 2) rfl rfl | exact Rd.obj (k := 3) rfl rfl | exact Rd.obj (k := 4) rfl rfl | exact Rd.imm (by assumption) | exact Rd.sl (k := 0) rfl (by assumption) | exact Rd.sl (k := 1) rfl (by assumption) | exact Rd.sl (k := 2) rfl (by assumption) | exact Rd.sl (k := 3) rfl (by assumption)) (by first | exact Rd.obj (k := 0) rfl rfl | exact Rd.obj (k := 1) rfl rfl | exact Rd.obj (k := 2) rfl rfl | exact Rd.obj (k := 3) rfl rfl | exact Rd.obj (k := 4) rfl rfl | exact Rd.imm (by assumption) | exact Rd.sl (k := 0) rfl (by assumption) | exact Rd.sl (k := 1) rfl (by assumption) | exact Rd.sl (k := 2) rfl (by assumption) | exact Rd.sl (k := 3) rfl (by assumption))) hS.rd ?_
      refine LW.hv rfl rfl rfl rfl (Hv.buildSl hS Try.underlying26 ti46 rfl rfl rfl rfl rfl rfl) fun v w61 ⟨b61, hv, hb61, hS⟩ => ?_
      subst hv
      refine LW.hv rfl rfl rfl rfl (Hv.append (k := 2) rfl Try.underlying26 ti46 rfl hS rfl rfl rfl rfl (Rd.objAll (k := 0) rfl hS.rd) (by simp [Value.oneCell']) (by unfold maxLen; omega) (by omega)) fun v w62 ⟨ad62, c62, hv, hS⟩ => ?_
      subst hv
      dsimp only [List.set] at hS
      have hS := hS.drop 0 rfl
      dsimp only [List.eraseIdx] at hS
      refine LW.ex rfl rfl rfl rfl (Ex.assign rfl) hS.rd ?_
      refine LW.nil fun aa ha => hKb _ _ _ ?_ aa ha
      refine CW.region [0, 1, 2] rfl ?_
      refine LW.ex rfl rfl rfl rfl (Ex.move rfl) hS.rd ?_
      refine LW.ex rfl rfl rfl rfl (Ex.add rfl rfl (by first | exact inc64 (by omega) | exact addN (by omega) | exact w64 (by omega) (by omega))) hS.rd ?_
      refine LW.ex rfl rfl rfl rfl (Ex.assign rfl) hS.rd ?_
      refine LW.nil fun aa ha => ?_
      have hS := hS.drop 0 rfl
      dsimp only [List.eraseIdx] at hS
      refine ⟨l.length - (i + 1), _, by omega, ⟨i + 1, _, _, _, by omega, rfl, rfl, hS, ?_⟩, ha.sub ⟨rfl, rfl, rfl, rfl, rfl, trivial⟩⟩
      rw [List.range_succ, List.map_append]
      refine hus.snoc rfl ?_
      rw [← hxe]; exact ⟨rfl, rfl⟩
    refine CW.block ?_
    refine CW.seq fun K8 hK8 => ?_
    refine CW.region [0, 1] rfl ?_
    refine LW.ex rfl rfl rfl rfl (Ex.eql rfl rfl (by first | exact decide_eq_true (by omega) | exact decide_eq_false (by omega) | rfl)) hS.rd ?_
    refine LW.ex rfl rfl rfl rfl (Ex.assign rfl) hS.rd ?_
    refine LW.nil fun aa ha => hK8 _ _ _ ?_ aa ha
    by_cases c0 : hw = 0
    · refine CW.yes (by rw [decide_eq_true (by omega)]; rfl) ?_
      refine CW.region [0, 1, 2, 3, 4, 5, 6, 7, 8, 9, 10, 11] rfl ?_
      refine LW.ex rfl rfl rfl rfl (Ex.fieldA Try.underlying46 rfl ti3 rfl) hS.rd ?_
      refine LW.ex rfl rfl rfl rfl (Ex.load1 ti3 rfl rfl (by first | exact Rd.obj (k := 0) rfl rfl | exact Rd.obj (k := 1) rfl rfl | exact Rd.obj (k := 2) rfl rfl | exact Rd.obj (k := 3) rfl rfl | exact Rd.obj (k := 4) rfl rfl | exact Rd.imm (by assumption) | exact Rd.sl (k := 0) rfl (by assumption) | exact Rd.sl (k := 1) rfl (by assumption) | exact Rd.sl (k := 2) rfl (by assumption) | exact Rd.sl (k := 3) rfl (by assumption))) hS.rd ?_
      refine LW.ex rfl rfl rfl rfl (Ex.fieldA Try.underlying46 rfl ti3 rfl) hS.rd ?_
      refine LW.ex rfl rfl rfl rfl (Ex.load1 ti3 rfl rfl (by first | exact Rd.obj (k := 0) rfl rfl | exact Rd.obj (k := 1) rfl rfl | exact Rd.obj (k := 2) rfl rfl | exact Rd.obj (k := 3) rfl rfl | exact Rd.obj (k := 4) rfl rfl | exact Rd.imm (by assumption) | exact Rd.sl (k := 0) rfl (by assumption) | exact Rd.sl (k := 1) rfl (by assumption) | exact Rd.sl (k := 2) rfl (by assumption) | exact Rd.sl (k := 3) rfl (by assumption))) hS.rd ?_
      refine LW.ex rfl rfl rfl rfl (Ex.add rfl rfl (by first | exact inc64 (by omega) | exact addN (by omega) | exact w64 (by omega) (by omega))) hS.rd ?_
      refine LW.ex rfl rfl rfl rfl (Ex.fieldA Try.underlying46 rfl ti3 rfl) hS.rd ?_
      refine LW.ex rfl rfl rfl rfl (Ex.load1 ti3 rfl rfl (by first | exact Rd.obj (k := 0) rfl rfl | exact Rd.obj (k := 1) rfl rfl | exact Rd.obj (k := 2) rfl rfl | exact Rd.obj (k := 3) rfl rfl | exact Rd.obj (k := 4) rfl rfl | exact Rd.imm (by assumption) | exact Rd.sl (k := 0) rfl (by assumption) | exact Rd.sl (k := 1) rfl (by assumption) | exact Rd.sl (k := 2) rfl (by assumption) | exact Rd.sl (k := 3) rfl (by assumption))) hS.rd ?_
      refine LW.ex rfl rfl rfl rfl (Ex.fieldA Try.underlying46 rfl ti3 rfl) hS.rd ?_
      refine LW.ex rfl rfl rfl rfl (Ex.load1 ti3 rfl rfl (by first | exact Rd.obj (k := 0) rfl rfl | exact Rd.obj (k := 1) rfl rfl | exact Rd.obj (k := 2) rfl rfl | exact Rd.obj (k := 3) rfl rfl | exact Rd.obj (k := 4) rfl rfl | exact Rd.imm (by assumption) | exact Rd.sl (k := 0) rfl (by assumption) | exact Rd.sl (k := 1) rfl (by assumption) | exact Rd.sl (k := 2) rfl (by assumption) | exact Rd.sl (k := 3) rfl (by assumption))) hS.rd ?_
      refine LW.ex rfl rfl rfl rfl (Ex.add rfl rfl (by first | exact inc64 (by omega) | exact addN (by omega) | exact w64 (by omega) (by omega))) hS.rd ?_
      refine LW.ex rfl rfl rfl rfl (Ex.buildS st46 rfl rfl rfl) hS.rd ?_
      refine LW.hu rfl rfl rfl (Hv.storeN (k := 0) ti46 hS rfl rfl rfl rfl (by simp [Value.oneCell'])) fun _ w_11 hS => ?_
      dsimp only [List.set] at hS
      refine LW.nil fun aa ha => hrest ⟨l[i].X + cc.X, l[i].Y + cc.Y⟩ _ ?_ hS aa (ha.sub ⟨rfl, rfl, rfl, rfl, rfl, rfl, trivial⟩)
      unfold chgAt; rw [if_pos c0, gi]
    refine CW.no (by rw [decide_eq_false (by omega)]; rfl) ?_
    refine CW.seq fun K10 hK10 => ?_
    refine CW.region [0, 1] rfl ?_
    refine LW.ex rfl rfl rfl rfl (Ex.eql rfl rfl (by first | exact decide_eq_true (by omega) | exact decide_eq_false (by omega) | rfl)) hS.rd ?_
    refine LW.ex rfl rfl rfl rfl (Ex.assign rfl) hS.rd ?_
    refine LW.nil fun aa ha => hK10 _ _ _ ?_ aa ha
    by_cases c1 : hw = 1
    · refine CW.yes (by rw [decide_eq_true (by omega)]; rfl) ?_
      refine CW.region [0, 1, 2, 3, 4, 5, 6] rfl ?_
      refine LW.ex rfl rfl rfl rfl (Ex.fieldA Try.underlying46 rfl ti3 rfl) hS.rd ?_
      refine LW.ex rfl rfl rfl rfl (Ex.load1 ti3 rfl rfl (by first | exact Rd.obj (k := 0) rfl rfl | exact Rd.obj (k := 1) rfl rfl | exact Rd.obj (k := 2) rfl rfl | exact Rd.obj (k := 3) rfl rfl | exact Rd.obj (k := 4) rfl rfl | exact Rd.imm (by assumption) | exact Rd.sl (k := 0) rfl (by assumption) | exact Rd.sl (k := 1) rfl (by assumption) | exact Rd.sl (k := 2) rfl (by assumption) | exact Rd.sl (k := 3) rfl (by assumption))) hS.rd ?_
      refine LW.ex rfl rfl rfl rfl (Ex.sub rfl rfl (by first | exact dec64 (by omega) (by omega) | exact subN (by omega) (by omega) | exact w64 (by omega) (by omega))) hS.rd ?_
      refine LW.ex rfl rfl rfl rfl (Ex.fieldA Try.underlying46 rfl ti3 rfl) hS.rd ?_
      refine LW.ex rfl rfl rfl rfl (Ex.load1 ti3 rfl rfl (by first | exact Rd.obj (k := 0) rfl rfl | exact Rd.obj (k := 1) rfl rfl | exact Rd.obj (k := 2) rfl rfl | exact Rd.obj (k := 3) rfl rfl | exact Rd.obj (k := 4) rfl rfl | exact Rd.imm (by assumption) | exact Rd.sl (k := 0) rfl (by assumption) | exact Rd.sl (k := 1) rfl (by assumption) | exact Rd.sl (k := 2) rfl (by assumption) | exact Rd.sl (k := 3) rfl (by assumption))) hS.rd ?_
      refine LW.ex rfl rfl rfl rfl (Ex.buildS st46 rfl rfl rfl) hS.rd ?_
      refine LW.hu rfl rfl rfl (Hv.storeN (k := 0) ti46 hS rfl rfl rfl rfl (by simp [Value.oneCell'])) fun _ w_6 hS => ?_
      dsimp only [List.set] at hS
      refine LW.nil fun aa ha => hrest ⟨500 - l[i].X, l[i].Y⟩ _ ?_ hS aa (ha.sub ⟨rfl, rfl, rfl, rfl, rfl, rfl, trivial⟩)
      unfold chgAt; rw [if_neg c0, if_pos c1, gi]
    refine CW.no (by rw [decide_eq_false (by omega)]; rfl) ?_
    refine CW.seq fun K12 hK12 => ?_
    refine CW.region [0, 1] rfl ?_
    refine LW.ex rfl rfl rfl rfl (Ex.eql rfl rfl (by first | exact decide_eq_true (by omega) | exact decide_eq_false (by omega) | rfl)) hS.rd ?_
    refine LW.ex rfl rfl rfl rfl (Ex.assign rfl) hS.rd ?_
    refine LW.nil fun aa ha => hK12 _ _ _ ?_ aa ha
    by_cases c2 : hw = 2
    · refine CW.yes (by rw [decide_eq_true (by omega)]; rfl) ?_
      refine CW.region [0, 1, 2, 3, 4, 5] rfl ?_
      refine LW.ex rfl rfl rfl rfl (Ex.fieldA Try.underlying46 rfl ti3 rfl) hS.rd ?_
      refine LW.ex rfl rfl rfl rfl (Ex.load1 ti3 rfl rfl (by first | exact Rd.obj (k := 0) rfl rfl | exact Rd.obj (k := 1) rfl rfl | exact Rd.obj (k := 2) rfl rfl | exact Rd.obj (k := 3) rfl rfl | exact Rd.obj (k := 4) rfl rfl | exact Rd.imm (by assumption) | exact Rd.sl (k := 0) rfl (by assumption) | exact Rd.sl (k := 1) rfl (by assumption) | exact Rd.sl (k := 2) rfl (by assumption) | exact Rd.sl (k := 3) rfl (by assumption))) hS.rd ?_
      refine LW.ex rfl rfl rfl rfl (Ex.fieldA Try.underlying46 rfl ti3 rfl) hS.rd ?_
      refine LW.ex rfl rfl rfl rfl (Ex.load1 ti3 rfl rfl (by first | exact Rd.obj (k := 0) rfl rfl | exact Rd.obj (k := 1) rfl rfl | exact Rd.obj (k := 2) rfl rfl | exact Rd.obj (k := 3) rfl rfl | exact Rd.obj (k := 4) rfl rfl | exact Rd.imm (by assumption) | exact Rd.sl (k := 0) rfl (by assumption) | exact Rd.sl (k := 1) rfl (by assumption) | exact Rd.sl (k := 2) rfl (by assumption) | exact Rd.sl (k := 3) rfl (by assumption))) hS.rd ?_
      refine LW.ex rfl rfl rfl rfl (Ex.buildS st46 rfl rfl rfl) hS.rd ?_
      refine LW.hu rfl rfl rfl (Hv.storeN (k := 0) ti46 hS rfl rfl rfl rfl (by simp [Value.oneCell'])) fun _ w_5 hS => ?_
      dsimp only [List.set] at hS
      refine LW.nil fun aa ha => hrest ⟨l[i].Y, l[i].X⟩ _ ?_ hS aa (ha.sub ⟨rfl, rfl, rfl, rfl, rfl, rfl, trivial⟩)
      unfold chgAt; rw [if_neg c0, if_neg c1, if_pos c2, gi]
    refine CW.no (by rw [decide_eq_false (by omega)]; rfl) ?_
    refine CW.region [0, 1, 2, 3, 4, 5, 6, 7, 8] rfl ?_
    refine LW.ex rfl rfl rfl rfl (Ex.move rfl) hS.rd ?_
    refine LW.ex rfl rfl rfl rfl (Ex.move rfl) hS.rd ?_
    refine LW.ex rfl rfl rfl rfl (Ex.lenSl rfl Try.underlying26 rfl) hS.rd ?_
    refine LW.ex rfl rfl rfl rfl (Ex.sub rfl rfl (by first | exact dec64 (by omega) (by omega) | exact subN (by omega) (by omega) | exact w64 (by omega) (by omega))) hS.rd ?_
    refine LW.ex rfl rfl rfl rfl (Ex.move rfl) hS.rd ?_
    refine LW.ex rfl rfl rfl rfl (Ex.sub rfl rfl (by first | exact dec64 (by omega) (by omega) | exact subN (by omega) (by omega) | exact w64 (by omega) (by omega))) hS.rd ?_
    refine LW.ex rfl rfl rfl rfl (Ex.indexSl Try.underlying26 ti46 rfl rfl rfl (by omega)) hS.rd ?_
    refine LW.ex rfl rfl rfl rfl (Ex.load2c ti46 rfl rfl (by first | exact Rd.obj (k := 0) rfl rfl | exact Rd.obj (k := 1) rfl rfl | exact Rd.obj (k := 2) rfl rfl | exact Rd.obj (k := 3) rfl rfl | exact Rd.obj (k := 4) rfl rfl | exact Rd.imm (by assumption) | exact Rd.sl (k := 0) rfl (by assumption) | exact Rd.sl (k := 1) rfl (by assumption) | exact Rd.sl (k := 2) rfl (by assumption) | exact Rd.sl (k := 3) rfl (by assumption)) (by first | exact Rd.obj (k := 0) rfl rfl | exact Rd.obj (k := 1) rfl rfl | exact Rd.obj (k := 2) rfl rfl | exact Rd.obj (k := 3) rfl rfl | exact Rd.obj (k := 4) rfl rfl | exact Rd.imm (by assumption) | exact Rd.sl (k := 0) rfl (by assumption) | exact Rd.sl (k := 1) rfl (by assumption) | exact Rd.sl (k := 2) rfl (by assumption) | exact Rd.sl (k := 3) rfl (by assumption))) hS.rd ?_
    refine LW.hu rfl rfl rfl (Hv.storeN (k := 0) ti46 hS rfl rfl rfl rfl (by simp [Value.oneCell'])) fun _ w_8 hS => ?_
    dsimp only [List.set] at hS
    refine LW.nil fun aa ha => hrest l[l.length - 1 - i] _ ?_ hS aa (ha.sub ⟨rfl, rfl, rfl, rfl, rfl, rfl, trivial⟩)
    unfold chgAt; rw [if_neg c0, if_neg c1, if_neg c2, gj]
  · skip
    refine CW.seq fun K3o hK3o => ?_
    refine CW.seq fun K3 hK3 => ?_
    refine CW.region [0, 1, 2, 3] rfl ?_
    refine LW.ex rfl rfl rfl rfl (Ex.move rfl) hS.rd ?_
    refine LW.ex rfl rfl rfl rfl (Ex.move rfl) hS.rd ?_
    refine LW.ex rfl rfl rfl rfl (Ex.lenSl rfl Try.underlying26 rfl) hS.rd ?_
    refine LW.ex rfl rfl rfl rfl (Ex.lss rfl rfl (by first | exact decide_eq_true (by omega) | exact decide_eq_false (by omega) | rfl)) hS.rd ?_
    refine LW.nil fun aa ha => hK3 _ _ _ ?_ aa ha
    refine CW.no rfl ?_
    refine CW.exit fun aa ha => hK2o _ _ _ ?_ aa ha
    refine CW.seq fun K15 hK15 => ?_
    refine CW.region [0, 1] rfl ?_
    refine LW.ex rfl rfl rfl rfl (Ex.move rfl) hS.rd ?_
    refine LW.ex rfl rfl rfl rfl (Ex.assign rfl) hS.rd ?_
    refine LW.nil fun aa ha => hK15 _ _ _ ?_ aa ha
    refine CW.ret fun aa ha => ?_
    obtain ⟨bs, μ', hm, hS, hφ⟩ := hS.shut 0 rfl
    have he : chg hw cc l = (List.range i).map (chgAt hw cc l) := by unfold chg; rw [show i = l.length by omega]
    refine ret_one ha Try.results21 rfl ⟨_, μ', rfl, hS.below, hm, hS.imm, ado, co, ?_, ?_⟩
    · rw [he]; simp
    · rw [he]; exact Sl.of_own hφ (hus.mono hm) (by simp)
end Go.Proofs.Ythbglfjajifkoaa
