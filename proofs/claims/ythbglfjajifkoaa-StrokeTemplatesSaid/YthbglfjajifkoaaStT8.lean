/-
  Strokes: the walk of StrokeTemplates.
-/
import Derived.Test.YthbglfjajifkoaaStT7
namespace Go.Proofs.Ythbglfjajifkoaa
open Go.RowKit Sy Go.Sort

theorem repR1 {μ : Mem} (x : Raw) {ad : Option Addr} {c : Nat} (h : Sl μ ad c x.P) : RepL μ [.int .u8 x.Key.toNat, .slice ad x.P.length c] [x] :=
  (RepL.nil μ).snoc (vs := [.int .u8 x.Key.toNat, .slice ad x.P.length c]) rfl ⟨rfl, ad, c, rfl, h⟩
def freeB (zs : List Ch) (key : UInt8) : Bool := zs.any fun z => decide (z.Key = key) && decide (z.Cost = 0)

set_option maxRecDepth 100000 in
theorem law7_c (l : List Raw) (x : Raw) (w0 : List B2) (adl adx ad0 : Option Addr) (cl cx c0 : Nat) (μ : Mem) (w : World) (hμ : Imm μ w) (hl : Sl μ adl cl l) (hx : Sl μ adx cx x.P) (hw0 : Sl μ ad0 c0 w0) :
    Calls Try.prog 9 #[.slice adl l.length cl, .agg #[.int .u8 x.Key.toNat, .slice adx x.P.length cx], .slice ad0 w0.length c0] w (RetS w (.bool true)) := by
  have hS := St.start w μ hμ
  refine calls_start 170 [.slice adl l.length cl, .agg #[.int .u8 x.Key.toNat, .slice adx x.P.length cx], .slice ad0 w0.length c0] Try.func9 rfl Try.ntmps9 rfl rfl ?_
  refine CW.seq fun K0 hK0 => ?_
  refine CW.region [0, 1] rfl ?_
  refine LW.hv rfl rfl rfl rfl (Hv.box hS rfl) fun v w4 ⟨b4, hv, hb4, hS⟩ => ?_
  subst hv
  refine LW.ex rfl rfl rfl rfl (Ex.assign rfl) hS.rd ?_
  refine LW.nil fun aa ha => hK0 _ _ _ ?_ aa ha
  refine CW.seq fun K1 hK1 => ?_
  refine CW.region [0, 1] rfl ?_
  refine LW.hv rfl rfl rfl rfl (Hv.callS hS rfl rfl rfl cb10 (sanity_c _)) fun v w23 ⟨hv, hS⟩ => ?_
  subst hv
  refine LW.ex rfl rfl rfl rfl (Ex.assign rfl) hS.rd ?_
  refine LW.nil fun aa ha => hK1 _ _ _ ?_ aa ha
  refine CW.seq fun K2 hK2 => ?_
  refine CW.region [0, 1, 2, 3] rfl ?_
  refine LW.ex rfl rfl rfl rfl (Ex.move rfl) hS.rd ?_
  refine LW.hv rfl rfl rfl rfl (Hv.callV hS rfl rfl rfl cb12 (board_c l _ _ 12 7 _ _ hS.imm hl (by omega) (by omega) (by omega))) fun v w25 ⟨μ25, hv25, hm25, hS⟩ => ?_
  obtain ⟨adb, cb, rfl, hb⟩ := hv25
  refine LW.hv rfl rfl rfl rfl (Hv.alloc ti32 hS) fun v w8 ⟨b8, hv, hb8, hS⟩ => ?_
  subst hv
  refine LW.hu rfl rfl rfl (Hv.storeN (k := 0) ti32 hS rfl rfl rfl rfl (by simp [Value.oneCell'])) fun _ w_3 hS => ?_
  dsimp only [List.set] at hS
  refine LW.nil fun aa ha => hK2 _ _ _ ?_ aa ha
  have hw0 := hw0.mono hm25
  have hx := hx.mono hm25
  refine CW.seq fun K3 hK3 => ?_
  refine CW.region [0, 1, 2] rfl ?_
  refine LW.ex rfl rfl rfl rfl (Ex.move rfl) hS.rd ?_
  refine LW.hv rfl rfl rfl rfl (Hv.callV hS rfl rfl rfl cb11 (points_c w0 _ _ 6 4 _ _ hS.imm hw0 (by omega) (by omega) (by omega))) fun v w27 ⟨μ27, hv27, hm27, hS⟩ => ?_
  obtain ⟨adp, cp, rfl, hp⟩ := hv27
  refine LW.ex rfl rfl rfl rfl (Ex.assign rfl) hS.rd ?_
  refine LW.nil fun aa ha => hK3 _ _ _ ?_ aa ha
  have hb := hb.mono hm27
  have hx := hx.mono hm27
  have fB := board_fine (l := l) (n := 12) (k := 7) (by omega) (by omega)
  have lB := board_len l 12 7
  have sB : ∀ t ∈ board l 12 7, t.Key.toNat < 104 := fun t ht => board_seven ht
  have gp := points_valid w0 (n := 6) (k := 4) (by omega) (by omega) (by omega)
  have fT := tplOf_fine (k := 7) (by omega) (by omega) x
  have vT : validP (tplOf 7 x).P = true := points_valid x.P (n := 6) (k := 4) (by omega) (by omega) (by omega)
  have sT : (tplOf 7 x).Key.toNat < 104 := board_seven (l := [x]) (n := 1) (List.mem_map.2 ⟨x, by simp, rfl⟩)
  generalize board l 12 7 = b at *
  generalize points w0 6 4 = p at *
  have fp := valid_fine gp
  refine CW.seq fun K4 hK4 => ?_
  refine CW.region [0, 1, 2, 3, 4, 5, 6, 7] rfl ?_
  refine LW.ex rfl rfl rfl rfl (Ex.load2c ti59 rfl rfl (by first | exact Rd.obj (k := 0) rfl rfl | exact Rd.obj (k := 1) rfl rfl | exact Rd.obj (k := 2) rfl rfl | exact Rd.obj (k := 3) rfl rfl | exact Rd.obj (k := 4) rfl rfl | exact Rd.imm (by assumption) | exact Rd.sl (k := 0) rfl (by assumption) | exact Rd.sl (k := 1) rfl (by assumption) | exact Rd.sl (k := 2) rfl (by assumption) | exact Rd.sl (k := 3) rfl (by assumption)) (by first | exact Rd.obj (k := 0) rfl rfl | exact Rd.obj (k := 1) rfl rfl | exact Rd.obj (k := 2) rfl rfl | exact Rd.obj (k := 3) rfl rfl | exact Rd.obj (k := 4) rfl rfl | exact Rd.imm (by assumption) | exact Rd.sl (k := 0) rfl (by assumption) | exact Rd.sl (k := 1) rfl (by assumption) | exact Rd.sl (k := 2) rfl (by assumption) | exact Rd.sl (k := 3) rfl (by assumption))) hS.rd ?_
  refine LW.hv rfl rfl rfl rfl (Hv.buildSl hS Try.underlying22 ti59 rfl rfl rfl rfl rfl rfl) fun v w29 ⟨b29, hv, hb29, hS⟩ => ?_
  subst hv
  obtain ⟨μ29, hm29, hS, hraw⟩ := hS.shutRow 0 rfl (repR1 x hx) (by simp [maxLen])
  dsimp only [List.eraseIdx] at hS
  refine LW.hv rfl rfl rfl rfl (Hv.callV hS rfl rfl rfl cb12 (board_c [x] _ _ 1 7 _ _ hS.imm hraw (by omega) (by omega) (by omega))) fun v w30 ⟨μ30, hv30, hm30, hS⟩ => ?_
  obtain ⟨adm, cm, rfl, hbm⟩ := hv30
  obtain ⟨bm, om, rfl, hmk, adt, ct, hmc, hmt⟩ := hbm.at (i := 0) (show 0 < (board [x] 1 7).length from Nat.one_pos)
  refine LW.ex rfl rfl rfl rfl (Ex.fieldV Try.underlying32 rfl ti29 rfl rfl rfl) hS.rd ?_
  refine LW.ex rfl rfl rfl rfl (Ex.indexSl (j := 0) Try.underlying29 ti61 rfl rfl rfl (show 0 < (board [x] 1 7).length from Nat.one_pos)) hS.rd ?_
  refine LW.ex rfl rfl rfl rfl (Ex.load2c ti61 rfl rfl (by first | exact Rd.obj (k := 0) rfl rfl | exact Rd.obj (k := 1) rfl rfl | exact Rd.obj (k := 2) rfl rfl | exact Rd.obj (k := 3) rfl rfl | exact Rd.obj (k := 4) rfl rfl | exact Rd.imm (by assumption) | exact Rd.sl (k := 0) rfl (by assumption) | exact Rd.sl (k := 1) rfl (by assumption) | exact Rd.sl (k := 2) rfl (by assumption) | exact Rd.sl (k := 3) rfl (by assumption)) (by first | exact Rd.obj (k := 0) rfl rfl | exact Rd.obj (k := 1) rfl rfl | exact Rd.obj (k := 2) rfl rfl | exact Rd.obj (k := 3) rfl rfl | exact Rd.obj (k := 4) rfl rfl | exact Rd.imm (by assumption) | exact Rd.sl (k := 0) rfl (by assumption) | exact Rd.sl (k := 1) rfl (by assumption) | exact Rd.sl (k := 2) rfl (by assumption) | exact Rd.sl (k := 3) rfl (by assumption))) hS.rd ?_
  refine LW.hv rfl rfl rfl rfl (Hv.alloc ti61 hS) fun v w10 ⟨b10, hv, hb10, hS⟩ => ?_
  subst hv
  refine LW.hu rfl rfl rfl (Hv.storeN (k := 0) ti61 hS rfl rfl rfl rfl (by simp [Value.oneCell'])) fun _ w_7 hS => ?_
  dsimp only [List.set] at hS
  refine LW.nil fun aa ha => hK4 _ _ _ ?_ aa ha
  have hmt : Sl _ adt ct (tplOf 7 x).P := hmt
  have hS := hS.drop 2 rfl
  dsimp only [List.eraseIdx] at hS
  have hmk : _ = some (Value.int .u8 (tplOf 7 x).Key.toNat) := hmk
  have hS : St w _ μ30 [Own.obj b10 [.int .u8 (tplOf 7 x).Key.toNat, .slice adt (tplOf 7 x).P.length ct] 61, Own.obj b8 [.slice none 0 0, .slice adb b.length cb, .slice none 0 0] 32] := hS
  clear hmk hmc
  generalize tplOf 7 x = t at *
  have hb := (hb.mono hm29).mono hm30
  have hp := (hp.mono hm29).mono hm30
  have fC := field_mem fB fT
  have sC : ∀ y ∈ b ++ [t], y.Key.toNat < 104 := fun y hy => (List.mem_append.1 hy).elim (sB y) fun h => by
    obtain rfl : y = t := by simpa using h
    exact sT
  have gC : ∀ y ∈ b ++ [t], Good y.P := fun y hy => (fC y hy).fine.good
  have gB : ∀ y ∈ b, Good y.P := fun y hy => (fB y hy).fine.good
  have lC : (b ++ [t]).length ≤ 1000 := by rw [List.length_append]; simp only [List.length_cons, List.length_nil]; omega
  have hC0 : 0 < (b ++ [t]).length := by simp
  refine CW.seq fun K5 hK5 => ?_
  refine CW.region [0, 1, 2, 3, 4, 5, 6] rfl ?_
  refine LW.hv rfl rfl rfl rfl (Hv.buildSl hS Try.underlying29 ti61 rfl rfl rfl rfl rfl rfl) fun v w34 ⟨b34, hv, hb34, hS⟩ => ?_
  subst hv
  have hS := hS.row_sl (k := 0) rfl 0 2 rfl (by simp [maxLen])
  dsimp only [List.set] at hS
  refine LW.ex rfl rfl rfl rfl (Ex.fieldA Try.underlying32 rfl ti29 rfl) hS.rd ?_
  refine LW.ex rfl rfl rfl rfl (Ex.load1 ti29 rfl rfl (by first | exact Rd.obj (k := 0) rfl rfl | exact Rd.obj (k := 1) rfl rfl | exact Rd.obj (k := 2) rfl rfl | exact Rd.obj (k := 3) rfl rfl | exact Rd.obj (k := 4) rfl rfl | exact Rd.imm (by assumption) | exact Rd.sl (k := 0) rfl (by assumption) | exact Rd.sl (k := 1) rfl (by assumption) | exact Rd.sl (k := 2) rfl (by assumption) | exact Rd.sl (k := 3) rfl (by assumption))) hS.rd ?_
  refine LW.hv rfl rfl rfl rfl (Hv.appendSl (k := 0) (ys := ([] : List Tpl)) tplWhole rfl Try.underlying29 ti61 rfl hS rfl (RepL.nil _) hb rfl rfl (by unfold maxLen; omega) (by omega)) fun v w37 ⟨ad37, c37, us37, hv, hus, hS⟩ => ?_
  subst hv
  dsimp only [List.set] at hS
  refine LW.ex rfl rfl rfl rfl (Ex.buildS st32 rfl rfl rfl) hS.rd ?_
  refine LW.hv rfl rfl rfl rfl (Hv.alloc ti32 hS) fun v w11 ⟨b11, hv, hb11, hS⟩ => ?_
  subst hv
  refine LW.hu rfl rfl rfl (Hv.storeN (k := 0) ti32 hS rfl rfl rfl rfl (by simp [Value.oneCell'])) fun _ w_6 hS => ?_
  dsimp only [List.set] at hS
  refine LW.nil fun aa ha => hK5 _ _ _ ?_ aa ha
  refine CW.seq fun K6 hK6 => ?_
  refine CW.region [0, 1, 2, 3, 4, 5, 6] rfl ?_
  refine LW.ex rfl rfl rfl rfl (Ex.fieldA Try.underlying32 rfl ti29 rfl) hS.rd ?_
  refine LW.ex rfl rfl rfl rfl (Ex.load1 ti29 rfl rfl (by first | exact Rd.obj (k := 0) rfl rfl | exact Rd.obj (k := 1) rfl rfl | exact Rd.obj (k := 2) rfl rfl | exact Rd.obj (k := 3) rfl rfl | exact Rd.obj (k := 4) rfl rfl | exact Rd.imm (by assumption) | exact Rd.sl (k := 0) rfl (by assumption) | exact Rd.sl (k := 1) rfl (by assumption) | exact Rd.sl (k := 2) rfl (by assumption) | exact Rd.sl (k := 3) rfl (by assumption))) hS.rd ?_
  refine LW.ex rfl rfl rfl rfl (Ex.load2c ti61 rfl rfl (by first | exact Rd.obj (k := 0) rfl rfl | exact Rd.obj (k := 1) rfl rfl | exact Rd.obj (k := 2) rfl rfl | exact Rd.obj (k := 3) rfl rfl | exact Rd.obj (k := 4) rfl rfl | exact Rd.imm (by assumption) | exact Rd.sl (k := 0) rfl (by assumption) | exact Rd.sl (k := 1) rfl (by assumption) | exact Rd.sl (k := 2) rfl (by assumption) | exact Rd.sl (k := 3) rfl (by assumption)) (by first | exact Rd.obj (k := 0) rfl rfl | exact Rd.obj (k := 1) rfl rfl | exact Rd.obj (k := 2) rfl rfl | exact Rd.obj (k := 3) rfl rfl | exact Rd.obj (k := 4) rfl rfl | exact Rd.imm (by assumption) | exact Rd.sl (k := 0) rfl (by assumption) | exact Rd.sl (k := 1) rfl (by assumption) | exact Rd.sl (k := 2) rfl (by assumption) | exact Rd.sl (k := 3) rfl (by assumption))) hS.rd ?_
  refine LW.hv rfl rfl rfl rfl (Hv.buildSl hS Try.underlying29 ti61 rfl rfl rfl rfl rfl rfl) fun v w42 ⟨b42, hv, hb42, hS⟩ => ?_
  subst hv
  refine LW.hv rfl rfl rfl rfl (Hv.append (k := 2) rfl Try.underlying29 ti61 rfl hS rfl rfl rfl rfl (Rd.objAll (k := 0) rfl hS.rd) (by simp [Value.oneCell']) (by unfold maxLen; omega) (by omega)) fun v w43 ⟨ad43, c43, hv, hS⟩ => ?_
  subst hv
  dsimp only [List.set] at hS
  have hS := hS.drop 0 rfl
  dsimp only [List.eraseIdx] at hS
  refine LW.ex rfl rfl rfl rfl (Ex.fieldA Try.underlying32 rfl ti29 rfl) hS.rd ?_
  refine LW.hu rfl rfl rfl (Hv.storeObj (k := 0) ti29 hS rfl rfl rfl rfl (by first | (simp; done) | omega)) fun _ w_6 hS => ?_
  dsimp only [List.set] at hS
  refine LW.nil fun aa ha => hK6 _ _ _ ?_ aa ha
  have e : 0 + b.length + 1 = (b ++ [t]).length := by simp
  rw [e] at hS
  obtain ⟨bs, μ2, hm2, hS, hφ⟩ := hS.shut 1 rfl
  dsimp only [List.eraseIdx] at hS
  have hus := (hus.snoc (vs := [.int .u8 t.Key.toNat, .slice adt t.P.length ct]) (x := t) rfl ⟨rfl, adt, ct, rfl, hmt⟩).mono hm2
  rw [List.nil_append] at hus
  have hcB := Sl.of_own hφ hus rfl
  clear hφ hus
  have hb := hb.mono hm2
  have hp := hp.mono hm2
  have hmt := hmt.mono hm2
  refine CW.seq fun K7 hK7 => ?_
  refine CW.region [0, 1, 2, 3, 4, 5, 6, 7, 8] rfl ?_
  refine LW.ex rfl rfl rfl rfl (Ex.load3c ti32 rfl rfl (by first | exact Rd.obj (k := 0) rfl rfl | exact Rd.obj (k := 1) rfl rfl | exact Rd.obj (k := 2) rfl rfl | exact Rd.obj (k := 3) rfl rfl | exact Rd.obj (k := 4) rfl rfl | exact Rd.imm (by assumption) | exact Rd.sl (k := 0) rfl (by assumption) | exact Rd.sl (k := 1) rfl (by assumption) | exact Rd.sl (k := 2) rfl (by assumption) | exact Rd.sl (k := 3) rfl (by assumption)) (by first | exact Rd.obj (k := 0) rfl rfl | exact Rd.obj (k := 1) rfl rfl | exact Rd.obj (k := 2) rfl rfl | exact Rd.obj (k := 3) rfl rfl | exact Rd.obj (k := 4) rfl rfl | exact Rd.imm (by assumption) | exact Rd.sl (k := 0) rfl (by assumption) | exact Rd.sl (k := 1) rfl (by assumption) | exact Rd.sl (k := 2) rfl (by assumption) | exact Rd.sl (k := 3) rfl (by assumption)) (by first | exact Rd.obj (k := 0) rfl rfl | exact Rd.obj (k := 1) rfl rfl | exact Rd.obj (k := 2) rfl rfl | exact Rd.obj (k := 3) rfl rfl | exact Rd.obj (k := 4) rfl rfl | exact Rd.imm (by assumption) | exact Rd.sl (k := 0) rfl (by assumption) | exact Rd.sl (k := 1) rfl (by assumption) | exact Rd.sl (k := 2) rfl (by assumption) | exact Rd.sl (k := 3) rfl (by assumption))) hS.rd ?_
  refine LW.ex rfl rfl rfl rfl (Ex.fieldA Try.underlying61 rfl ti26 rfl) hS.rd ?_
  refine LW.ex rfl rfl rfl rfl (Ex.load1 ti26 rfl rfl (by first | exact Rd.obj (k := 0) rfl rfl | exact Rd.obj (k := 1) rfl rfl | exact Rd.obj (k := 2) rfl rfl | exact Rd.obj (k := 3) rfl rfl | exact Rd.obj (k := 4) rfl rfl | exact Rd.imm (by assumption) | exact Rd.sl (k := 0) rfl (by assumption) | exact Rd.sl (k := 1) rfl (by assumption) | exact Rd.sl (k := 2) rfl (by assumption) | exact Rd.sl (k := 3) rfl (by assumption))) hS.rd ?_
  refine LW.hv rfl rfl rfl rfl (Hv.callV hS rfl rfl rfl cb13 (match_c (b ++ [t]) t.P _ _ _ _ _ _ hS.imm hcB hmt gC lC)) fun v w49 ⟨μ49, hv49, hm49, hS⟩ => ?_
  obtain ⟨ds, add, cd, e49, rfl, hd, hreld⟩ := hv49
  refine LW.ex rfl rfl rfl rfl (Ex.move rfl) hS.rd ?_
  refine LW.ex rfl rfl rfl rfl (Ex.extract rfl rfl) hS.rd ?_
  refine LW.ex rfl rfl rfl rfl (Ex.extract rfl rfl) hS.rd ?_
  refine LW.ex rfl rfl rfl rfl (Ex.assign rfl) hS.rd ?_
  refine LW.ex rfl rfl rfl rfl (Ex.assign rfl) hS.rd ?_
  refine LW.nil fun aa ha => hK7 _ _ _ ?_ aa ha
  obtain ⟨rfl, hcd⟩ := chosen_of fC vT hC0 hreld
  clear hreld
  have hb := hb.mono hm49
  have hp := hp.mono hm49
  have hcB := hcB.mono hm49
  refine CW.seq fun K8 hK8 => ?_
  refine CW.region [0, 1, 2, 3, 4, 5, 6, 7] rfl ?_
  refine LW.ex rfl rfl rfl rfl (Ex.load3c ti32 rfl rfl (by first | exact Rd.obj (k := 0) rfl rfl | exact Rd.obj (k := 1) rfl rfl | exact Rd.obj (k := 2) rfl rfl | exact Rd.obj (k := 3) rfl rfl | exact Rd.obj (k := 4) rfl rfl | exact Rd.imm (by assumption) | exact Rd.sl (k := 0) rfl (by assumption) | exact Rd.sl (k := 1) rfl (by assumption) | exact Rd.sl (k := 2) rfl (by assumption) | exact Rd.sl (k := 3) rfl (by assumption)) (by first | exact Rd.obj (k := 0) rfl rfl | exact Rd.obj (k := 1) rfl rfl | exact Rd.obj (k := 2) rfl rfl | exact Rd.obj (k := 3) rfl rfl | exact Rd.obj (k := 4) rfl rfl | exact Rd.imm (by assumption) | exact Rd.sl (k := 0) rfl (by assumption) | exact Rd.sl (k := 1) rfl (by assumption) | exact Rd.sl (k := 2) rfl (by assumption) | exact Rd.sl (k := 3) rfl (by assumption)) (by first | exact Rd.obj (k := 0) rfl rfl | exact Rd.obj (k := 1) rfl rfl | exact Rd.obj (k := 2) rfl rfl | exact Rd.obj (k := 3) rfl rfl | exact Rd.obj (k := 4) rfl rfl | exact Rd.imm (by assumption) | exact Rd.sl (k := 0) rfl (by assumption) | exact Rd.sl (k := 1) rfl (by assumption) | exact Rd.sl (k := 2) rfl (by assumption) | exact Rd.sl (k := 3) rfl (by assumption))) hS.rd ?_
  refine LW.ex rfl rfl rfl rfl (Ex.move rfl) hS.rd ?_
  refine LW.hv rfl rfl rfl rfl (Hv.callV hS rfl rfl rfl cb13 (match_c (b ++ [t]) p _ _ _ _ _ _ hS.imm hcB hp gC lC)) fun v w55 ⟨μ55, hv55, hm55, hS⟩ => ?_
  obtain ⟨az, ada, ca, e55, rfl, ha5, hrela⟩ := hv55
  refine LW.ex rfl rfl rfl rfl (Ex.move rfl) hS.rd ?_
  refine LW.ex rfl rfl rfl rfl (Ex.extract rfl rfl) hS.rd ?_
  refine LW.ex rfl rfl rfl rfl (Ex.extract rfl rfl) hS.rd ?_
  refine LW.ex rfl rfl rfl rfl (Ex.assign rfl) hS.rd ?_
  refine LW.ex rfl rfl rfl rfl (Ex.assign rfl) hS.rd ?_
  refine LW.nil fun aa ha => hK8 _ _ _ ?_ aa ha
  obtain ⟨rfl, hca⟩ := chosen_of fC gp hC0 hrela
  clear hrela
  have hb := hb.mono hm55
  have hp := hp.mono hm55
  have hd := hd.mono hm55
  refine CW.seq fun K9o hK9o => ?_
  refine CW.seq fun K9 hK9 => ?_
  refine CW.region [0, 1, 2, 3, 4, 5] rfl ?_
  refine LW.ex rfl rfl rfl rfl (Ex.move rfl) hS.rd ?_
  refine LW.ex rfl rfl rfl rfl (Ex.neq rfl rfl (by first | exact decide_eq_true (by omega) | exact decide_eq_false (by omega) | rfl)) hS.rd ?_
  refine LW.ex rfl rfl rfl rfl (Ex.move rfl) hS.rd ?_
  refine LW.ex rfl rfl rfl rfl (Ex.move rfl) hS.rd ?_
  refine LW.ex rfl rfl rfl rfl (Ex.neq rfl rfl (by first | exact decide_eq_true (by omega) | exact decide_eq_false (by omega) | rfl)) hS.rd ?_
  refine LW.ex rfl rfl rfl rfl (by first | exact Ex.pick_yes rfl rfl | exact Ex.pick_no rfl rfl) hS.rd ?_
  refine LW.nil fun aa ha => hK9 _ _ _ ?_ aa ha
  refine CW.no rfl (CW.skip fun aa ha => hK9o _ _ _ ?_ aa ha)
  refine CW.seq fun K11 hK11 => ?_
  refine CW.region [0] rfl ?_
  refine LW.ex rfl rfl rfl rfl (Ex.assign rfl) hS.rd ?_
  refine LW.nil fun aa ha => hK11 _ _ _ ?_ aa ha
  refine CW.seq fun K12o hK12o => ?_
  refine CW.seq fun K12 hK12 => ?_
  refine CW.region [0] rfl ?_
  refine LW.ex rfl rfl rfl rfl (Ex.assign rfl) hS.rd ?_
  refine LW.nil fun aa ha => hK12 _ _ _ ?_ aa ha
  have hfree : freeB ds t.Key = true := by
    have h0 := cost_own fB fT
    have h1 := letter_of (p := t.P) fC (k := t.Key) (by rw [h0]; omega)
    have h2 := chosen_all hcd (letters_seven t.P sC) h1
    exact List.any_eq_true.2 ⟨_, h2, by simp [h0]⟩
  have hdl : ds.length ≤ 8 := by rw [hcd.len]; omega
  have hal : az.length ≤ 8 := by rw [hca.len]; omega
  refine CW.block ?_
  refine CW.loop (fun q m w1 => ∃ (i : Nat), i ≤ ds.length ∧ q = ds.length - i ∧
      m = [(7, .bool true), (8, .pointer (some ⟨b8, 0, none⟩)), (9, .slice adp p.length cp), (10, .pointer (some ⟨b10, 0, none⟩)), (12, .slice add ds.length cd), (14, .slice ada az.length ca), (16, .bool (freeB (ds.take i) t.Key)), (17, .int .i64 i)] ∧
      St w w1 μ55 [Own.obj b10 [.int .u8 t.Key.toNat, .slice adt t.P.length ct] 61, Own.obj b8 [.slice none 0 0, .slice adb b.length cb, .slice none 0 0] 32]) ds.length
    ⟨0, by omega, by omega, rfl, (hS.drop 0 rfl)⟩ ⟨rfl, rfl, rfl, rfl, rfl, rfl, rfl, rfl, trivial⟩ ?_
  clear hS
  rintro q m w1 ⟨i, hi, hq, rfl, hS⟩
  by_cases h1 : i < ds.length
  · skip
    refine CW.seq fun K13o hK13o => ?_
    refine CW.seq fun K13 hK13 => ?_
    refine CW.region [0, 1, 2, 3] rfl ?_
    refine LW.ex rfl rfl rfl rfl (Ex.move rfl) hS.rd ?_
    refine LW.ex rfl rfl rfl rfl (Ex.move rfl) hS.rd ?_
    refine LW.ex rfl rfl rfl rfl (Ex.lenSl rfl Try.underlying35 rfl) hS.rd ?_
    refine LW.ex rfl rfl rfl rfl (Ex.lss rfl rfl (by first | exact decide_eq_true (by omega) | exact decide_eq_false (by omega) | rfl)) hS.rd ?_
    refine LW.nil fun aa ha => hK13 _ _ _ ?_ aa ha
    refine CW.yes rfl ?_
    refine CW.skip fun aa ha => hK13o _ _ _ ?_ aa ha
    obtain ⟨bz, oz, rfl, hk, hcc⟩ := hd.at h1
    have hstep : freeB (ds.take (i + 1)) t.Key = (freeB (ds.take i) t.Key || (decide (ds[i].Key = t.Key) && decide (ds[i].Cost = 0))) := by
      unfold freeB; rw [List.take_succ_eq_append_getElem h1, List.any_append]; simp
    refine CW.seq fun Kb hKb => ?_
    refine CW.block ?_
    cases hch : freeB (ds.take i) t.Key with
    | true =>
      have hS := hS.drew
      refine CW.draw 20 (.ex 0 <| .ex 1 <| .ex 2 <| .ex 3 <| .ex 4 <| .ex 5 <| .ex 6 <| .ex 7 <| .ex 8 <| .ex 9 <| .ex 10 <| .ex 11 <| .ex 12 <| .ex 13 <| .ex 14 <| .ex 15 <| .ex 16 <| .ex 17 <| .ex 18 <| .ex 19 <| .done) [] (Rd _ _) mixed (by kernel_rfl) rfl rfl hS.rd ?_
      refine PW.ex rfl rfl rfl rfl (Ex.move rfl) ?_
      refine PW.ex rfl rfl rfl rfl (Ex.move rfl) ?_
      refine PW.skip rfl rfl rfl rfl ?_
      refine PW.skip rfl rfl rfl rfl ?_
      refine PW.skip rfl rfl rfl rfl ?_
      refine PW.skip rfl rfl rfl rfl ?_
      refine PW.skip rfl rfl rfl rfl ?_
      refine PW.skip rfl rfl rfl rfl ?_
      refine PW.skip rfl rfl rfl rfl ?_
      refine PW.skip rfl rfl rfl rfl ?_
      refine PW.skip rfl rfl rfl rfl ?_
      refine PW.skip rfl rfl rfl rfl ?_
      refine PW.skip rfl rfl rfl rfl ?_
      refine PW.skip rfl rfl rfl rfl ?_
      refine PW.skip rfl rfl rfl rfl ?_
      refine PW.skip rfl rfl rfl rfl ?_
      refine PW.skip rfl rfl rfl rfl ?_
      refine PW.skip rfl rfl rfl rfl ?_
      refine PW.ex rfl rfl rfl rfl (by first | exact Ex.pick_yes rfl rfl | exact Ex.pick_no rfl rfl) ?_
      refine PW.ex rfl rfl rfl rfl (Ex.assign rfl) ?_
      refine PW.nil ?_
      refine LW.nil fun aa ha => hKb _ _ _ ?_ aa ha
      refine CW.region [0, 1, 2] rfl ?_
      refine LW.ex rfl rfl rfl rfl (Ex.move rfl) hS.rd ?_
      refine LW.ex rfl rfl rfl rfl (Ex.add rfl rfl (by first | exact inc64 (by omega) | exact addN (by omega) | exact w64 (by omega) (by omega))) hS.rd ?_
      refine LW.ex rfl rfl rfl rfl (Ex.assign rfl) hS.rd ?_
      refine LW.nil fun aa ha => ?_
      refine ⟨ds.length - (i + 1), _, by omega, ⟨i + 1, by omega, rfl, rfl, hS⟩, ha.sub ⟨rfl, rfl, rfl, rfl, rfl, rfl, by rw [hstep]; rw [hch]; rfl, rfl, trivial⟩⟩
    | false =>
      by_cases hke : ds[i].Key = t.Key
      · have hke' : (ds[i].Key.toNat : Int) = t.Key.toNat := by rw [hke]
        by_cases hz : ds[i].Cost = 0
        · skip
          have hS := hS.drew
          refine CW.draw 20 (.ex 0 <| .ex 1 <| .ex 2 <| .ex 3 <| .ex 4 <| .ex 5 <| .ex 6 <| .ex 7 <| .ex 8 <| .ex 9 <| .ex 10 <| .ex 11 <| .ex 12 <| .ex 13 <| .ex 14 <| .ex 15 <| .ex 16 <| .ex 17 <| .ex 18 <| .ex 19 <| .done) [] (Rd _ _) mixed (by kernel_rfl) rfl rfl hS.rd ?_
          refine PW.ex rfl rfl rfl rfl (Ex.move rfl) ?_
          refine PW.ex rfl rfl rfl rfl (Ex.move rfl) ?_
          refine PW.ex rfl rfl rfl rfl (Ex.move rfl) ?_
          refine PW.ex rfl rfl rfl rfl (Ex.move rfl) ?_
          refine PW.ex rfl rfl rfl rfl (Ex.indexSl Try.underlying35 ti55 rfl rfl rfl (by omega)) ?_
          refine PW.ex rfl rfl rfl rfl (Ex.fieldA Try.underlying55 rfl ti5 rfl) ?_
          refine PW.ex rfl rfl rfl rfl (Ex.load1 ti5 rfl rfl (by first | exact Rd.obj (k := 0) rfl rfl | exact Rd.obj (k := 1) rfl rfl | exact Rd.obj (k := 2) rfl rfl | exact Rd.obj (k := 3) rfl rfl | exact Rd.obj (k := 4) rfl rfl | exact Rd.imm (by assumption) | exact Rd.sl (k := 0) rfl (by assumption) | exact Rd.sl (k := 1) rfl (by assumption) | exact Rd.sl (k := 2) rfl (by assumption) | exact Rd.sl (k := 3) rfl (by assumption))) ?_
          refine PW.ex rfl rfl rfl rfl (Ex.fieldA Try.underlying61 rfl ti5 rfl) ?_
          refine PW.ex rfl rfl rfl rfl (Ex.load1 ti5 rfl rfl (by first | exact Rd.obj (k := 0) rfl rfl | exact Rd.obj (k := 1) rfl rfl | exact Rd.obj (k := 2) rfl rfl | exact Rd.obj (k := 3) rfl rfl | exact Rd.obj (k := 4) rfl rfl | exact Rd.imm (by assumption) | exact Rd.sl (k := 0) rfl (by assumption) | exact Rd.sl (k := 1) rfl (by assumption) | exact Rd.sl (k := 2) rfl (by assumption) | exact Rd.sl (k := 3) rfl (by assumption))) ?_
          refine PW.ex rfl rfl rfl rfl (Ex.eql rfl rfl (by first | exact decide_eq_true (by omega) | exact decide_eq_false (by omega) | rfl)) ?_
          refine PW.ex rfl rfl rfl rfl (Ex.move rfl) ?_
          refine PW.ex rfl rfl rfl rfl (Ex.move rfl) ?_
          refine PW.ex rfl rfl rfl rfl (Ex.move rfl) ?_
          refine PW.ex rfl rfl rfl rfl (Ex.indexSl Try.underlying35 ti55 rfl rfl rfl (by omega)) ?_
          refine PW.ex rfl rfl rfl rfl (Ex.fieldA Try.underlying55 rfl ti3 rfl) ?_
          refine PW.ex rfl rfl rfl rfl (Ex.load1 ti3 rfl rfl (by first | exact Rd.obj (k := 0) rfl rfl | exact Rd.obj (k := 1) rfl rfl | exact Rd.obj (k := 2) rfl rfl | exact Rd.obj (k := 3) rfl rfl | exact Rd.obj (k := 4) rfl rfl | exact Rd.imm (by assumption) | exact Rd.sl (k := 0) rfl (by assumption) | exact Rd.sl (k := 1) rfl (by assumption) | exact Rd.sl (k := 2) rfl (by assumption) | exact Rd.sl (k := 3) rfl (by assumption))) ?_
          refine PW.ex rfl rfl rfl rfl (Ex.eql rfl rfl (by first | exact decide_eq_true (by omega) | exact decide_eq_false (by omega) | rfl)) ?_
          refine PW.ex rfl rfl rfl rfl (by first | exact Ex.pick_yes rfl rfl | exact Ex.pick_no rfl rfl) ?_
          refine PW.ex rfl rfl rfl rfl (by first | exact Ex.pick_yes rfl rfl | exact Ex.pick_no rfl rfl) ?_
          refine PW.ex rfl rfl rfl rfl (Ex.assign rfl) ?_
          refine PW.nil ?_
          refine LW.nil fun aa ha => hKb _ _ _ ?_ aa ha
          refine CW.region [0, 1, 2] rfl ?_
          refine LW.ex rfl rfl rfl rfl (Ex.move rfl) hS.rd ?_
          refine LW.ex rfl rfl rfl rfl (Ex.add rfl rfl (by first | exact inc64 (by omega) | exact addN (by omega) | exact w64 (by omega) (by omega))) hS.rd ?_
          refine LW.ex rfl rfl rfl rfl (Ex.assign rfl) hS.rd ?_
          refine LW.nil fun aa ha => ?_
          refine ⟨ds.length - (i + 1), _, by omega, ⟨i + 1, by omega, rfl, rfl, hS⟩, ha.sub ⟨rfl, rfl, rfl, rfl, rfl, rfl, by rw [hstep]; rw [hch, decide_eq_true hke, decide_eq_true hz]; rfl, rfl, trivial⟩⟩
        · skip
          have hS := hS.drew
          refine CW.draw 20 (.ex 0 <| .ex 1 <| .ex 2 <| .ex 3 <| .ex 4 <| .ex 5 <| .ex 6 <| .ex 7 <| .ex 8 <| .ex 9 <| .ex 10 <| .ex 11 <| .ex 12 <| .ex 13 <| .ex 14 <| .ex 15 <| .ex 16 <| .ex 17 <| .ex 18 <| .ex 19 <| .done) [] (Rd _ _) mixed (by kernel_rfl) rfl rfl hS.rd ?_
          refine PW.ex rfl rfl rfl rfl (Ex.move rfl) ?_
          refine PW.ex rfl rfl rfl rfl (Ex.move rfl) ?_
          refine PW.ex rfl rfl rfl rfl (Ex.move rfl) ?_
          refine PW.ex rfl rfl rfl rfl (Ex.move rfl) ?_
          refine PW.ex rfl rfl rfl rfl (Ex.indexSl Try.underlying35 ti55 rfl rfl rfl (by omega)) ?_
          refine PW.ex rfl rfl rfl rfl (Ex.fieldA Try.underlying55 rfl ti5 rfl) ?_
          refine PW.ex rfl rfl rfl rfl (Ex.load1 ti5 rfl rfl (by first | exact Rd.obj (k := 0) rfl rfl | exact Rd.obj (k := 1) rfl rfl | exact Rd.obj (k := 2) rfl rfl | exact Rd.obj (k := 3) rfl rfl | exact Rd.obj (k := 4) rfl rfl | exact Rd.imm (by assumption) | exact Rd.sl (k := 0) rfl (by assumption) | exact Rd.sl (k := 1) rfl (by assumption) | exact Rd.sl (k := 2) rfl (by assumption) | exact Rd.sl (k := 3) rfl (by assumption))) ?_
          refine PW.ex rfl rfl rfl rfl (Ex.fieldA Try.underlying61 rfl ti5 rfl) ?_
          refine PW.ex rfl rfl rfl rfl (Ex.load1 ti5 rfl rfl (by first | exact Rd.obj (k := 0) rfl rfl | exact Rd.obj (k := 1) rfl rfl | exact Rd.obj (k := 2) rfl rfl | exact Rd.obj (k := 3) rfl rfl | exact Rd.obj (k := 4) rfl rfl | exact Rd.imm (by assumption) | exact Rd.sl (k := 0) rfl (by assumption) | exact Rd.sl (k := 1) rfl (by assumption) | exact Rd.sl (k := 2) rfl (by assumption) | exact Rd.sl (k := 3) rfl (by assumption))) ?_
          refine PW.ex rfl rfl rfl rfl (Ex.eql rfl rfl (by first | exact decide_eq_true (by omega) | exact decide_eq_false (by omega) | rfl)) ?_
          refine PW.ex rfl rfl rfl rfl (Ex.move rfl) ?_
          refine PW.ex rfl rfl rfl rfl (Ex.move rfl) ?_
          refine PW.ex rfl rfl rfl rfl (Ex.move rfl) ?_
          refine PW.ex rfl rfl rfl rfl (Ex.indexSl Try.underlying35 ti55 rfl rfl rfl (by omega)) ?_
          refine PW.ex rfl rfl rfl rfl (Ex.fieldA Try.underlying55 rfl ti3 rfl) ?_
          refine PW.ex rfl rfl rfl rfl (Ex.load1 ti3 rfl rfl (by first | exact Rd.obj (k := 0) rfl rfl | exact Rd.obj (k := 1) rfl rfl | exact Rd.obj (k := 2) rfl rfl | exact Rd.obj (k := 3) rfl rfl | exact Rd.obj (k := 4) rfl rfl | exact Rd.imm (by assumption) | exact Rd.sl (k := 0) rfl (by assumption) | exact Rd.sl (k := 1) rfl (by assumption) | exact Rd.sl (k := 2) rfl (by assumption) | exact Rd.sl (k := 3) rfl (by assumption))) ?_
          refine PW.ex rfl rfl rfl rfl (Ex.eql rfl rfl (by first | exact decide_eq_true (by omega) | exact decide_eq_false (by omega) | rfl)) ?_
          refine PW.ex rfl rfl rfl rfl (by first | exact Ex.pick_yes rfl rfl | exact Ex.pick_no rfl rfl) ?_
          refine PW.ex rfl rfl rfl rfl (by first | exact Ex.pick_yes rfl rfl | exact Ex.pick_no rfl rfl) ?_
          refine PW.ex rfl rfl rfl rfl (Ex.assign rfl) ?_
          refine PW.nil ?_
          refine LW.nil fun aa ha => hKb _ _ _ ?_ aa ha
          refine CW.region [0, 1, 2] rfl ?_
          refine LW.ex rfl rfl rfl rfl (Ex.move rfl) hS.rd ?_
          refine LW.ex rfl rfl rfl rfl (Ex.add rfl rfl (by first | exact inc64 (by omega) | exact addN (by omega) | exact w64 (by omega) (by omega))) hS.rd ?_
          refine LW.ex rfl rfl rfl rfl (Ex.assign rfl) hS.rd ?_
          refine LW.nil fun aa ha => ?_
          refine ⟨ds.length - (i + 1), _, by omega, ⟨i + 1, by omega, rfl, rfl, hS⟩, ha.sub ⟨rfl, rfl, rfl, rfl, rfl, rfl, by rw [hstep]; rw [hch, decide_eq_true hke, decide_eq_false hz]; rfl, rfl, trivial⟩⟩
      · have hke' : ¬ (ds[i].Key.toNat : Int) = t.Key.toNat := fun e => hke (u8_inj e)
        have hS := hS.drew
        refine CW.draw 20 (.ex 0 <| .ex 1 <| .ex 2 <| .ex 3 <| .ex 4 <| .ex 5 <| .ex 6 <| .ex 7 <| .ex 8 <| .ex 9 <| .ex 10 <| .ex 11 <| .ex 12 <| .ex 13 <| .ex 14 <| .ex 15 <| .ex 16 <| .ex 17 <| .ex 18 <| .ex 19 <| .done) [] (Rd _ _) mixed (by kernel_rfl) rfl rfl hS.rd ?_
        refine PW.ex rfl rfl rfl rfl (Ex.move rfl) ?_
        refine PW.ex rfl rfl rfl rfl (Ex.move rfl) ?_
        refine PW.ex rfl rfl rfl rfl (Ex.move rfl) ?_
        refine PW.ex rfl rfl rfl rfl (Ex.move rfl) ?_
        refine PW.ex rfl rfl rfl rfl (Ex.indexSl Try.underlying35 ti55 rfl rfl rfl (by omega)) ?_
        refine PW.ex rfl rfl rfl rfl (Ex.fieldA Try.underlying55 rfl ti5 rfl) ?_
        refine PW.ex rfl rfl rfl rfl (Ex.load1 ti5 rfl rfl (by first | exact Rd.obj (k := 0) rfl rfl | exact Rd.obj (k := 1) rfl rfl | exact Rd.obj (k := 2) rfl rfl | exact Rd.obj (k := 3) rfl rfl | exact Rd.obj (k := 4) rfl rfl | exact Rd.imm (by assumption) | exact Rd.sl (k := 0) rfl (by assumption) | exact Rd.sl (k := 1) rfl (by assumption) | exact Rd.sl (k := 2) rfl (by assumption) | exact Rd.sl (k := 3) rfl (by assumption))) ?_
        refine PW.ex rfl rfl rfl rfl (Ex.fieldA Try.underlying61 rfl ti5 rfl) ?_
        refine PW.ex rfl rfl rfl rfl (Ex.load1 ti5 rfl rfl (by first | exact Rd.obj (k := 0) rfl rfl | exact Rd.obj (k := 1) rfl rfl | exact Rd.obj (k := 2) rfl rfl | exact Rd.obj (k := 3) rfl rfl | exact Rd.obj (k := 4) rfl rfl | exact Rd.imm (by assumption) | exact Rd.sl (k := 0) rfl (by assumption) | exact Rd.sl (k := 1) rfl (by assumption) | exact Rd.sl (k := 2) rfl (by assumption) | exact Rd.sl (k := 3) rfl (by assumption))) ?_
        refine PW.ex rfl rfl rfl rfl (Ex.eql rfl rfl (by first | exact decide_eq_true (by omega) | exact decide_eq_false (by omega) | rfl)) ?_
        refine PW.ex rfl rfl rfl rfl (Ex.move rfl) ?_
        refine PW.skip rfl rfl rfl rfl ?_
        refine PW.skip rfl rfl rfl rfl ?_
        refine PW.skip rfl rfl rfl rfl ?_
        refine PW.skip rfl rfl rfl rfl ?_
        refine PW.skip rfl rfl rfl rfl ?_
        refine PW.skip rfl rfl rfl rfl ?_
        refine PW.ex rfl rfl rfl rfl (by first | exact Ex.pick_yes rfl rfl | exact Ex.pick_no rfl rfl) ?_
        refine PW.ex rfl rfl rfl rfl (by first | exact Ex.pick_yes rfl rfl | exact Ex.pick_no rfl rfl) ?_
        refine PW.ex rfl rfl rfl rfl (Ex.assign rfl) ?_
        refine PW.nil ?_
        refine LW.nil fun aa ha => hKb _ _ _ ?_ aa ha
        refine CW.region [0, 1, 2] rfl ?_
        refine LW.ex rfl rfl rfl rfl (Ex.move rfl) hS.rd ?_
        refine LW.ex rfl rfl rfl rfl (Ex.add rfl rfl (by first | exact inc64 (by omega) | exact addN (by omega) | exact w64 (by omega) (by omega))) hS.rd ?_
        refine LW.ex rfl rfl rfl rfl (Ex.assign rfl) hS.rd ?_
        refine LW.nil fun aa ha => ?_
        refine ⟨ds.length - (i + 1), _, by omega, ⟨i + 1, by omega, rfl, rfl, hS⟩, ha.sub ⟨rfl, rfl, rfl, rfl, rfl, rfl, by rw [hstep]; rw [hch, decide_eq_false hke]; rfl, rfl, trivial⟩⟩
  · skip
    refine CW.seq fun K13o hK13o => ?_
    refine CW.seq fun K13 hK13 => ?_
    refine CW.region [0, 1, 2, 3] rfl ?_
    refine LW.ex rfl rfl rfl rfl (Ex.move rfl) hS.rd ?_
    refine LW.ex rfl rfl rfl rfl (Ex.move rfl) hS.rd ?_
    refine LW.ex rfl rfl rfl rfl (Ex.lenSl rfl Try.underlying35 rfl) hS.rd ?_
    refine LW.ex rfl rfl rfl rfl (Ex.lss rfl rfl (by first | exact decide_eq_true (by omega) | exact decide_eq_false (by omega) | rfl)) hS.rd ?_
    refine LW.nil fun aa ha => hK13 _ _ _ ?_ aa ha
    refine CW.no rfl ?_
    refine CW.exit fun aa ha => hK12o _ _ _ ?_ aa ha
    have htk : ds.take i = ds := List.take_of_length_le (by omega)
    rw [htk, hfree]
    refine CW.seq fun K16 hK16 => ?_
    refine CW.region [0, 1, 2, 3, 4, 5, 6, 7] rfl ?_
    refine LW.ex rfl rfl rfl rfl (Ex.load3c ti32 rfl rfl (by first | exact Rd.obj (k := 0) rfl rfl | exact Rd.obj (k := 1) rfl rfl | exact Rd.obj (k := 2) rfl rfl | exact Rd.obj (k := 3) rfl rfl | exact Rd.obj (k := 4) rfl rfl | exact Rd.imm (by assumption) | exact Rd.sl (k := 0) rfl (by assumption) | exact Rd.sl (k := 1) rfl (by assumption) | exact Rd.sl (k := 2) rfl (by assumption) | exact Rd.sl (k := 3) rfl (by assumption)) (by first | exact Rd.obj (k := 0) rfl rfl | exact Rd.obj (k := 1) rfl rfl | exact Rd.obj (k := 2) rfl rfl | exact Rd.obj (k := 3) rfl rfl | exact Rd.obj (k := 4) rfl rfl | exact Rd.imm (by assumption) | exact Rd.sl (k := 0) rfl (by assumption) | exact Rd.sl (k := 1) rfl (by assumption) | exact Rd.sl (k := 2) rfl (by assumption) | exact Rd.sl (k := 3) rfl (by assumption)) (by first | exact Rd.obj (k := 0) rfl rfl | exact Rd.obj (k := 1) rfl rfl | exact Rd.obj (k := 2) rfl rfl | exact Rd.obj (k := 3) rfl rfl | exact Rd.obj (k := 4) rfl rfl | exact Rd.imm (by assumption) | exact Rd.sl (k := 0) rfl (by assumption) | exact Rd.sl (k := 1) rfl (by assumption) | exact Rd.sl (k := 2) rfl (by assumption) | exact Rd.sl (k := 3) rfl (by assumption))) hS.rd ?_
    refine LW.ex rfl rfl rfl rfl (Ex.move rfl) hS.rd ?_
    refine LW.hv rfl rfl rfl rfl (Hv.callV hS rfl rfl rfl cb13 (match_c b p _ _ _ _ _ _ hS.imm hb hp gB (by omega))) fun v w92 ⟨μ92, hv92, hm92, hS⟩ => ?_
    obtain ⟨zs, adz, cz, e92, rfl, hz, hrelz⟩ := hv92
    refine LW.ex rfl rfl rfl rfl (Ex.move rfl) hS.rd ?_
    refine LW.ex rfl rfl rfl rfl (Ex.extract rfl rfl) hS.rd ?_
    refine LW.ex rfl rfl rfl rfl (Ex.extract rfl rfl) hS.rd ?_
    refine LW.ex rfl rfl rfl rfl (Ex.assign rfl) hS.rd ?_
    refine LW.ex rfl rfl rfl rfl (Ex.assign rfl) hS.rd ?_
    refine LW.nil fun aa ha => hK16 _ _ _ ?_ aa ha
    by_cases hn : b.length = 0
    · have he : e92 = 220 := rel_none hrelz (fun h => by omega)
      subst he
      refine CW.seq fun K17o hK17o => ?_
      refine CW.seq fun K17 hK17 => ?_
      refine CW.region [0, 1] rfl ?_
      refine LW.ex rfl rfl rfl rfl (Ex.move rfl) hS.rd ?_
      refine LW.ex rfl rfl rfl rfl (Ex.neq rfl rfl (by first | exact decide_eq_true (by omega) | exact decide_eq_false (by omega) | rfl)) hS.rd ?_
      refine LW.nil fun aa ha => hK17 _ _ _ ?_ aa ha
      refine CW.yes rfl ?_
      refine CW.seq fun K18 hK18 => ?_
      refine CW.region [0, 1, 2, 3, 4, 5, 6, 7, 8, 9, 10] rfl ?_
      refine LW.ex rfl rfl rfl rfl (Ex.move rfl) hS.rd ?_
      refine LW.ex rfl rfl rfl rfl (Ex.move rfl) hS.rd ?_
      refine LW.ex rfl rfl rfl rfl (Ex.move rfl) hS.rd ?_
      refine LW.ex rfl rfl rfl rfl (by first | exact Ex.pick_yes rfl rfl | exact Ex.pick_no rfl rfl) hS.rd ?_
      refine LW.ex rfl rfl rfl rfl (Ex.move rfl) hS.rd ?_
      refine LW.ex rfl rfl rfl rfl (Ex.fieldA Try.underlying32 rfl ti29 rfl) hS.rd ?_
      refine LW.ex rfl rfl rfl rfl (Ex.load1 ti29 rfl rfl (by first | exact Rd.obj (k := 0) rfl rfl | exact Rd.obj (k := 1) rfl rfl | exact Rd.obj (k := 2) rfl rfl | exact Rd.obj (k := 3) rfl rfl | exact Rd.obj (k := 4) rfl rfl | exact Rd.imm (by assumption) | exact Rd.sl (k := 0) rfl (by assumption) | exact Rd.sl (k := 1) rfl (by assumption) | exact Rd.sl (k := 2) rfl (by assumption) | exact Rd.sl (k := 3) rfl (by assumption))) hS.rd ?_
      refine LW.ex rfl rfl rfl rfl (Ex.lenSl rfl Try.underlying29 rfl) hS.rd ?_
      refine LW.ex rfl rfl rfl rfl (Ex.eql rfl rfl (by first | exact decide_eq_true (by omega) | exact decide_eq_false (by omega) | rfl)) hS.rd ?_
      refine LW.ex rfl rfl rfl rfl (by first | exact Ex.pick_yes rfl rfl | exact Ex.pick_no rfl rfl) hS.rd ?_
      refine LW.ex rfl rfl rfl rfl (Ex.assign rfl) hS.rd ?_
      refine LW.nil fun aa ha => hK18 _ _ _ ?_ aa ha
      refine CW.ret fun aa ha => ?_
      exact ret_one ha Try.results9 rfl hS.retS
    obtain ⟨rfl, hcz⟩ := chosen_of fB gp (by omega) hrelz
    clear hrelz
    have hzl : zs.length ≤ 8 := by rw [hcz.len]; omega
    have ha5 := ha5.mono hm92
    refine CW.seq fun K17o hK17o => ?_
    refine CW.seq fun K17 hK17 => ?_
    refine CW.region [0, 1] rfl ?_
    refine LW.ex rfl rfl rfl rfl (Ex.move rfl) hS.rd ?_
    refine LW.ex rfl rfl rfl rfl (Ex.neq rfl rfl (by first | exact decide_eq_true (by omega) | exact decide_eq_false (by omega) | rfl)) hS.rd ?_
    refine LW.nil fun aa ha => hK17 _ _ _ ?_ aa ha
    refine CW.no rfl (CW.skip fun aa ha => hK17o _ _ _ ?_ aa ha)
    refine CW.seq fun K19o hK19o => ?_
    refine CW.seq fun K19 hK19 => ?_
    refine CW.region [0] rfl ?_
    refine LW.ex rfl rfl rfl rfl (Ex.assign rfl) hS.rd ?_
    refine LW.nil fun aa ha => hK19 _ _ _ ?_ aa ha
    refine CW.block ?_
    refine CW.loop (fun q m w1 => ∃ (i : Nat), i ≤ zs.length ∧ q = zs.length - i ∧
        m = [(7, .bool true), (10, .pointer (some ⟨b10, 0, none⟩)), (14, .slice ada az.length ca), (16, .bool true), (18, .slice adz zs.length cz), (20, .int .i64 i)] ∧
        St w w1 μ92 [Own.obj b10 [.int .u8 t.Key.toNat, .slice adt t.P.length ct] 61, Own.obj b8 [.slice none 0 0, .slice adb b.length cb, .slice none 0 0] 32]) zs.length
      ⟨0, by omega, by omega, rfl, hS⟩ ⟨rfl, rfl, rfl, rfl, rfl, rfl, trivial⟩ ?_
    clear hS
    rintro q m w1 ⟨i, hi, hq, rfl, hS⟩
    by_cases h1 : i < zs.length
    · skip
      refine CW.seq fun K20o hK20o => ?_
      refine CW.seq fun K20 hK20 => ?_
      refine CW.region [0, 1, 2, 3] rfl ?_
      refine LW.ex rfl rfl rfl rfl (Ex.move rfl) hS.rd ?_
      refine LW.ex rfl rfl rfl rfl (Ex.move rfl) hS.rd ?_
      refine LW.ex rfl rfl rfl rfl (Ex.lenSl rfl Try.underlying35 rfl) hS.rd ?_
      refine LW.ex rfl rfl rfl rfl (Ex.lss rfl rfl (by first | exact decide_eq_true (by omega) | exact decide_eq_false (by omega) | rfl)) hS.rd ?_
      refine LW.nil fun aa ha => hK20 _ _ _ ?_ aa ha
      refine CW.yes rfl ?_
      refine CW.skip fun aa ha => hK20o _ _ _ ?_ aa ha
      obtain ⟨bz, oz, rfl, hzk, hzc⟩ := hz.at h1
      have hzi := hcz.cost _ (List.getElem_mem h1)
      have hmore := cost_more (b := b) (t := t) fp fT (k := zs[i].Key) (by rw [hzi.2]; exact hzi.1)
      rw [hzi.2] at hmore
      have hall := chosen_all hca (letters_seven p sC) (letter_of fC hmore.1)
      have hhas : hasKey az zs[i].Key = true := List.any_eq_true.2 ⟨_, hall, by simp⟩
      generalize zs[i].Key = kz at *
      refine CW.seq fun Kb hKb => ?_
      refine CW.block ?_
      refine CW.seq fun K22 hK22 => ?_
      refine CW.region [0] rfl ?_
      refine LW.ex rfl rfl rfl rfl (Ex.assign rfl) hS.rd ?_
      refine LW.nil fun aa ha => hK22 _ _ _ ?_ aa ha
      refine CW.seq fun K23o hK23o => ?_
      refine CW.seq fun K23 hK23 => ?_
      refine CW.region [0] rfl ?_
      refine LW.ex rfl rfl rfl rfl (Ex.assign rfl) hS.rd ?_
      refine LW.nil fun aa ha => hK23 _ _ _ ?_ aa ha
      refine CW.block ?_
      refine CW.loop (fun q m w1 => ∃ (j : Nat), j ≤ az.length ∧ q = az.length - j ∧
          m = [(7, .bool true), (10, .pointer (some ⟨b10, 0, none⟩)), (14, .slice ada az.length ca), (16, .bool true), (18, .slice (some ⟨bz, oz, none⟩) zs.length cz), (20, .int .i64 i), (21, .bool (hasKey (az.take j) kz)), (22, .int .i64 j)] ∧
          St w w1 μ92 [Own.obj b10 [.int .u8 t.Key.toNat, .slice adt t.P.length ct] 61, Own.obj b8 [.slice none 0 0, .slice adb b.length cb, .slice none 0 0] 32]) az.length
        ⟨0, by omega, by omega, rfl, hS⟩ ⟨rfl, rfl, rfl, rfl, rfl, rfl, rfl, rfl, trivial⟩ ?_
      clear hS
      rintro q m w1 ⟨j, hj, hq, rfl, hS⟩
      by_cases h2 : j < az.length
      · skip
        refine CW.seq fun K24o hK24o => ?_
        refine CW.seq fun K24 hK24 => ?_
        refine CW.region [0, 1, 2, 3] rfl ?_
        refine LW.ex rfl rfl rfl rfl (Ex.move rfl) hS.rd ?_
        refine LW.ex rfl rfl rfl rfl (Ex.move rfl) hS.rd ?_
        refine LW.ex rfl rfl rfl rfl (Ex.lenSl rfl Try.underlying35 rfl) hS.rd ?_
        refine LW.ex rfl rfl rfl rfl (Ex.lss rfl rfl (by first | exact decide_eq_true (by omega) | exact decide_eq_false (by omega) | rfl)) hS.rd ?_
        refine LW.nil fun aa ha => hK24 _ _ _ ?_ aa ha
        refine CW.yes rfl ?_
        refine CW.skip fun aa ha => hK24o _ _ _ ?_ aa ha
        obtain ⟨by_, oy, rfl, hyk, hyc⟩ := ha5.at h2
        have hyi := hca.cost _ (List.getElem_mem h2)
        have hstep : hasKey (az.take (j + 1)) kz = (hasKey (az.take j) kz || decide (az[j].Key = kz)) := by
          unfold hasKey; rw [List.take_succ_eq_append_getElem h2, List.any_append]; simp
        refine CW.seq fun Kc hKc => ?_
        refine CW.block ?_
        by_cases hke : az[j].Key = kz
        · have hke' : (az[j].Key.toNat : Int) = kz.toNat := by rw [hke]
          have hcst : az[j].Cost = costOf (b ++ [t]) p kz := by rw [← hke]; exact hyi.2.symm
          refine CW.seq fun K26 hK26 => ?_
          have hS := hS.drew
          refine CW.draw 11 (.ex 0 <| .ex 1 <| .ex 2 <| .ex 3 <| .ex 4 <| .ex 5 <| .ex 6 <| .ex 7 <| .ex 8 <| .ex 9 <| .ex 10 <| .done) [] (Rd _ _) mixed (by kernel_rfl) rfl rfl hS.rd ?_
          refine PW.ex rfl rfl rfl rfl (Ex.move rfl) ?_
          refine PW.ex rfl rfl rfl rfl (Ex.move rfl) ?_
          refine PW.ex rfl rfl rfl rfl (Ex.indexSl Try.underlying35 ti55 rfl rfl rfl (by omega)) ?_
          refine PW.ex rfl rfl rfl rfl (Ex.fieldA Try.underlying55 rfl ti5 rfl) ?_
          refine PW.ex rfl rfl rfl rfl (Ex.load1 ti5 rfl rfl (by first | exact Rd.obj (k := 0) rfl rfl | exact Rd.obj (k := 1) rfl rfl | exact Rd.obj (k := 2) rfl rfl | exact Rd.obj (k := 3) rfl rfl | exact Rd.obj (k := 4) rfl rfl | exact Rd.imm (by assumption) | exact Rd.sl (k := 0) rfl (by assumption) | exact Rd.sl (k := 1) rfl (by assumption) | exact Rd.sl (k := 2) rfl (by assumption) | exact Rd.sl (k := 3) rfl (by assumption))) ?_
          refine PW.ex rfl rfl rfl rfl (Ex.move rfl) ?_
          refine PW.ex rfl rfl rfl rfl (Ex.move rfl) ?_
          refine PW.ex rfl rfl rfl rfl (Ex.indexSl Try.underlying35 ti55 rfl rfl rfl (by omega)) ?_
          refine PW.ex rfl rfl rfl rfl (Ex.fieldA Try.underlying55 rfl ti5 rfl) ?_
          refine PW.ex rfl rfl rfl rfl (Ex.load1 ti5 rfl rfl (by first | exact Rd.obj (k := 0) rfl rfl | exact Rd.obj (k := 1) rfl rfl | exact Rd.obj (k := 2) rfl rfl | exact Rd.obj (k := 3) rfl rfl | exact Rd.obj (k := 4) rfl rfl | exact Rd.imm (by assumption) | exact Rd.sl (k := 0) rfl (by assumption) | exact Rd.sl (k := 1) rfl (by assumption) | exact Rd.sl (k := 2) rfl (by assumption) | exact Rd.sl (k := 3) rfl (by assumption))) ?_
          refine PW.ex rfl rfl rfl rfl (Ex.eql rfl rfl (by first | exact decide_eq_true (by omega) | exact decide_eq_false (by omega) | rfl)) ?_
          refine PW.nil ?_
          refine LW.nil fun aa ha => hK26 _ _ _ ?_ aa ha
          refine CW.yes rfl ?_
          by_cases hceq : az[j].Cost = zs[i].Cost
          · skip
            have hS := hS.drew
            refine CW.draw 35 (.ex 0 <| .ex 1 <| .ex 2 <| .ex 3 <| .ex 4 <| .ex 5 <| .ex 6 <| .ex 7 <| .ex 8 <| .ex 9 <| .ex 10 <| .ex 11 <| .ex 12 <| .ex 13 <| .ex 14 <| .ex 15 <| .ex 16 <| .ex 17 <| .ex 18 <| .ex 19 <| .ex 20 <| .ex 21 <| .ex 22 <| .ex 23 <| .ex 24 <| .ex 25 <| .ex 26 <| .ex 27 <| .ex 28 <| .ex 29 <| .ex 30 <| .ex 31 <| .ex 32 <| .ex 33 <| .ex 34 <| .done) [] (Rd _ _) mixed (by kernel_rfl) rfl rfl hS.rd ?_
            refine PW.ex rfl rfl rfl rfl (Ex.move rfl) ?_
            refine PW.ex rfl rfl rfl rfl (Ex.move rfl) ?_
            refine PW.ex rfl rfl rfl rfl (Ex.indexSl Try.underlying35 ti55 rfl rfl rfl (by omega)) ?_
            refine PW.ex rfl rfl rfl rfl (Ex.fieldA Try.underlying55 rfl ti3 rfl) ?_
            refine PW.ex rfl rfl rfl rfl (Ex.load1 ti3 rfl rfl (by first | exact Rd.obj (k := 0) rfl rfl | exact Rd.obj (k := 1) rfl rfl | exact Rd.obj (k := 2) rfl rfl | exact Rd.obj (k := 3) rfl rfl | exact Rd.obj (k := 4) rfl rfl | exact Rd.imm (by assumption) | exact Rd.sl (k := 0) rfl (by assumption) | exact Rd.sl (k := 1) rfl (by assumption) | exact Rd.sl (k := 2) rfl (by assumption) | exact Rd.sl (k := 3) rfl (by assumption))) ?_
            refine PW.ex rfl rfl rfl rfl (Ex.move rfl) ?_
            refine PW.ex rfl rfl rfl rfl (Ex.move rfl) ?_
            refine PW.ex rfl rfl rfl rfl (Ex.indexSl Try.underlying35 ti55 rfl rfl rfl (by omega)) ?_
            refine PW.ex rfl rfl rfl rfl (Ex.fieldA Try.underlying55 rfl ti3 rfl) ?_
            refine PW.ex rfl rfl rfl rfl (Ex.load1 ti3 rfl rfl (by first | exact Rd.obj (k := 0) rfl rfl | exact Rd.obj (k := 1) rfl rfl | exact Rd.obj (k := 2) rfl rfl | exact Rd.obj (k := 3) rfl rfl | exact Rd.obj (k := 4) rfl rfl | exact Rd.imm (by assumption) | exact Rd.sl (k := 0) rfl (by assumption) | exact Rd.sl (k := 1) rfl (by assumption) | exact Rd.sl (k := 2) rfl (by assumption) | exact Rd.sl (k := 3) rfl (by assumption))) ?_
            refine PW.ex rfl rfl rfl rfl (Ex.eql rfl rfl (by first | exact decide_eq_true (by omega) | exact decide_eq_false (by omega) | rfl)) ?_
            refine PW.ex rfl rfl rfl rfl (Ex.move rfl) ?_
            refine PW.skip rfl rfl rfl rfl ?_
            refine PW.skip rfl rfl rfl rfl ?_
            refine PW.skip rfl rfl rfl rfl ?_
            refine PW.skip rfl rfl rfl rfl ?_
            refine PW.skip rfl rfl rfl rfl ?_
            refine PW.skip rfl rfl rfl rfl ?_
            refine PW.skip rfl rfl rfl rfl ?_
            refine PW.skip rfl rfl rfl rfl ?_
            refine PW.skip rfl rfl rfl rfl ?_
            refine PW.skip rfl rfl rfl rfl ?_
            refine PW.skip rfl rfl rfl rfl ?_
            refine PW.skip rfl rfl rfl rfl ?_
            refine PW.skip rfl rfl rfl rfl ?_
            refine PW.skip rfl rfl rfl rfl ?_
            refine PW.skip rfl rfl rfl rfl ?_
            refine PW.skip rfl rfl rfl rfl ?_
            refine PW.skip rfl rfl rfl rfl ?_
            refine PW.skip rfl rfl rfl rfl ?_
            refine PW.skip rfl rfl rfl rfl ?_
            refine PW.skip rfl rfl rfl rfl ?_
            refine PW.skip rfl rfl rfl rfl ?_
            refine PW.ex rfl rfl rfl rfl (by first | exact Ex.pick_yes rfl rfl | exact Ex.pick_no rfl rfl) ?_
            refine PW.ex rfl rfl rfl rfl (Ex.assign rfl) ?_
            refine PW.nil ?_
            refine LW.nil fun aa ha => hKc _ _ _ ?_ aa ha
            refine CW.region [0, 1, 2] rfl ?_
            refine LW.ex rfl rfl rfl rfl (Ex.move rfl) hS.rd ?_
            refine LW.ex rfl rfl rfl rfl (Ex.add rfl rfl (by first | exact inc64 (by omega) | exact addN (by omega) | exact w64 (by omega) (by omega))) hS.rd ?_
            refine LW.ex rfl rfl rfl rfl (Ex.assign rfl) hS.rd ?_
            refine LW.nil fun aa ha => ?_
            refine ⟨az.length - (j + 1), _, by omega, ⟨j + 1, by omega, rfl, rfl, hS⟩, ha.sub ⟨rfl, rfl, rfl, rfl, rfl, rfl, by rw [hstep]; rw [decide_eq_true hke, Bool.or_true]; rfl, rfl, trivial⟩⟩
          · have hm : kz = t.Key ∧ az[j].Cost < zs[i].Cost := by
              rcases hmore.2 with h | h
              · exact absurd (hcst.trans h) hceq
              · exact ⟨h.1, by rw [hcst]; exact h.2⟩
            have hkt : (az[j].Key.toNat : Int) = t.Key.toNat := by rw [hke, hm.1]
            have hlt := hm.2
            have hS := hS.drew
            refine CW.draw 35 (.ex 0 <| .ex 1 <| .ex 2 <| .ex 3 <| .ex 4 <| .ex 5 <| .ex 6 <| .ex 7 <| .ex 8 <| .ex 9 <| .ex 10 <| .ex 11 <| .ex 12 <| .ex 13 <| .ex 14 <| .ex 15 <| .ex 16 <| .ex 17 <| .ex 18 <| .ex 19 <| .ex 20 <| .ex 21 <| .ex 22 <| .ex 23 <| .ex 24 <| .ex 25 <| .ex 26 <| .ex 27 <| .ex 28 <| .ex 29 <| .ex 30 <| .ex 31 <| .ex 32 <| .ex 33 <| .ex 34 <| .done) [] (Rd _ _) mixed (by kernel_rfl) rfl rfl hS.rd ?_
            refine PW.ex rfl rfl rfl rfl (Ex.move rfl) ?_
            refine PW.ex rfl rfl rfl rfl (Ex.move rfl) ?_
            refine PW.ex rfl rfl rfl rfl (Ex.indexSl Try.underlying35 ti55 rfl rfl rfl (by omega)) ?_
            refine PW.ex rfl rfl rfl rfl (Ex.fieldA Try.underlying55 rfl ti3 rfl) ?_
            refine PW.ex rfl rfl rfl rfl (Ex.load1 ti3 rfl rfl (by first | exact Rd.obj (k := 0) rfl rfl | exact Rd.obj (k := 1) rfl rfl | exact Rd.obj (k := 2) rfl rfl | exact Rd.obj (k := 3) rfl rfl | exact Rd.obj (k := 4) rfl rfl | exact Rd.imm (by assumption) | exact Rd.sl (k := 0) rfl (by assumption) | exact Rd.sl (k := 1) rfl (by assumption) | exact Rd.sl (k := 2) rfl (by assumption) | exact Rd.sl (k := 3) rfl (by assumption))) ?_
            refine PW.ex rfl rfl rfl rfl (Ex.move rfl) ?_
            refine PW.ex rfl rfl rfl rfl (Ex.move rfl) ?_
            refine PW.ex rfl rfl rfl rfl (Ex.indexSl Try.underlying35 ti55 rfl rfl rfl (by omega)) ?_
            refine PW.ex rfl rfl rfl rfl (Ex.fieldA Try.underlying55 rfl ti3 rfl) ?_
            refine PW.ex rfl rfl rfl rfl (Ex.load1 ti3 rfl rfl (by first | exact Rd.obj (k := 0) rfl rfl | exact Rd.obj (k := 1) rfl rfl | exact Rd.obj (k := 2) rfl rfl | exact Rd.obj (k := 3) rfl rfl | exact Rd.obj (k := 4) rfl rfl | exact Rd.imm (by assumption) | exact Rd.sl (k := 0) rfl (by assumption) | exact Rd.sl (k := 1) rfl (by assumption) | exact Rd.sl (k := 2) rfl (by assumption) | exact Rd.sl (k := 3) rfl (by assumption))) ?_
            refine PW.ex rfl rfl rfl rfl (Ex.eql rfl rfl (by first | exact decide_eq_true (by omega) | exact decide_eq_false (by omega) | rfl)) ?_
            refine PW.ex rfl rfl rfl rfl (Ex.move rfl) ?_
            refine PW.ex rfl rfl rfl rfl (Ex.move rfl) ?_
            refine PW.ex rfl rfl rfl rfl (Ex.move rfl) ?_
            refine PW.ex rfl rfl rfl rfl (Ex.indexSl Try.underlying35 ti55 rfl rfl rfl (by omega)) ?_
            refine PW.ex rfl rfl rfl rfl (Ex.fieldA Try.underlying55 rfl ti5 rfl) ?_
            refine PW.ex rfl rfl rfl rfl (Ex.load1 ti5 rfl rfl (by first | exact Rd.obj (k := 0) rfl rfl | exact Rd.obj (k := 1) rfl rfl | exact Rd.obj (k := 2) rfl rfl | exact Rd.obj (k := 3) rfl rfl | exact Rd.obj (k := 4) rfl rfl | exact Rd.imm (by assumption) | exact Rd.sl (k := 0) rfl (by assumption) | exact Rd.sl (k := 1) rfl (by assumption) | exact Rd.sl (k := 2) rfl (by assumption) | exact Rd.sl (k := 3) rfl (by assumption))) ?_
            refine PW.ex rfl rfl rfl rfl (Ex.fieldA Try.underlying61 rfl ti5 rfl) ?_
            refine PW.ex rfl rfl rfl rfl (Ex.load1 ti5 rfl rfl (by first | exact Rd.obj (k := 0) rfl rfl | exact Rd.obj (k := 1) rfl rfl | exact Rd.obj (k := 2) rfl rfl | exact Rd.obj (k := 3) rfl rfl | exact Rd.obj (k := 4) rfl rfl | exact Rd.imm (by assumption) | exact Rd.sl (k := 0) rfl (by assumption) | exact Rd.sl (k := 1) rfl (by assumption) | exact Rd.sl (k := 2) rfl (by assumption) | exact Rd.sl (k := 3) rfl (by assumption))) ?_
            refine PW.ex rfl rfl rfl rfl (Ex.eql rfl rfl (by first | exact decide_eq_true (by omega) | exact decide_eq_false (by omega) | rfl)) ?_
            refine PW.ex rfl rfl rfl rfl (Ex.move rfl) ?_
            refine PW.ex rfl rfl rfl rfl (Ex.move rfl) ?_
            refine PW.ex rfl rfl rfl rfl (Ex.move rfl) ?_
            refine PW.ex rfl rfl rfl rfl (Ex.indexSl Try.underlying35 ti55 rfl rfl rfl (by omega)) ?_
            refine PW.ex rfl rfl rfl rfl (Ex.fieldA Try.underlying55 rfl ti3 rfl) ?_
            refine PW.ex rfl rfl rfl rfl (Ex.load1 ti3 rfl rfl (by first | exact Rd.obj (k := 0) rfl rfl | exact Rd.obj (k := 1) rfl rfl | exact Rd.obj (k := 2) rfl rfl | exact Rd.obj (k := 3) rfl rfl | exact Rd.obj (k := 4) rfl rfl | exact Rd.imm (by assumption) | exact Rd.sl (k := 0) rfl (by assumption) | exact Rd.sl (k := 1) rfl (by assumption) | exact Rd.sl (k := 2) rfl (by assumption) | exact Rd.sl (k := 3) rfl (by assumption))) ?_
            refine PW.ex rfl rfl rfl rfl (Ex.move rfl) ?_
            refine PW.ex rfl rfl rfl rfl (Ex.move rfl) ?_
            refine PW.ex rfl rfl rfl rfl (Ex.indexSl Try.underlying35 ti55 rfl rfl rfl (by omega)) ?_
            refine PW.ex rfl rfl rfl rfl (Ex.fieldA Try.underlying55 rfl ti3 rfl) ?_
            refine PW.ex rfl rfl rfl rfl (Ex.load1 ti3 rfl rfl (by first | exact Rd.obj (k := 0) rfl rfl | exact Rd.obj (k := 1) rfl rfl | exact Rd.obj (k := 2) rfl rfl | exact Rd.obj (k := 3) rfl rfl | exact Rd.obj (k := 4) rfl rfl | exact Rd.imm (by assumption) | exact Rd.sl (k := 0) rfl (by assumption) | exact Rd.sl (k := 1) rfl (by assumption) | exact Rd.sl (k := 2) rfl (by assumption) | exact Rd.sl (k := 3) rfl (by assumption))) ?_
            refine PW.ex rfl rfl rfl rfl (Ex.lss rfl rfl (by first | exact decide_eq_true (by omega) | exact decide_eq_false (by omega) | rfl)) ?_
            refine PW.ex rfl rfl rfl rfl (by first | exact Ex.pick_yes rfl rfl | exact Ex.pick_no rfl rfl) ?_
            refine PW.ex rfl rfl rfl rfl (by first | exact Ex.pick_yes rfl rfl | exact Ex.pick_no rfl rfl) ?_
            refine PW.ex rfl rfl rfl rfl (Ex.assign rfl) ?_
            refine PW.nil ?_
            refine LW.nil fun aa ha => hKc _ _ _ ?_ aa ha
            refine CW.region [0, 1, 2] rfl ?_
            refine LW.ex rfl rfl rfl rfl (Ex.move rfl) hS.rd ?_
            refine LW.ex rfl rfl rfl rfl (Ex.add rfl rfl (by first | exact inc64 (by omega) | exact addN (by omega) | exact w64 (by omega) (by omega))) hS.rd ?_
            refine LW.ex rfl rfl rfl rfl (Ex.assign rfl) hS.rd ?_
            refine LW.nil fun aa ha => ?_
            refine ⟨az.length - (j + 1), _, by omega, ⟨j + 1, by omega, rfl, rfl, hS⟩, ha.sub ⟨rfl, rfl, rfl, rfl, rfl, rfl, by rw [hstep]; rw [decide_eq_true hke, Bool.or_true]; rfl, rfl, trivial⟩⟩
        · have hke' : ¬ (az[j].Key.toNat : Int) = kz.toNat := fun e => hke (u8_inj e)
          refine CW.seq fun K26 hK26 => ?_
          have hS := hS.drew
          refine CW.draw 11 (.ex 0 <| .ex 1 <| .ex 2 <| .ex 3 <| .ex 4 <| .ex 5 <| .ex 6 <| .ex 7 <| .ex 8 <| .ex 9 <| .ex 10 <| .done) [] (Rd _ _) mixed (by kernel_rfl) rfl rfl hS.rd ?_
          refine PW.ex rfl rfl rfl rfl (Ex.move rfl) ?_
          refine PW.ex rfl rfl rfl rfl (Ex.move rfl) ?_
          refine PW.ex rfl rfl rfl rfl (Ex.indexSl Try.underlying35 ti55 rfl rfl rfl (by omega)) ?_
          refine PW.ex rfl rfl rfl rfl (Ex.fieldA Try.underlying55 rfl ti5 rfl) ?_
          refine PW.ex rfl rfl rfl rfl (Ex.load1 ti5 rfl rfl (by first | exact Rd.obj (k := 0) rfl rfl | exact Rd.obj (k := 1) rfl rfl | exact Rd.obj (k := 2) rfl rfl | exact Rd.obj (k := 3) rfl rfl | exact Rd.obj (k := 4) rfl rfl | exact Rd.imm (by assumption) | exact Rd.sl (k := 0) rfl (by assumption) | exact Rd.sl (k := 1) rfl (by assumption) | exact Rd.sl (k := 2) rfl (by assumption) | exact Rd.sl (k := 3) rfl (by assumption))) ?_
          refine PW.ex rfl rfl rfl rfl (Ex.move rfl) ?_
          refine PW.ex rfl rfl rfl rfl (Ex.move rfl) ?_
          refine PW.ex rfl rfl rfl rfl (Ex.indexSl Try.underlying35 ti55 rfl rfl rfl (by omega)) ?_
          refine PW.ex rfl rfl rfl rfl (Ex.fieldA Try.underlying55 rfl ti5 rfl) ?_
          refine PW.ex rfl rfl rfl rfl (Ex.load1 ti5 rfl rfl (by first | exact Rd.obj (k := 0) rfl rfl | exact Rd.obj (k := 1) rfl rfl | exact Rd.obj (k := 2) rfl rfl | exact Rd.obj (k := 3) rfl rfl | exact Rd.obj (k := 4) rfl rfl | exact Rd.imm (by assumption) | exact Rd.sl (k := 0) rfl (by assumption) | exact Rd.sl (k := 1) rfl (by assumption) | exact Rd.sl (k := 2) rfl (by assumption) | exact Rd.sl (k := 3) rfl (by assumption))) ?_
          refine PW.ex rfl rfl rfl rfl (Ex.eql rfl rfl (by first | exact decide_eq_true (by omega) | exact decide_eq_false (by omega) | rfl)) ?_
          refine PW.nil ?_
          refine LW.nil fun aa ha => hK26 _ _ _ ?_ aa ha
          refine CW.no rfl (CW.skip fun aa ha => hKc _ _ _ ?_ aa ha)
          refine CW.region [0, 1, 2] rfl ?_
          refine LW.ex rfl rfl rfl rfl (Ex.move rfl) hS.rd ?_
          refine LW.ex rfl rfl rfl rfl (Ex.add rfl rfl (by first | exact inc64 (by omega) | exact addN (by omega) | exact w64 (by omega) (by omega))) hS.rd ?_
          refine LW.ex rfl rfl rfl rfl (Ex.assign rfl) hS.rd ?_
          refine LW.nil fun aa ha => ?_
          refine ⟨az.length - (j + 1), _, by omega, ⟨j + 1, by omega, rfl, rfl, hS⟩, ha.sub ⟨rfl, rfl, rfl, rfl, rfl, rfl, by rw [hstep]; rw [decide_eq_false hke, Bool.or_false]; rfl, rfl, trivial⟩⟩
      · skip
        refine CW.seq fun K24o hK24o => ?_
        refine CW.seq fun K24 hK24 => ?_
        refine CW.region [0, 1, 2, 3] rfl ?_
        refine LW.ex rfl rfl rfl rfl (Ex.move rfl) hS.rd ?_
        refine LW.ex rfl rfl rfl rfl (Ex.move rfl) hS.rd ?_
        refine LW.ex rfl rfl rfl rfl (Ex.lenSl rfl Try.underlying35 rfl) hS.rd ?_
        refine LW.ex rfl rfl rfl rfl (Ex.lss rfl rfl (by first | exact decide_eq_true (by omega) | exact decide_eq_false (by omega) | rfl)) hS.rd ?_
        refine LW.nil fun aa ha => hK24 _ _ _ ?_ aa ha
        refine CW.no rfl ?_
        refine CW.exit fun aa ha => hK23o _ _ _ ?_ aa ha
        have htk : az.take j = az := List.take_of_length_le (by omega)
        rw [htk, hhas]
        refine CW.seq fun K28 hK28 => ?_
        refine CW.region [0, 1] rfl ?_
        refine LW.ex rfl rfl rfl rfl (Ex.move rfl) hS.rd ?_
        refine LW.ex rfl rfl rfl rfl (Ex.not rfl rfl) hS.rd ?_
        refine LW.nil fun aa ha => hK28 _ _ _ ?_ aa ha
        refine CW.no rfl (CW.skip fun aa ha => hKb _ _ _ ?_ aa ha)
        refine CW.region [0, 1, 2] rfl ?_
        refine LW.ex rfl rfl rfl rfl (Ex.move rfl) hS.rd ?_
        refine LW.ex rfl rfl rfl rfl (Ex.add rfl rfl (by first | exact inc64 (by omega) | exact addN (by omega) | exact w64 (by omega) (by omega))) hS.rd ?_
        refine LW.ex rfl rfl rfl rfl (Ex.assign rfl) hS.rd ?_
        refine LW.nil fun aa ha => ?_
        refine ⟨zs.length - (i + 1), _, by omega, ⟨i + 1, by omega, rfl, rfl, hS⟩, ha.sub ⟨rfl, rfl, rfl, rfl, rfl, rfl, trivial⟩⟩
    · skip
      refine CW.seq fun K20o hK20o => ?_
      refine CW.seq fun K20 hK20 => ?_
      refine CW.region [0, 1, 2, 3] rfl ?_
      refine LW.ex rfl rfl rfl rfl (Ex.move rfl) hS.rd ?_
      refine LW.ex rfl rfl rfl rfl (Ex.move rfl) hS.rd ?_
      refine LW.ex rfl rfl rfl rfl (Ex.lenSl rfl Try.underlying35 rfl) hS.rd ?_
      refine LW.ex rfl rfl rfl rfl (Ex.lss rfl rfl (by first | exact decide_eq_true (by omega) | exact decide_eq_false (by omega) | rfl)) hS.rd ?_
      refine LW.nil fun aa ha => hK20 _ _ _ ?_ aa ha
      refine CW.no rfl ?_
      refine CW.exit fun aa ha => hK19o _ _ _ ?_ aa ha
      refine CW.seq fun K30 hK30 => ?_
      refine CW.region [0, 1, 2, 3, 4] rfl ?_
      refine LW.ex rfl rfl rfl rfl (Ex.move rfl) hS.rd ?_
      refine LW.ex rfl rfl rfl rfl (Ex.move rfl) hS.rd ?_
      refine LW.ex rfl rfl rfl rfl (Ex.move rfl) hS.rd ?_
      refine LW.ex rfl rfl rfl rfl (by first | exact Ex.pick_yes rfl rfl | exact Ex.pick_no rfl rfl) hS.rd ?_
      refine LW.ex rfl rfl rfl rfl (Ex.assign rfl) hS.rd ?_
      refine LW.nil fun aa ha => hK30 _ _ _ ?_ aa ha
      refine CW.ret fun aa ha => ?_
      exact ret_one ha Try.results9 rfl hS.retS
end Go.Proofs.Ythbglfjajifkoaa
