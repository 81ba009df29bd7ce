/-
  Strokes: the walk of StrokePictures.
-/
import Derived.Test.YthbglfjajifkoaaStX
namespace Go.Proofs.Ythbglfjajifkoaa
open Go.RowKit Sy Go.Sort

theorem in_of {p : Pt} (h : inP p = true) : 0 ≤ p.X ∧ p.X ≤ 1000 ∧ 0 ≤ p.Y ∧ p.Y ≤ 1000 := by
  simp only [inP, Bool.and_eq_true, decide_eq_true_eq] at h; omega
theorem chg_fine {how : Nat} {c : Pt} {l : List Pt} (h : ∀ p ∈ l, inP p = true) (hc : 0 ≤ c.X ∧ c.X ≤ 255 ∧ 0 ≤ c.Y ∧ c.Y ≤ 255) (h0 : 0 < l.length) (h1 : l.length ≤ 30) : Fine (chg how c l) := by
  refine ⟨fun p hp => ?_, by rw [chg_len]; exact h1, by rw [chg_len]; exact h0⟩
  obtain ⟨i, hi, rfl⟩ := List.mem_map.1 hp
  have hi := List.mem_range.1 hi
  have hj : l.length - 1 - i < l.length := by omega
  have b1 := in_of (h _ (List.getElem_mem hi))
  have b2 := in_of (h _ (List.getElem_mem hj))
  unfold chgAt
  rw [getElem!_pos l i hi, getElem!_pos l _ hj]
  unfold Bd
  split
  · simp only; omega
  · split
    · simp only; omega
    · split
      · simp only; omega
      · omega
theorem dbl_fine {l : List Pt} (h : ∀ p ∈ l, inP p = true) (h0 : 0 < l.length) (h1 : l.length ≤ 30) : Fine (l.map dbl) := by
  refine ⟨fun p hp => ?_, by simpa using h1, by simpa using h0⟩
  obtain ⟨q, hq, rfl⟩ := List.mem_map.1 hp
  have b1 := in_of (h _ hq)
  unfold Bd dbl; simp only; omega

set_option maxRecDepth 100000 in
theorem law4_c (q0 q1 : List B2) (how : UInt8) (by_ : B2) (ad0 ad1 : Option Addr) (c0 c1 : Nat) (μ : Mem) (w : World) (hμ : Imm μ w) (hw0 : Sl μ ad0 c0 q0) (hw1 : Sl μ ad1 c1 q1) :
    Calls Try.prog 6 #[.agg #[.slice ad0 q0.length c0, .slice ad1 q1.length c1], .int .u8 how.toNat, .agg #[.int .u8 by_.a.toNat, .int .u8 by_.b.toNat]] w (RetS w (.bool true)) := by
  have hS := St.start w μ hμ
  have hba := by_.a.toNat_lt
  have hbb := by_.b.toNat_lt
  refine calls_start 105 [.agg #[.slice ad0 q0.length c0, .slice ad1 q1.length c1], .int .u8 how.toNat, .agg #[.int .u8 by_.a.toNat, .int .u8 by_.b.toNat]] Try.func6 rfl Try.ntmps6 rfl rfl ?_
  refine CW.seq fun K0 hK0 => ?_
  refine CW.region [0, 1, 2] rfl ?_
  refine LW.hv rfl rfl rfl rfl (Hv.box hS rfl) fun v w3 ⟨b3, hv, hb3, hS⟩ => ?_
  subst hv
  refine LW.hv rfl rfl rfl rfl (Hv.box hS rfl) fun v w5 ⟨b5, hv, hb5, hS⟩ => ?_
  subst hv
  refine LW.ex rfl rfl rfl rfl (Ex.assign rfl) hS.rd ?_
  refine LW.nil fun aa ha => hK0 _ _ _ ?_ aa ha
  refine CW.seq fun K1 hK1 => ?_
  refine CW.region [0, 1] rfl ?_
  refine LW.hv rfl rfl rfl rfl (Hv.callS hS rfl rfl rfl cb10 (sanity_c _)) fun v w15 ⟨hv, hS⟩ => ?_
  subst hv
  refine LW.ex rfl rfl rfl rfl (Ex.assign rfl) hS.rd ?_
  refine LW.nil fun aa ha => hK1 _ _ _ ?_ aa ha
  refine CW.seq fun K2 hK2 => ?_
  refine CW.region [0, 1, 2, 3] rfl ?_
  refine LW.ex rfl rfl rfl rfl (Ex.indexArr (j := 0) Try.underlying24 ti23 rfl rfl rfl (by omega)) hS.rd ?_
  refine LW.ex rfl rfl rfl rfl (Ex.load1 ti23 rfl rfl (by first | exact Rd.obj (k := 0) rfl rfl | exact Rd.obj (k := 1) rfl rfl | exact Rd.obj (k := 2) rfl rfl | exact Rd.obj (k := 3) rfl rfl | exact Rd.obj (k := 4) rfl rfl | exact Rd.imm (by assumption) | exact Rd.sl (k := 0) rfl (by assumption) | exact Rd.sl (k := 1) rfl (by assumption) | exact Rd.sl (k := 2) rfl (by assumption) | exact Rd.sl (k := 3) rfl (by assumption))) hS.rd ?_
  refine LW.hv rfl rfl rfl rfl (Hv.callV hS rfl rfl rfl cb11 (points_c q0 _ _ 8 1 _ _ hS.imm hw0 (by omega) (by omega) (by omega))) fun v w18 ⟨μ18, hv18, hm18, hS⟩ => ?_
  obtain ⟨ad18, c18, rfl, hpa⟩ := hv18
  refine LW.ex rfl rfl rfl rfl (Ex.assign rfl) hS.rd ?_
  refine LW.nil fun aa ha => hK2 _ _ _ ?_ aa ha
  have hw1 := hw1.mono hm18
  refine CW.seq fun K3 hK3 => ?_
  refine CW.region [0, 1, 2, 3] rfl ?_
  refine LW.ex rfl rfl rfl rfl (Ex.indexArr (j := 1) Try.underlying24 ti23 rfl rfl rfl (by omega)) hS.rd ?_
  refine LW.ex rfl rfl rfl rfl (Ex.load1 ti23 rfl rfl (by first | exact Rd.obj (k := 0) rfl rfl | exact Rd.obj (k := 1) rfl rfl | exact Rd.obj (k := 2) rfl rfl | exact Rd.obj (k := 3) rfl rfl | exact Rd.obj (k := 4) rfl rfl | exact Rd.imm (by assumption) | exact Rd.sl (k := 0) rfl (by assumption) | exact Rd.sl (k := 1) rfl (by assumption) | exact Rd.sl (k := 2) rfl (by assumption) | exact Rd.sl (k := 3) rfl (by assumption))) hS.rd ?_
  refine LW.hv rfl rfl rfl rfl (Hv.callV hS rfl rfl rfl cb11 (points_c q1 _ _ 8 1 _ _ hS.imm hw1 (by omega) (by omega) (by omega))) fun v w21 ⟨μ21, hv21, hm21, hS⟩ => ?_
  obtain ⟨ad21, c21, rfl, hpb⟩ := hv21
  refine LW.ex rfl rfl rfl rfl (Ex.assign rfl) hS.rd ?_
  refine LW.nil fun aa ha => hK3 _ _ _ ?_ aa ha
  have hpa := hpa.mono hm21
  have ia := points_in q0 8 (k := 1) (by omega) (by omega)
  have ib := points_in q1 8 (k := 1) (by omega) (by omega)
  have la := points_len q0 8 1
  have lb := points_len q1 8 1
  generalize points q0 8 1 = a at *
  generalize points q1 8 1 = b at *
  have la0 : 0 < a.length := by omega
  have lb0 : 0 < b.length := by omega
  have la8 : a.length ≤ 30 := by omega
  have lb8 : b.length ≤ 30 := by omega
  clear la lb
  have fa := fine_of_in ia la0 la8
  have fb := fine_of_in ib lb0 lb8
  have hmv : 0 ≤ (⟨by_.a.toNat, by_.b.toNat⟩ : Pt).X ∧ (⟨by_.a.toNat, by_.b.toNat⟩ : Pt).X ≤ 255 ∧ 0 ≤ (⟨by_.a.toNat, by_.b.toNat⟩ : Pt).Y ∧ (⟨by_.a.toNat, by_.b.toNat⟩ : Pt).Y ≤ 255 := by simp only; omega
  have fca := chg_fine (how := how.toNat % 4) ia hmv la0 la8
  have fcb := chg_fine (how := how.toNat % 4) ib hmv lb0 lb8
  have fda := dbl_fine ia la0 la8
  have fdb := dbl_fine ib lb0 lb8
  have hbmv : Bd 2000 ⟨by_.a.toNat, by_.b.toNat⟩ := by unfold Bd; simp only; omega
  refine CW.seq fun K4 hK4 => ?_
  refine CW.region [0, 1, 2, 3, 4, 5, 6, 7, 8] rfl ?_
  refine LW.ex rfl rfl rfl rfl (Ex.indexArr (j := 0) Try.underlying48 ti5 rfl rfl rfl (by omega)) hS.rd ?_
  refine LW.ex rfl rfl rfl rfl (Ex.load1 ti5 rfl rfl (by first | exact Rd.obj (k := 0) rfl rfl | exact Rd.obj (k := 1) rfl rfl | exact Rd.obj (k := 2) rfl rfl | exact Rd.obj (k := 3) rfl rfl | exact Rd.obj (k := 4) rfl rfl | exact Rd.imm (by assumption) | exact Rd.sl (k := 0) rfl (by assumption) | exact Rd.sl (k := 1) rfl (by assumption) | exact Rd.sl (k := 2) rfl (by assumption) | exact Rd.sl (k := 3) rfl (by assumption))) hS.rd ?_
  refine LW.ex rfl rfl rfl rfl (Ex.conv Try.underlying5 Try.underlying3 rfl (by first | exact w64 (by omega) (by omega) | exact wu8 (by omega) (by omega))) hS.rd ?_
  refine LW.ex rfl rfl rfl rfl (Ex.indexArr (j := 1) Try.underlying48 ti5 rfl rfl rfl (by omega)) hS.rd ?_
  refine LW.ex rfl rfl rfl rfl (Ex.load1 ti5 rfl rfl (by first | exact Rd.obj (k := 0) rfl rfl | exact Rd.obj (k := 1) rfl rfl | exact Rd.obj (k := 2) rfl rfl | exact Rd.obj (k := 3) rfl rfl | exact Rd.obj (k := 4) rfl rfl | exact Rd.imm (by assumption) | exact Rd.sl (k := 0) rfl (by assumption) | exact Rd.sl (k := 1) rfl (by assumption) | exact Rd.sl (k := 2) rfl (by assumption) | exact Rd.sl (k := 3) rfl (by assumption))) hS.rd ?_
  refine LW.ex rfl rfl rfl rfl (Ex.conv Try.underlying5 Try.underlying3 rfl (by first | exact w64 (by omega) (by omega) | exact wu8 (by omega) (by omega))) hS.rd ?_
  refine LW.ex rfl rfl rfl rfl (Ex.buildS st46 rfl rfl rfl) hS.rd ?_
  refine LW.hv rfl rfl rfl rfl (Hv.alloc ti46 hS) fun v w10 ⟨b10, hv, hb10, hS⟩ => ?_
  subst hv
  refine LW.hu rfl rfl rfl (Hv.storeN (k := 0) ti46 hS rfl rfl rfl rfl (by simp [Value.oneCell'])) fun _ w_8 hS => ?_
  dsimp only [List.set] at hS
  refine LW.nil fun aa ha => hK4 _ _ _ ?_ aa ha
  have hS := hS.drop 1 rfl
  dsimp only [List.eraseIdx] at hS
  have hS := hS.drop 1 rfl
  dsimp only [List.eraseIdx] at hS
  refine CW.seq fun K5 hK5 => ?_
  refine CW.region [0, 1, 2, 3] rfl ?_
  refine LW.ex rfl rfl rfl rfl (Ex.move rfl) hS.rd ?_
  refine LW.ex rfl rfl rfl rfl (Ex.move rfl) hS.rd ?_
  refine LW.hv rfl rfl rfl rfl (Hv.callS hS rfl rfl rfl cb15 (distance_c a b _ _ _ _ _ _ hS.imm hpa hpb fa.good.bd fb.good.bd fa.good.len fb.good.len)) fun v w31 ⟨hv, hS⟩ => ?_
  subst hv
  refine LW.ex rfl rfl rfl rfl (Ex.assign rfl) hS.rd ?_
  refine LW.nil fun aa ha => hK5 _ _ _ ?_ aa ha
  refine CW.seq fun K6 hK6 => ?_
  refine CW.region [0, 1, 2] rfl ?_
  refine LW.ex rfl rfl rfl rfl (Ex.build (ps := []) rfl (fun w => Go.run_build w 49 #[] #[.slice none 0 0, .slice none 0 0] (by kernel_rfl))) hS.rd ?_
  refine LW.hv rfl rfl rfl rfl (Hv.alloc ti49 hS) fun v w12 ⟨b12, hv, hb12, hS⟩ => ?_
  subst hv
  refine LW.hu rfl rfl rfl (Hv.storeN (k := 0) ti49 hS rfl rfl rfl rfl (by simp [Value.oneCell'])) fun _ w_2 hS => ?_
  dsimp only [List.set] at hS
  refine LW.nil fun aa ha => hK6 _ _ _ ?_ aa ha
  have hS := nil_sl 46 2 (nil_sl 46 2 hS)
  refine CW.seq fun K7o hK7o => ?_
  refine CW.seq fun K7 hK7 => ?_
  refine CW.region [0] rfl ?_
  refine LW.ex rfl rfl rfl rfl (Ex.assign rfl) hS.rd ?_
  refine LW.nil fun aa ha => hK7 _ _ _ ?_ aa ha
  refine CW.block ?_
  refine CW.loop (fun q m w1 => ∃ (i : Nat) (ado : Option Addr) (co : Nat) (us : List Value), i ≤ a.length ∧ q = a.length - i ∧
      m = [(1, .int .u8 how.toNat), (7, .bool true), (8, .slice ad18 a.length c18), (9, .slice ad21 b.length c21), (10, .pointer (some ⟨b10, 0, none⟩)), (11, .int .i64 (Dm a b)), (12, .pointer (some ⟨b12, 0, none⟩)), (13, .int .i64 i)] ∧
      St w w1 μ21 [Own.sl ado i co 46 2 us, Own.sl none 0 0 46 2 [], Own.obj b12 [.slice ado i co, .slice none 0 0] 49, Own.obj b10 [.int .i64 by_.a.toNat, .int .i64 by_.b.toNat] 46] ∧ RepL μ21 us ((a.take i).map dbl)) a.length
    ⟨0, _, _, [], by omega, by omega, rfl, hS, RepL.nil _⟩ ⟨rfl, rfl, rfl, rfl, rfl, rfl, rfl, rfl, trivial⟩ ?_
  clear hS
  rintro q m w1 ⟨i, ado, co, us, hi, hq, rfl, hS, hus⟩
  by_cases h1 : i < a.length
  · skip
    refine CW.seq fun K8o hK8o => ?_
    refine CW.seq fun K8 hK8 => ?_
    refine CW.region [0, 1, 2, 3] rfl ?_
    refine LW.ex rfl rfl rfl rfl (Ex.move rfl) hS.rd ?_
    refine LW.ex rfl rfl rfl rfl (Ex.move rfl) hS.rd ?_
    refine LW.ex rfl rfl rfl rfl (Ex.lenSl rfl Try.underlying26 rfl) hS.rd ?_
    refine LW.ex rfl rfl rfl rfl (Ex.lss rfl rfl (by first | exact decide_eq_true (by omega) | exact decide_eq_false (by omega) | rfl)) hS.rd ?_
    refine LW.nil fun aa ha => hK8 _ _ _ ?_ aa ha
    refine CW.yes rfl ?_
    refine CW.skip fun aa ha => hK8o _ _ _ ?_ aa ha
    obtain ⟨bl, ol, rfl, hx, hy⟩ := hpa.at h1
    have hb1 := in_of (ia _ (List.getElem_mem h1))
    refine CW.seq fun Kb hKb => ?_
    refine CW.block ?_
    have hS := hS.drew
    refine CW.draw 16 (.ex 0 <| .ex 1 <| .ex 2 <| .ex 3 <| .ex 4 <| .ex 5 <| .ex 6 <| .ex 7 <| .ex 8 <| .ex 9 <| .ex 10 <| .ex 11 <| .ex 12 <| .ex 13 <| .ex 14 <| .one 15 <| .done) [16, 17, 18] (Rd _ _) mixed (by kernel_rfl) rfl rfl hS.rd ?_
    refine PW.ex rfl rfl rfl rfl (Ex.indexArr (j := 0) Try.underlying49 ti26 rfl rfl rfl (by omega)) ?_
    refine PW.ex rfl rfl rfl rfl (Ex.load1 ti26 rfl rfl (by first | exact Rd.obj (k := 0) rfl rfl | exact Rd.obj (k := 1) rfl rfl | exact Rd.obj (k := 2) rfl rfl | exact Rd.obj (k := 3) rfl rfl | exact Rd.obj (k := 4) rfl rfl | exact Rd.imm (by assumption) | exact Rd.sl (k := 0) rfl (by assumption) | exact Rd.sl (k := 1) rfl (by assumption) | exact Rd.sl (k := 2) rfl (by assumption) | exact Rd.sl (k := 3) rfl (by assumption))) ?_
    refine PW.ex rfl rfl rfl rfl (Ex.move rfl) ?_
    refine PW.ex rfl rfl rfl rfl (Ex.move rfl) ?_
    refine PW.ex rfl rfl rfl rfl (Ex.indexSl Try.underlying26 ti46 rfl rfl rfl (by omega)) ?_
    refine PW.ex rfl rfl rfl rfl (Ex.fieldA Try.underlying46 rfl ti3 rfl) ?_
    refine PW.ex rfl rfl rfl rfl (Ex.load1 ti3 rfl rfl (by first | exact Rd.obj (k := 0) rfl rfl | exact Rd.obj (k := 1) rfl rfl | exact Rd.obj (k := 2) rfl rfl | exact Rd.obj (k := 3) rfl rfl | exact Rd.obj (k := 4) rfl rfl | exact Rd.imm (by assumption) | exact Rd.sl (k := 0) rfl (by assumption) | exact Rd.sl (k := 1) rfl (by assumption) | exact Rd.sl (k := 2) rfl (by assumption) | exact Rd.sl (k := 3) rfl (by assumption))) ?_
    refine PW.ex rfl rfl rfl rfl (Ex.mul rfl rfl (by first | exact w64 (by omega) (by omega))) ?_
    refine PW.ex rfl rfl rfl rfl (Ex.move rfl) ?_
    refine PW.ex rfl rfl rfl rfl (Ex.move rfl) ?_
    refine PW.ex rfl rfl rfl rfl (Ex.indexSl Try.underlying26 ti46 rfl rfl rfl (by omega)) ?_
    refine PW.ex rfl rfl rfl rfl (Ex.fieldA Try.underlying46 rfl ti3 rfl) ?_
    refine PW.ex rfl rfl rfl rfl (Ex.load1 ti3 rfl rfl (by first | exact Rd.obj (k := 0) rfl rfl | exact Rd.obj (k := 1) rfl rfl | exact Rd.obj (k := 2) rfl rfl | exact Rd.obj (k := 3) rfl rfl | exact Rd.obj (k := 4) rfl rfl | exact Rd.imm (by assumption) | exact Rd.sl (k := 0) rfl (by assumption) | exact Rd.sl (k := 1) rfl (by assumption) | exact Rd.sl (k := 2) rfl (by assumption) | exact Rd.sl (k := 3) rfl (by assumption))) ?_
    refine PW.ex rfl rfl rfl rfl (Ex.mul rfl rfl (by first | exact w64 (by omega) (by omega))) ?_
    refine PW.ex rfl rfl rfl rfl (Ex.buildS st46 rfl rfl rfl) ?_
    refine PW.hv rfl rfl rfl rfl (Hv.buildSl hS Try.underlying26 ti46 rfl rfl rfl rfl rfl rfl) (fun _ _ ⟨_, _, _, h⟩ => h.rd.tail) fun v w54 ⟨b54, hv, hb54, hS⟩ => ?_
    subst hv
    refine PW.nil ?_
    refine LW.hv rfl rfl rfl rfl (Hv.append (k := 1) rfl Try.underlying26 ti46 rfl hS rfl rfl rfl rfl (Rd.objAll (k := 0) rfl hS.rd) (by simp [Value.oneCell']) (by unfold maxLen; omega) (by omega)) fun v w55 ⟨ad55, c55, hv, hS⟩ => ?_
    subst hv
    dsimp only [List.set] at hS
    have hS := hS.drop 0 rfl
    dsimp only [List.eraseIdx] at hS
    refine LW.ex rfl rfl rfl rfl (Ex.indexArr (j := 0) Try.underlying49 ti26 rfl rfl rfl (by omega)) hS.rd ?_
    refine LW.hu rfl rfl rfl (Hv.storeObj (k := 2) ti26 hS rfl rfl rfl rfl (by first | (simp; done) | omega)) fun _ w_18 hS => ?_
    dsimp only [List.set] at hS
    refine LW.nil fun aa ha => hKb _ _ _ ?_ aa ha
    refine CW.region [0, 1, 2] rfl ?_
    refine LW.ex rfl rfl rfl rfl (Ex.move rfl) hS.rd ?_
    refine LW.ex rfl rfl rfl rfl (Ex.add rfl rfl (by first | exact inc64 (by omega) | exact addN (by omega) | exact w64 (by omega) (by omega))) hS.rd ?_
    refine LW.ex rfl rfl rfl rfl (Ex.assign rfl) hS.rd ?_
    refine LW.nil fun aa ha => ?_
    refine ⟨a.length - (i + 1), _, by omega, ⟨i + 1, _, _, _, by omega, rfl, rfl, hS, ?_⟩, ha.sub ⟨rfl, rfl, rfl, rfl, rfl, rfl, rfl, rfl, trivial⟩⟩
    rw [List.take_succ_eq_append_getElem h1, List.map_append]
    exact hus.snoc rfl ⟨rfl, rfl⟩
  · skip
    refine CW.seq fun K8o hK8o => ?_
    refine CW.seq fun K8 hK8 => ?_
    refine CW.region [0, 1, 2, 3] rfl ?_
    refine LW.ex rfl rfl rfl rfl (Ex.move rfl) hS.rd ?_
    refine LW.ex rfl rfl rfl rfl (Ex.move rfl) hS.rd ?_
    refine LW.ex rfl rfl rfl rfl (Ex.lenSl rfl Try.underlying26 rfl) hS.rd ?_
    refine LW.ex rfl rfl rfl rfl (Ex.lss rfl rfl (by first | exact decide_eq_true (by omega) | exact decide_eq_false (by omega) | rfl)) hS.rd ?_
    refine LW.nil fun aa ha => hK8 _ _ _ ?_ aa ha
    refine CW.no rfl ?_
    refine CW.exit fun aa ha => hK7o _ _ _ ?_ aa ha
    have hia : (a.take i).map dbl = a.map dbl := by rw [List.take_of_length_le (by omega)]
    rw [hia] at hus
    obtain rfl : i = (a.map dbl).length := by rw [List.length_map]; omega
    clear hia
    obtain ⟨bs, μ2, hm2, hS, hφ⟩ := hS.shut 0 rfl
    dsimp only [List.eraseIdx] at hS
    have hda := Sl.of_own hφ (hus.mono hm2) rfl
    clear hus hφ
    have hpa := hpa.mono hm2
    have hpb := hpb.mono hm2
    refine CW.seq fun K11o hK11o => ?_
    refine CW.seq fun K11 hK11 => ?_
    refine CW.region [0] rfl ?_
    refine LW.ex rfl rfl rfl rfl (Ex.assign rfl) hS.rd ?_
    refine LW.nil fun aa ha => hK11 _ _ _ ?_ aa ha
    refine CW.block ?_
    refine CW.loop (fun q m w1 => ∃ (i : Nat) (ado2 : Option Addr) (co2 : Nat) (us : List Value), i ≤ b.length ∧ q = b.length - i ∧
        m = [(1, .int .u8 how.toNat), (7, .bool true), (8, .slice ad18 a.length c18), (9, .slice ad21 b.length c21), (10, .pointer (some ⟨b10, 0, none⟩)), (11, .int .i64 (Dm a b)), (12, .pointer (some ⟨b12, 0, none⟩)), (14, .int .i64 i)] ∧
        St w w1 μ2 [Own.sl ado2 i co2 46 2 us, Own.obj b12 [.slice ado (a.map dbl).length co, .slice ado2 i co2] 49, Own.obj b10 [.int .i64 by_.a.toNat, .int .i64 by_.b.toNat] 46] ∧ RepL μ2 us ((b.take i).map dbl)) b.length
      ⟨0, _, _, [], by omega, by omega, rfl, hS, RepL.nil _⟩ ⟨rfl, rfl, rfl, rfl, rfl, rfl, rfl, rfl, trivial⟩ ?_
    clear hS
    rintro q m w1 ⟨i, ado2, co2, us, hi, hq, rfl, hS, hus⟩
    by_cases h1 : i < b.length
    · skip
      refine CW.seq fun K12o hK12o => ?_
      refine CW.seq fun K12 hK12 => ?_
      refine CW.region [0, 1, 2, 3] rfl ?_
      refine LW.ex rfl rfl rfl rfl (Ex.move rfl) hS.rd ?_
      refine LW.ex rfl rfl rfl rfl (Ex.move rfl) hS.rd ?_
      refine LW.ex rfl rfl rfl rfl (Ex.lenSl rfl Try.underlying26 rfl) hS.rd ?_
      refine LW.ex rfl rfl rfl rfl (Ex.lss rfl rfl (by first | exact decide_eq_true (by omega) | exact decide_eq_false (by omega) | rfl)) hS.rd ?_
      refine LW.nil fun aa ha => hK12 _ _ _ ?_ aa ha
      refine CW.yes rfl ?_
      refine CW.skip fun aa ha => hK12o _ _ _ ?_ aa ha
      obtain ⟨bl, ol, rfl, hx, hy⟩ := hpb.at h1
      have hb1 := in_of (ib _ (List.getElem_mem h1))
      refine CW.seq fun Kb hKb => ?_
      refine CW.block ?_
      have hS := hS.drew
      refine CW.draw 16 (.ex 0 <| .ex 1 <| .ex 2 <| .ex 3 <| .ex 4 <| .ex 5 <| .ex 6 <| .ex 7 <| .ex 8 <| .ex 9 <| .ex 10 <| .ex 11 <| .ex 12 <| .ex 13 <| .ex 14 <| .one 15 <| .done) [16, 17, 18] (Rd _ _) mixed (by kernel_rfl) rfl rfl hS.rd ?_
      refine PW.ex rfl rfl rfl rfl (Ex.indexArr (j := 1) Try.underlying49 ti26 rfl rfl rfl (by omega)) ?_
      refine PW.ex rfl rfl rfl rfl (Ex.load1 ti26 rfl rfl (by first | exact Rd.obj (k := 0) rfl rfl | exact Rd.obj (k := 1) rfl rfl | exact Rd.obj (k := 2) rfl rfl | exact Rd.obj (k := 3) rfl rfl | exact Rd.obj (k := 4) rfl rfl | exact Rd.imm (by assumption) | exact Rd.sl (k := 0) rfl (by assumption) | exact Rd.sl (k := 1) rfl (by assumption) | exact Rd.sl (k := 2) rfl (by assumption) | exact Rd.sl (k := 3) rfl (by assumption))) ?_
      refine PW.ex rfl rfl rfl rfl (Ex.move rfl) ?_
      refine PW.ex rfl rfl rfl rfl (Ex.move rfl) ?_
      refine PW.ex rfl rfl rfl rfl (Ex.indexSl Try.underlying26 ti46 rfl rfl rfl (by omega)) ?_
      refine PW.ex rfl rfl rfl rfl (Ex.fieldA Try.underlying46 rfl ti3 rfl) ?_
      refine PW.ex rfl rfl rfl rfl (Ex.load1 ti3 rfl rfl (by first | exact Rd.obj (k := 0) rfl rfl | exact Rd.obj (k := 1) rfl rfl | exact Rd.obj (k := 2) rfl rfl | exact Rd.obj (k := 3) rfl rfl | exact Rd.obj (k := 4) rfl rfl | exact Rd.imm (by assumption) | exact Rd.sl (k := 0) rfl (by assumption) | exact Rd.sl (k := 1) rfl (by assumption) | exact Rd.sl (k := 2) rfl (by assumption) | exact Rd.sl (k := 3) rfl (by assumption))) ?_
      refine PW.ex rfl rfl rfl rfl (Ex.mul rfl rfl (by first | exact w64 (by omega) (by omega))) ?_
      refine PW.ex rfl rfl rfl rfl (Ex.move rfl) ?_
      refine PW.ex rfl rfl rfl rfl (Ex.move rfl) ?_
      refine PW.ex rfl rfl rfl rfl (Ex.indexSl Try.underlying26 ti46 rfl rfl rfl (by omega)) ?_
      refine PW.ex rfl rfl rfl rfl (Ex.fieldA Try.underlying46 rfl ti3 rfl) ?_
      refine PW.ex rfl rfl rfl rfl (Ex.load1 ti3 rfl rfl (by first | exact Rd.obj (k := 0) rfl rfl | exact Rd.obj (k := 1) rfl rfl | exact Rd.obj (k := 2) rfl rfl | exact Rd.obj (k := 3) rfl rfl | exact Rd.obj (k := 4) rfl rfl | exact Rd.imm (by assumption) | exact Rd.sl (k := 0) rfl (by assumption) | exact Rd.sl (k := 1) rfl (by assumption) | exact Rd.sl (k := 2) rfl (by assumption) | exact Rd.sl (k := 3) rfl (by assumption))) ?_
      refine PW.ex rfl rfl rfl rfl (Ex.mul rfl rfl (by first | exact w64 (by omega) (by omega))) ?_
      refine PW.ex rfl rfl rfl rfl (Ex.buildS st46 rfl rfl rfl) ?_
      refine PW.hv rfl rfl rfl rfl (Hv.buildSl hS Try.underlying26 ti46 rfl rfl rfl rfl rfl rfl) (fun _ _ ⟨_, _, _, h⟩ => h.rd.tail) fun v w78 ⟨b78, hv, hb78, hS⟩ => ?_
      subst hv
      refine PW.nil ?_
      refine LW.hv rfl rfl rfl rfl (Hv.append (k := 1) rfl Try.underlying26 ti46 rfl hS rfl rfl rfl rfl (Rd.objAll (k := 0) rfl hS.rd) (by simp [Value.oneCell']) (by unfold maxLen; omega) (by omega)) fun v w79 ⟨ad79, c79, hv, hS⟩ => ?_
      subst hv
      dsimp only [List.set] at hS
      have hS := hS.drop 0 rfl
      dsimp only [List.eraseIdx] at hS
      refine LW.ex rfl rfl rfl rfl (Ex.indexArr (j := 1) Try.underlying49 ti26 rfl rfl rfl (by omega)) hS.rd ?_
      refine LW.hu rfl rfl rfl (Hv.storeObj (k := 1) ti26 hS rfl rfl rfl rfl (by first | (simp; done) | omega)) fun _ w_18 hS => ?_
      dsimp only [List.set] at hS
      refine LW.nil fun aa ha => hKb _ _ _ ?_ aa ha
      refine CW.region [0, 1, 2] rfl ?_
      refine LW.ex rfl rfl rfl rfl (Ex.move rfl) hS.rd ?_
      refine LW.ex rfl rfl rfl rfl (Ex.add rfl rfl (by first | exact inc64 (by omega) | exact addN (by omega) | exact w64 (by omega) (by omega))) hS.rd ?_
      refine LW.ex rfl rfl rfl rfl (Ex.assign rfl) hS.rd ?_
      refine LW.nil fun aa ha => ?_
      refine ⟨b.length - (i + 1), _, by omega, ⟨i + 1, _, _, _, by omega, rfl, rfl, hS, ?_⟩, ha.sub ⟨rfl, rfl, rfl, rfl, rfl, rfl, rfl, rfl, trivial⟩⟩
      rw [List.take_succ_eq_append_getElem h1, List.map_append]
      exact hus.snoc rfl ⟨rfl, rfl⟩
    · skip
      refine CW.seq fun K12o hK12o => ?_
      refine CW.seq fun K12 hK12 => ?_
      refine CW.region [0, 1, 2, 3] rfl ?_
      refine LW.ex rfl rfl rfl rfl (Ex.move rfl) hS.rd ?_
      refine LW.ex rfl rfl rfl rfl (Ex.move rfl) hS.rd ?_
      refine LW.ex rfl rfl rfl rfl (Ex.lenSl rfl Try.underlying26 rfl) hS.rd ?_
      refine LW.ex rfl rfl rfl rfl (Ex.lss rfl rfl (by first | exact decide_eq_true (by omega) | exact decide_eq_false (by omega) | rfl)) hS.rd ?_
      refine LW.nil fun aa ha => hK12 _ _ _ ?_ aa ha
      refine CW.no rfl ?_
      refine CW.exit fun aa ha => hK11o _ _ _ ?_ aa ha
      have hia : (b.take i).map dbl = b.map dbl := by rw [List.take_of_length_le (by omega)]
      rw [hia] at hus
      obtain rfl : i = (b.map dbl).length := by rw [List.length_map]; omega
      clear hia
      obtain ⟨bs, μ3, hm3, hS, hφ⟩ := hS.shut 0 rfl
      dsimp only [List.eraseIdx] at hS
      have hdb := Sl.of_own hφ (hus.mono hm3) rfl
      clear hus hφ
      have hpa := hpa.mono hm3
      have hpb := hpb.mono hm3
      have hda := hda.mono hm3
      have hch := chg_Dm fa fb fca fcb
      have hdd := dbl_Dm fa fb fda fdb
      have hbd := Dm_bound fa.good fb.good
      refine CW.seq fun K15 hK15 => ?_
      have hS := hS.drew
      refine CW.draw 25 (.ex 0 <| .ex 1 <| .ex 2 <| .ex 3 <| .ex 4 <| .ex 6 <| .ex 7 <| .ex 8 <| .ex 11 <| .one 5 <| .one 9 <| .one 10 <| .ex 12 <| .ex 13 <| .ex 14 <| .ex 15 <| .ex 16 <| .ex 17 <| .ex 18 <| .ex 20 <| .ex 21 <| .one 19 <| .ex 22 <| .ex 23 <| .ex 24 <| .done) [] (Rd _ _) mixed (by kernel_rfl) rfl rfl hS.rd ?_
      refine PW.ex rfl rfl rfl rfl (Ex.move rfl) ?_
      refine PW.ex rfl rfl rfl rfl (Ex.move rfl) ?_
      refine PW.ex rfl rfl rfl rfl (Ex.move rfl) ?_
      refine PW.ex rfl rfl rfl rfl (Ex.move rfl) ?_
      refine PW.ex rfl rfl rfl rfl (Ex.load2c ti46 rfl rfl (by first | exact Rd.obj (k := 0) rfl rfl | exact Rd.obj (k := 1) rfl rfl | exact Rd.obj (k := 2) rfl rfl | exact Rd.obj (k := 3) rfl rfl | exact Rd.obj (k := 4) rfl rfl | exact Rd.imm (by assumption) | exact Rd.sl (k := 0) rfl (by assumption) | exact Rd.sl (k := 1) rfl (by assumption) | exact Rd.sl (k := 2) rfl (by assumption) | exact Rd.sl (k := 3) rfl (by assumption)) (by first | exact Rd.obj (k := 0) rfl rfl | exact Rd.obj (k := 1) rfl rfl | exact Rd.obj (k := 2) rfl rfl | exact Rd.obj (k := 3) rfl rfl | exact Rd.obj (k := 4) rfl rfl | exact Rd.imm (by assumption) | exact Rd.sl (k := 0) rfl (by assumption) | exact Rd.sl (k := 1) rfl (by assumption) | exact Rd.sl (k := 2) rfl (by assumption) | exact Rd.sl (k := 3) rfl (by assumption))) ?_
      refine PW.ex rfl rfl rfl rfl (Ex.move rfl) ?_
      refine PW.ex rfl rfl rfl rfl (Ex.move rfl) ?_
      refine PW.ex rfl rfl rfl rfl (Ex.load2c ti46 rfl rfl (by first | exact Rd.obj (k := 0) rfl rfl | exact Rd.obj (k := 1) rfl rfl | exact Rd.obj (k := 2) rfl rfl | exact Rd.obj (k := 3) rfl rfl | exact Rd.obj (k := 4) rfl rfl | exact Rd.imm (by assumption) | exact Rd.sl (k := 0) rfl (by assumption) | exact Rd.sl (k := 1) rfl (by assumption) | exact Rd.sl (k := 2) rfl (by assumption) | exact Rd.sl (k := 3) rfl (by assumption)) (by first | exact Rd.obj (k := 0) rfl rfl | exact Rd.obj (k := 1) rfl rfl | exact Rd.obj (k := 2) rfl rfl | exact Rd.obj (k := 3) rfl rfl | exact Rd.obj (k := 4) rfl rfl | exact Rd.imm (by assumption) | exact Rd.sl (k := 0) rfl (by assumption) | exact Rd.sl (k := 1) rfl (by assumption) | exact Rd.sl (k := 2) rfl (by assumption) | exact Rd.sl (k := 3) rfl (by assumption))) ?_
      refine PW.ex rfl rfl rfl rfl (Ex.move rfl) ?_
      refine PW.hv rfl rfl rfl rfl (Hv.callV hS rfl rfl rfl cb21 (changed_c a how ⟨by_.a.toNat, by_.b.toNat⟩ _ _ _ _ hS.imm hpa (fun q hq => by have := in_of (ia q hq); unfold Bd; omega) hbmv (by omega))) (fun _ _ ⟨_, _, hm, h⟩ => Rd.le hm h.rd) fun v w86 ⟨μ86, hv86, hm86, hS⟩ => ?_
      obtain ⟨ad86, c86, rfl, hc86⟩ := hv86
      refine PW.hv rfl rfl rfl rfl (Hv.callV hS rfl rfl rfl cb21 (changed_c b how ⟨by_.a.toNat, by_.b.toNat⟩ _ _ _ _ hS.imm (hpb.mono hm86) (fun q hq => by have := in_of (ib q hq); unfold Bd; omega) hbmv (by omega))) (fun _ _ ⟨_, _, hm, h⟩ => Rd.le hm86 (Rd.le hm h.rd)) fun v w90 ⟨μ90, hv90, hm90, hS⟩ => ?_
      obtain ⟨ad90, c90, rfl, hc90⟩ := hv90
      refine PW.hv rfl rfl rfl rfl (Hv.callS hS rfl rfl rfl cb15 (distance_c (chg (how.toNat % 4) ⟨by_.a.toNat, by_.b.toNat⟩ a) (chg (how.toNat % 4) ⟨by_.a.toNat, by_.b.toNat⟩ b) _ _ _ _ _ _ hS.imm (hc86.mono hm90) hc90 fca.good.bd fcb.good.bd fca.good.len fcb.good.len)) (fun _ _ h => Rd.le hm86 (Rd.le hm90 (h.2.rd))) fun v w91 ⟨hv, hS⟩ => ?_
      subst hv
      refine PW.ex rfl rfl rfl rfl (Ex.eql rfl rfl (decide_eq_true hch)) ?_
      refine PW.ex rfl rfl rfl rfl (by first | exact Ex.pick_yes rfl rfl | exact Ex.pick_no rfl rfl) ?_
      refine PW.ex rfl rfl rfl rfl (Ex.move rfl) ?_
      refine PW.ex rfl rfl rfl rfl (Ex.indexArr (j := 0) Try.underlying49 ti26 rfl rfl rfl (by omega)) ?_
      refine PW.ex rfl rfl rfl rfl (Ex.load1 ti26 rfl rfl (by first | exact Rd.obj (k := 0) rfl rfl | exact Rd.obj (k := 1) rfl rfl | exact Rd.obj (k := 2) rfl rfl | exact Rd.obj (k := 3) rfl rfl | exact Rd.obj (k := 4) rfl rfl | exact Rd.imm (by assumption) | exact Rd.sl (k := 0) rfl (by assumption) | exact Rd.sl (k := 1) rfl (by assumption) | exact Rd.sl (k := 2) rfl (by assumption) | exact Rd.sl (k := 3) rfl (by assumption))) ?_
      refine PW.ex rfl rfl rfl rfl (Ex.indexArr (j := 1) Try.underlying49 ti26 rfl rfl rfl (by omega)) ?_
      refine PW.ex rfl rfl rfl rfl (Ex.load1 ti26 rfl rfl (by first | exact Rd.obj (k := 0) rfl rfl | exact Rd.obj (k := 1) rfl rfl | exact Rd.obj (k := 2) rfl rfl | exact Rd.obj (k := 3) rfl rfl | exact Rd.obj (k := 4) rfl rfl | exact Rd.imm (by assumption) | exact Rd.sl (k := 0) rfl (by assumption) | exact Rd.sl (k := 1) rfl (by assumption) | exact Rd.sl (k := 2) rfl (by assumption) | exact Rd.sl (k := 3) rfl (by assumption))) ?_
      refine PW.ex rfl rfl rfl rfl (Ex.move rfl) ?_
      refine PW.ex rfl rfl rfl rfl (Ex.mul rfl rfl (w64 (x := 2 * Dm a b) (by omega) (by omega))) ?_
      refine PW.hv rfl rfl rfl rfl (Hv.callS hS rfl rfl rfl cb15 (distance_c (a.map dbl) (b.map dbl) _ _ _ _ _ _ hS.imm ((hda.mono hm86).mono hm90) ((hdb.mono hm86).mono hm90) fda.good.bd fdb.good.bd fda.good.len fdb.good.len)) (fun _ _ h => Rd.le hm86 (Rd.le hm90 (h.2.rd))) fun v w100 ⟨hv, hS⟩ => ?_
      subst hv
      refine PW.ex rfl rfl rfl rfl (Ex.eql rfl rfl (decide_eq_true hdd)) ?_
      refine PW.ex rfl rfl rfl rfl (by first | exact Ex.pick_yes rfl rfl | exact Ex.pick_no rfl rfl) ?_
      refine PW.ex rfl rfl rfl rfl (Ex.assign rfl) ?_
      refine PW.nil ?_
      refine LW.nil fun aa ha => hK15 _ _ _ ?_ aa ha
      refine CW.ret fun aa ha => ?_
      exact ret_one ha Try.results6 rfl hS.retS
end Go.Proofs.Ythbglfjajifkoaa
