/-
  Strokes: the walk of sanity.
-/
import Derived.Test.YthbglfjajifkoaaStR
namespace Go.Proofs.Ythbglfjajifkoaa
open Go.RowKit Sy Go.Sort

def ptL (p : Pt) : List Value := [.int .i64 p.X, .int .i64 p.Y]
theorem repPts (μ : Mem) (xs : List Pt) : RepL μ (xs.flatMap ptL) xs := RepL.flat (enc := ptL) (fun _ => rfl) (by decide) μ (fun _ => ⟨rfl, rfl⟩) xs
theorem repChs (μ : Mem) (xs : List Ch) : RepL μ (xs.flatMap chL) xs := RepL.flat (enc := chL) (fun _ => rfl) (by decide) μ (fun _ => ⟨rfl, rfl⟩) xs
theorem repT {μ : Mem} {us : List Value} {xs : List Tpl} (h : RepL μ us xs) (t : Tpl) {ad : Option Addr} {c : Nat} (hs : Sl μ ad c t.P) : RepL μ (us ++ [.int .u8 t.Key.toNat, .slice ad t.P.length c]) (xs ++ [t]) := h.snoc rfl ⟨rfl, _, _, rfl, hs⟩
theorem sBd (xs : List Pt) (h : ∀ p ∈ xs, inP p = true) : ∀ p ∈ xs, Bd 100000 p := fun p hp => by
  have := h p hp
  simp only [inP, Bool.and_eq_true, decide_eq_true_eq] at this
  exact ⟨by omega, by omega, by omega, by omega⟩
theorem sFine : ∀ t ∈ sBoard, Good t.P := fun t ht => by
  simp only [sBoard, List.mem_cons, List.not_mem_nil, or_false] at ht
  rcases ht with rfl | rfl | rfl
  · exact ⟨sBd _ (by decide), by decide, by decide⟩
  · exact ⟨sBd _ (by decide), by decide, by decide⟩
  · exact ⟨sBd _ (by decide), by decide, by decide⟩
theorem rel_none {b : List Tpl} {p : List Pt} {zs : List Ch} {e : Int} (h : MatchRel b p zs e) (hno : ¬ (validP p = true ∧ 0 < b.length)) : e = 220 := by
  rw [MatchRel, if_neg hno] at h; exact h.1

set_option maxRecDepth 100000 in
theorem sanity_c (w : World) : Calls Try.prog 10 #[] w (RetS w (.bool true)) := by
  have hS := St.start w (fun _ => none) (fun _ _ h => by cases h)
  refine calls_start 101 [] Try.func10 rfl Try.ntmps10 rfl rfl ?_
  refine CW.seq fun K0 hK0 => ?_
  refine CW.region [0] rfl ?_
  refine LW.ex rfl rfl rfl rfl (Ex.assign rfl) hS.rd ?_
  refine LW.nil fun aa ha => hK0 _ _ _ ?_ aa ha
  refine CW.seq fun K1 hK1 => ?_
  refine CW.region [0, 1, 2, 3] rfl ?_
  refine LW.ex rfl rfl rfl rfl (Ex.buildS st46 rfl rfl rfl) hS.rd ?_
  refine LW.ex rfl rfl rfl rfl (Ex.buildS st46 rfl rfl rfl) hS.rd ?_
  refine LW.hv rfl rfl rfl rfl (Hv.buildSl hS Try.underlying26 ti46 rfl rfl rfl rfl rfl rfl) fun v w14 ⟨b14, hv, hb14, hS⟩ => ?_
  subst hv
  obtain ⟨μ1, hm1, hS, hla⟩ := hS.shutRow 0 rfl (repPts _ sa) (by simp [maxLen, sa])
  dsimp only [List.eraseIdx] at hS
  refine LW.ex rfl rfl rfl rfl (Ex.assign rfl) hS.rd ?_
  refine LW.nil fun aa ha => hK1 _ _ _ ?_ aa ha
  refine CW.seq fun K2 hK2 => ?_
  refine CW.region [0, 1, 2, 3, 4] rfl ?_
  refine LW.ex rfl rfl rfl rfl (Ex.buildS st46 rfl rfl rfl) hS.rd ?_
  refine LW.ex rfl rfl rfl rfl (Ex.buildS st46 rfl rfl rfl) hS.rd ?_
  refine LW.ex rfl rfl rfl rfl (Ex.buildS st46 rfl rfl rfl) hS.rd ?_
  refine LW.hv rfl rfl rfl rfl (Hv.buildSl hS Try.underlying26 ti46 rfl rfl rfl rfl rfl rfl) fun v w18 ⟨b18, hv, hb18, hS⟩ => ?_
  subst hv
  obtain ⟨μ2, hm2, hS, hlb⟩ := hS.shutRow 0 rfl (repPts _ sb) (by simp [maxLen, sb])
  dsimp only [List.eraseIdx] at hS
  refine LW.ex rfl rfl rfl rfl (Ex.assign rfl) hS.rd ?_
  refine LW.nil fun aa ha => hK2 _ _ _ ?_ aa ha
  refine CW.seq fun K3 hK3 => ?_
  refine CW.region [0, 1, 2, 3] rfl ?_
  refine LW.ex rfl rfl rfl rfl (Ex.buildS st46 rfl rfl rfl) hS.rd ?_
  refine LW.ex rfl rfl rfl rfl (Ex.buildS st46 rfl rfl rfl) hS.rd ?_
  refine LW.hv rfl rfl rfl rfl (Hv.buildSl hS Try.underlying26 ti46 rfl rfl rfl rfl rfl rfl) fun v w21 ⟨b21, hv, hb21, hS⟩ => ?_
  subst hv
  obtain ⟨μ3, hm3, hS, hlc⟩ := hS.shutRow 0 rfl (repPts _ sc) (by simp [maxLen, sc])
  dsimp only [List.eraseIdx] at hS
  refine LW.ex rfl rfl rfl rfl (Ex.assign rfl) hS.rd ?_
  refine LW.nil fun aa ha => hK3 _ _ _ ?_ aa ha
  refine CW.seq fun K4 hK4 => ?_
  refine CW.region [0, 1, 2, 3, 4, 5, 6, 7, 8, 9, 10, 11, 12, 13] rfl ?_
  refine LW.ex rfl rfl rfl rfl (Ex.move rfl) hS.rd ?_
  refine LW.ex rfl rfl rfl rfl (Ex.buildS st61 rfl rfl rfl) hS.rd ?_
  refine LW.ex rfl rfl rfl rfl (Ex.buildS st46 rfl rfl rfl) hS.rd ?_
  refine LW.ex rfl rfl rfl rfl (Ex.buildS st46 rfl rfl rfl) hS.rd ?_
  refine LW.hv rfl rfl rfl rfl (Hv.buildSl hS Try.underlying26 ti46 rfl rfl rfl rfl rfl rfl) fun v w26 ⟨b26, hv, hb26, hS⟩ => ?_
  subst hv
  obtain ⟨μ4, hm4, hS, hld⟩ := hS.shutRow 0 rfl (repPts _ sd) (by simp [maxLen, sd])
  dsimp only [List.eraseIdx] at hS
  refine LW.ex rfl rfl rfl rfl (Ex.buildS st61 rfl rfl rfl) hS.rd ?_
  refine LW.ex rfl rfl rfl rfl (Ex.buildS st46 rfl rfl rfl) hS.rd ?_
  refine LW.ex rfl rfl rfl rfl (Ex.buildS st46 rfl rfl rfl) hS.rd ?_
  refine LW.hv rfl rfl rfl rfl (Hv.buildSl hS Try.underlying26 ti46 rfl rfl rfl rfl rfl rfl) fun v w30 ⟨b30, hv, hb30, hS⟩ => ?_
  subst hv
  obtain ⟨μ5, hm5, hS, hle⟩ := hS.shutRow 0 rfl (repPts _ se) (by simp [maxLen, se])
  dsimp only [List.eraseIdx] at hS
  refine LW.ex rfl rfl rfl rfl (Ex.buildS st61 rfl rfl rfl) hS.rd ?_
  refine LW.hv rfl rfl rfl rfl (Hv.buildSl hS Try.underlying29 ti61 rfl rfl rfl rfl rfl rfl) fun v w32 ⟨b32, hv, hb32, hS⟩ => ?_
  subst hv
  obtain ⟨μ6, hm6, hS, hlt⟩ := hS.shutRow 0 rfl (xs := sBoard) (repT (repT (repT (RepL.nil _) ⟨99, sc⟩ ((hlc.mono hm4).mono hm5)) ⟨97, sd⟩ (hld.mono hm5)) ⟨98, se⟩ hle) (by simp [maxLen, sBoard])
  dsimp only [List.eraseIdx] at hS
  refine LW.ex rfl rfl rfl rfl (Ex.buildS st32 rfl rfl rfl) hS.rd ?_
  refine LW.hv rfl rfl rfl rfl (Hv.alloc ti32 hS) fun v w4 ⟨b4, hv, hb4, hS⟩ => ?_
  subst hv
  refine LW.hu rfl rfl rfl (Hv.storeN (k := 0) ti32 hS rfl rfl rfl rfl (by simp [Value.oneCell'])) fun _ w_13 hS => ?_
  dsimp only [List.set] at hS
  refine LW.nil fun aa ha => hK4 _ _ _ ?_ aa ha
  have hla6 := ((((hla.mono hm2).mono hm3).mono hm4).mono hm5).mono hm6
  have hlb6 := (((hlb.mono hm3).mono hm4).mono hm5).mono hm6
  have hlc6 := ((hlc.mono hm4).mono hm5).mono hm6
  refine CW.seq fun K5 hK5 => ?_
  refine CW.region [0, 1, 2, 3, 4, 5, 6, 7] rfl ?_
  refine LW.ex rfl rfl rfl rfl (Ex.load3c ti32 rfl rfl (by first | exact Rd.obj (k := 0) rfl rfl | exact Rd.obj (k := 1) rfl rfl | exact Rd.obj (k := 2) rfl rfl | exact Rd.obj (k := 3) rfl rfl | exact Rd.obj (k := 4) rfl rfl | exact Rd.imm (by assumption) | exact Rd.sl (k := 0) rfl (by assumption) | exact Rd.sl (k := 1) rfl (by assumption) | exact Rd.sl (k := 2) rfl (by assumption) | exact Rd.sl (k := 3) rfl (by assumption)) (by first | exact Rd.obj (k := 0) rfl rfl | exact Rd.obj (k := 1) rfl rfl | exact Rd.obj (k := 2) rfl rfl | exact Rd.obj (k := 3) rfl rfl | exact Rd.obj (k := 4) rfl rfl | exact Rd.imm (by assumption) | exact Rd.sl (k := 0) rfl (by assumption) | exact Rd.sl (k := 1) rfl (by assumption) | exact Rd.sl (k := 2) rfl (by assumption) | exact Rd.sl (k := 3) rfl (by assumption)) (by first | exact Rd.obj (k := 0) rfl rfl | exact Rd.obj (k := 1) rfl rfl | exact Rd.obj (k := 2) rfl rfl | exact Rd.obj (k := 3) rfl rfl | exact Rd.obj (k := 4) rfl rfl | exact Rd.imm (by assumption) | exact Rd.sl (k := 0) rfl (by assumption) | exact Rd.sl (k := 1) rfl (by assumption) | exact Rd.sl (k := 2) rfl (by assumption) | exact Rd.sl (k := 3) rfl (by assumption))) hS.rd ?_
  refine LW.ex rfl rfl rfl rfl (Ex.move rfl) hS.rd ?_
  refine LW.hv rfl rfl rfl rfl (Hv.callV hS rfl rfl rfl cb13 (match_c sBoard sa _ _ _ _ _ _ hS.imm hlt hla6 sFine (by decide))) fun v w37 ⟨μ37, hv37, hm37, hS⟩ => ?_
  obtain ⟨zs, ad37, c37, e37, rfl, hz37, hrel⟩ := hv37
  refine LW.ex rfl rfl rfl rfl (Ex.move rfl) hS.rd ?_
  refine LW.ex rfl rfl rfl rfl (Ex.extract rfl rfl) hS.rd ?_
  refine LW.ex rfl rfl rfl rfl (Ex.extract rfl rfl) hS.rd ?_
  refine LW.ex rfl rfl rfl rfl (Ex.assign rfl) hS.rd ?_
  refine LW.ex rfl rfl rfl rfl (Ex.assign rfl) hS.rd ?_
  refine LW.nil fun aa ha => hK5 _ _ _ ?_ aa ha
  obtain ⟨rfl, rfl⟩ := match_s hrel
  have hla7 := hla6.mono hm37
  refine CW.seq fun K6 hK6 => ?_
  refine CW.region [0, 1, 2, 3, 4, 5, 6, 7] rfl ?_
  refine LW.ex rfl rfl rfl rfl (Ex.buildS st32 rfl rfl rfl) hS.rd ?_
  refine LW.ex rfl rfl rfl rfl (Ex.move rfl) hS.rd ?_
  refine LW.hv rfl rfl rfl rfl (Hv.callV hS rfl rfl rfl cb13 (match_c [] sa none _ 0 _ _ _ hS.imm (Sl.nil _ _ _ (by simp [maxLen])) hla7 (fun _ h => by cases h) (by simp))) fun v w43 ⟨μ43, hv43, hm43, hS⟩ => ?_
  obtain ⟨zs43, ad43, c43, e43, rfl, hz43, hrel43⟩ := hv43
  refine LW.ex rfl rfl rfl rfl (Ex.move rfl) hS.rd ?_
  refine LW.ex rfl rfl rfl rfl (Ex.extract rfl rfl) hS.rd ?_
  refine LW.ex rfl rfl rfl rfl (Ex.extract rfl rfl) hS.rd ?_
  refine LW.ex rfl rfl rfl rfl (Ex.assign rfl) hS.rd ?_
  refine LW.ex rfl rfl rfl rfl (Ex.assign rfl) hS.rd ?_
  refine LW.nil fun aa ha => hK6 _ _ _ ?_ aa ha
  obtain rfl := rel_none hrel43 (by decide)
  have hla8 := hla7.mono hm43
  have hlt8 := (hlt.mono hm37).mono hm43
  refine CW.seq fun K7 hK7 => ?_
  have hS := hS.drew
  refine CW.draw 9 (.ex 0 <| .ex 1 <| .ex 2 <| .one 3 <| .ex 4 <| .ex 5 <| .ex 6 <| .ex 7 <| .ex 8 <| .done) [] (Rd _ _) mixed (by kernel_rfl) rfl rfl hS.rd ?_
  refine PW.ex rfl rfl rfl rfl (Ex.load3c ti32 rfl rfl (by first | exact Rd.obj (k := 0) rfl rfl | exact Rd.obj (k := 1) rfl rfl | exact Rd.obj (k := 2) rfl rfl | exact Rd.obj (k := 3) rfl rfl | exact Rd.obj (k := 4) rfl rfl | exact Rd.imm (by assumption) | exact Rd.sl (k := 0) rfl (by assumption) | exact Rd.sl (k := 1) rfl (by assumption) | exact Rd.sl (k := 2) rfl (by assumption) | exact Rd.sl (k := 3) rfl (by assumption)) (by first | exact Rd.obj (k := 0) rfl rfl | exact Rd.obj (k := 1) rfl rfl | exact Rd.obj (k := 2) rfl rfl | exact Rd.obj (k := 3) rfl rfl | exact Rd.obj (k := 4) rfl rfl | exact Rd.imm (by assumption) | exact Rd.sl (k := 0) rfl (by assumption) | exact Rd.sl (k := 1) rfl (by assumption) | exact Rd.sl (k := 2) rfl (by assumption) | exact Rd.sl (k := 3) rfl (by assumption)) (by first | exact Rd.obj (k := 0) rfl rfl | exact Rd.obj (k := 1) rfl rfl | exact Rd.obj (k := 2) rfl rfl | exact Rd.obj (k := 3) rfl rfl | exact Rd.obj (k := 4) rfl rfl | exact Rd.imm (by assumption) | exact Rd.sl (k := 0) rfl (by assumption) | exact Rd.sl (k := 1) rfl (by assumption) | exact Rd.sl (k := 2) rfl (by assumption) | exact Rd.sl (k := 3) rfl (by assumption))) ?_
  refine PW.ex rfl rfl rfl rfl (Ex.move rfl) ?_
  refine PW.ex rfl rfl rfl rfl (Ex.sliceTo (j := 1) Try.underlying26 ti46 rfl rfl rfl (by decide)) ?_
  refine PW.hv rfl rfl rfl rfl (Hv.callV hS rfl rfl rfl cb13 (match_c sBoard (sa.take 1) _ _ _ _ _ _ hS.imm hlt8 (hla8.take 1) sFine (by decide))) (fun _ _ ⟨_, _, hm, h⟩ => Rd.le hm h.rd) fun v w50 ⟨μ50, hv50, hm50, hS⟩ => ?_
  obtain ⟨zs50, ad50, c50, e50, rfl, hz50, hrel50⟩ := hv50
  refine PW.ex rfl rfl rfl rfl (Ex.move rfl) ?_
  refine PW.ex rfl rfl rfl rfl (Ex.extract rfl rfl) ?_
  refine PW.ex rfl rfl rfl rfl (Ex.extract rfl rfl) ?_
  refine PW.ex rfl rfl rfl rfl (Ex.assign rfl) ?_
  refine PW.ex rfl rfl rfl rfl (Ex.assign rfl) ?_
  refine PW.nil ?_
  refine LW.nil fun aa ha => hK7 _ _ _ ?_ aa ha
  obtain rfl := rel_none hrel50 (by decide)
  refine CW.seq fun K8 hK8 => ?_
  refine CW.region [0, 1, 2, 3, 4] rfl ?_
  refine LW.ex rfl rfl rfl rfl (Ex.buildS st55 rfl rfl rfl) hS.rd ?_
  refine LW.ex rfl rfl rfl rfl (Ex.buildS st55 rfl rfl rfl) hS.rd ?_
  refine LW.ex rfl rfl rfl rfl (Ex.buildS st55 rfl rfl rfl) hS.rd ?_
  refine LW.hv rfl rfl rfl rfl (Hv.buildSl hS Try.underlying35 ti55 rfl rfl rfl rfl rfl rfl) fun v w56 ⟨b56, hv, hb56, hS⟩ => ?_
  subst hv
  obtain ⟨μ9, hm9, hS, hw9⟩ := hS.shutRow 0 rfl (repChs _ sWant) (by simp [maxLen, sWant])
  dsimp only [List.eraseIdx] at hS
  refine LW.ex rfl rfl rfl rfl (Ex.assign rfl) hS.rd ?_
  refine LW.nil fun aa ha => hK8 _ _ _ ?_ aa ha
  have hla9 := (hla8.mono hm50).mono hm9
  have hlb9 := (((hlb6.mono hm37).mono hm43).mono hm50).mono hm9
  have hlc9 := (((hlc6.mono hm37).mono hm43).mono hm50).mono hm9
  have hz9 := ((hz37.mono hm43).mono hm50).mono hm9
  refine CW.seq fun K9 hK9 => ?_
  refine CW.region [0, 1, 2, 3, 4, 5, 6, 7, 8, 9, 10, 11, 12, 13, 14, 15, 16, 17, 18, 19, 20, 21, 22, 23, 24, 25, 26, 27, 28, 29, 30, 31, 32, 33, 34, 35, 36, 37, 38, 39, 40, 41, 42, 43, 44] rfl ?_
  refine LW.ex rfl rfl rfl rfl (Ex.move rfl) hS.rd ?_
  refine LW.ex rfl rfl rfl rfl (Ex.move rfl) hS.rd ?_
  refine LW.hv rfl rfl rfl rfl (Hv.callS hS rfl rfl rfl cb15 (distance_c sa sb _ _ _ _ _ _ hS.imm hla9 hlb9 (sBd _ (by decide)) (sBd _ (by decide)) (by decide) (by decide))) fun v w59 ⟨hv, hS⟩ => ?_
  subst hv
  rw [R_ab]
  refine LW.ex rfl rfl rfl rfl (Ex.eql rfl rfl (by first | exact decide_eq_true (by omega) | exact decide_eq_false (by omega) | rfl)) hS.rd ?_
  refine LW.ex rfl rfl rfl rfl (Ex.move rfl) hS.rd ?_
  refine LW.ex rfl rfl rfl rfl (Ex.move rfl) hS.rd ?_
  refine LW.ex rfl rfl rfl rfl (Ex.move rfl) hS.rd ?_
  refine LW.hv rfl rfl rfl rfl (Hv.callS hS rfl rfl rfl cb15 (distance_c sa sc _ _ _ _ _ _ hS.imm hla9 hlc9 (sBd _ (by decide)) (sBd _ (by decide)) (by decide) (by decide))) fun v w64 ⟨hv, hS⟩ => ?_
  subst hv
  rw [R_ac]
  refine LW.ex rfl rfl rfl rfl (Ex.eql rfl rfl (by first | exact decide_eq_true (by omega) | exact decide_eq_false (by omega) | rfl)) hS.rd ?_
  refine LW.ex rfl rfl rfl rfl (by first | exact Ex.pick_yes rfl rfl | exact Ex.pick_no rfl rfl) hS.rd ?_
  refine LW.ex rfl rfl rfl rfl (Ex.move rfl) hS.rd ?_
  refine LW.ex rfl rfl rfl rfl (Ex.move rfl) hS.rd ?_
  refine LW.ex rfl rfl rfl rfl (Ex.eql rfl rfl (by first | exact decide_eq_true (by omega) | exact decide_eq_false (by omega) | rfl)) hS.rd ?_
  refine LW.ex rfl rfl rfl rfl (by first | exact Ex.pick_yes rfl rfl | exact Ex.pick_no rfl rfl) hS.rd ?_
  refine LW.ex rfl rfl rfl rfl (Ex.move rfl) hS.rd ?_
  refine LW.ex rfl rfl rfl rfl (Ex.move rfl) hS.rd ?_
  refine LW.ex rfl rfl rfl rfl (Ex.eql rfl rfl (by first | exact decide_eq_true (by omega) | exact decide_eq_false (by omega) | rfl)) hS.rd ?_
  refine LW.ex rfl rfl rfl rfl (by first | exact Ex.pick_yes rfl rfl | exact Ex.pick_no rfl rfl) hS.rd ?_
  refine LW.ex rfl rfl rfl rfl (Ex.move rfl) hS.rd ?_
  refine LW.ex rfl rfl rfl rfl (Ex.move rfl) hS.rd ?_
  refine LW.ex rfl rfl rfl rfl (Ex.eql rfl rfl (by first | exact decide_eq_true (by omega) | exact decide_eq_false (by omega) | rfl)) hS.rd ?_
  refine LW.ex rfl rfl rfl rfl (by first | exact Ex.pick_yes rfl rfl | exact Ex.pick_no rfl rfl) hS.rd ?_
  refine LW.ex rfl rfl rfl rfl (Ex.move rfl) hS.rd ?_
  refine LW.ex rfl rfl rfl rfl (Ex.move rfl) hS.rd ?_
  refine LW.ex rfl rfl rfl rfl (Ex.move rfl) hS.rd ?_
  refine LW.hv rfl rfl rfl rfl (Hv.callS hS rfl rfl rfl cb17 (same_c sWant sWant _ _ _ _ _ _ hS.imm hz9 hw9)) fun v w82 ⟨hv, hS⟩ => ?_
  subst hv
  rw [show decide (sWant = sWant) = true by decide]
  refine LW.ex rfl rfl rfl rfl (by first | exact Ex.pick_yes rfl rfl | exact Ex.pick_no rfl rfl) hS.rd ?_
  refine LW.ex rfl rfl rfl rfl (Ex.move rfl) hS.rd ?_
  refine LW.ex rfl rfl rfl rfl (Ex.move rfl) hS.rd ?_
  refine LW.hv rfl rfl rfl rfl (Hv.callS hS rfl rfl rfl cb19 (valid_c sa _ _ _ _ hS.imm hla9)) fun v w86 ⟨hv, hS⟩ => ?_
  subst hv
  rw [show validP sa = true by decide]
  refine LW.ex rfl rfl rfl rfl (by first | exact Ex.pick_yes rfl rfl | exact Ex.pick_no rfl rfl) hS.rd ?_
  refine LW.ex rfl rfl rfl rfl (Ex.move rfl) hS.rd ?_
  refine LW.ex rfl rfl rfl rfl (Ex.move rfl) hS.rd ?_
  refine LW.ex rfl rfl rfl rfl (Ex.sliceTo (j := 1) Try.underlying26 ti46 rfl rfl rfl (by decide)) hS.rd ?_
  refine LW.hv rfl rfl rfl rfl (Hv.callS hS rfl rfl rfl cb19 (valid_c (sa.take 1) _ _ _ _ hS.imm (hla9.take 1))) fun v w91 ⟨hv, hS⟩ => ?_
  subst hv
  rw [show validP (sa.take 1) = false by decide]
  refine LW.ex rfl rfl rfl rfl (Ex.not rfl rfl) hS.rd ?_
  refine LW.ex rfl rfl rfl rfl (by first | exact Ex.pick_yes rfl rfl | exact Ex.pick_no rfl rfl) hS.rd ?_
  refine LW.ex rfl rfl rfl rfl (Ex.move rfl) hS.rd ?_
  refine LW.ex rfl rfl rfl rfl (Ex.buildS st46 rfl rfl rfl) hS.rd ?_
  refine LW.ex rfl rfl rfl rfl (Ex.buildS st46 rfl rfl rfl) hS.rd ?_
  refine LW.hv rfl rfl rfl rfl (Hv.buildSl hS Try.underlying26 ti46 rfl rfl rfl rfl rfl rfl) fun v w97 ⟨b97, hv, hb97, hS⟩ => ?_
  subst hv
  refine LW.hv rfl rfl rfl rfl (Hv.callS hS rfl rfl rfl cb19 (valid_c [⟨0, 0⟩, ⟨1001, 0⟩] _ _ (memOf _) _ (imm_memOf _) (hS.lend_obj (k := 0) rfl (repPts _ [⟨0, 0⟩, ⟨1001, 0⟩]) (by simp [maxLen])))) fun v w98 ⟨hv, hS⟩ => ?_
  subst hv
  rw [show validP [⟨0, 0⟩, ⟨1001, 0⟩] = false by decide]
  refine LW.ex rfl rfl rfl rfl (Ex.not rfl rfl) hS.rd ?_
  refine LW.ex rfl rfl rfl rfl (by first | exact Ex.pick_yes rfl rfl | exact Ex.pick_no rfl rfl) hS.rd ?_
  refine LW.ex rfl rfl rfl rfl (Ex.assign rfl) hS.rd ?_
  refine LW.nil fun aa ha => hK9 _ _ _ ?_ aa ha
  refine CW.ret fun aa ha => ?_
  exact ret_one ha Try.results10 rfl hS.retS
end Go.Proofs.Ythbglfjajifkoaa
