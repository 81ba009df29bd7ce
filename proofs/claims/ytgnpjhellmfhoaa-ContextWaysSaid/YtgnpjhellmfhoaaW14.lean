import Derived.Test.YtgnpjhellmfhoaaW13

/-
  Context: the walk of the statement's fixed examples.
-/
namespace Go.Proofs.Ytgnpjhellmfhoaa
open Go.RowKit Sy

theorem cc_c (x : Lat) (p : Int) (es : List Int) (r : Int × Bool) (hr : costR x m0 p es = r) (hsm : ∀ e ∈ x.Edges, -1099511627776 ≤ e.To ∧ e.To ≤ 1099511627776) (hes : es.length ≤ 1000000)
    (a0 a1 a3 a4 : Option Addr) (c0 c1 c3 c4 : Nat) (μ : Mem) (w : World) (hμ : Imm μ w) (hxl : Sl μ a3 c3 x.Edges) (hm0 : Sl μ a0 c0 m0.Words) (hm1 : Sl μ a1 c1 m0.Counts) (hel : Sl μ a4 c4 es) :
    Calls Try.prog 15 #[.agg #[.int .i64 x.N, .slice a3 x.Edges.length c3], .agg #[.slice a0 3 c0, .slice a1 3 c1, .slice none 0 0, .int .i64 0], .int .i64 p, .slice a4 es.length c4] w (RetS w (.tuple #[.int .i64 r.1, .bool r.2])) := by
  rw [← hr]
  exact ccost_c x m0 p es m0_words hsm hes a0 a1 none a3 a4 c0 c1 0 c3 c4 μ w hμ hxl hm0 hm1 (Sl.nil _ _ _ (by simp [maxLen])) hel
theorem linksIn0 : LinksIn x0 bW.G [0, 2] := ⟨by decide, by decide⟩
set_option maxRecDepth 100000 in
set_option maxHeartbeats 2000000 in
theorem sanity_c (w : World) : Calls Try.prog 9 #[] w (RetS w (.bool true)) := by
  have hS := St.start w (fun _ => none) (fun _ _ h => by cases h)
  refine calls_start 132 [] Try.func9 rfl Try.ntmps9 rfl rfl ?_
  refine CW.seq fun K1 hK1 => ?_
  refine CW.region [0] rfl ?_
  refine LW.ex rfl rfl rfl rfl (Ex.assign rfl) hS.rd ?_
  refine LW.nil fun aa ha => hK1 _ _ _ ?_ aa ha
  refine CW.seq fun K2 hK2 => ?_
  refine CW.region [0, 1, 2, 3, 4, 5, 6] rfl ?_
  refine LW.ex rfl rfl rfl rfl (Ex.buildS st43 rfl rfl rfl) hS.rd ?_
  refine LW.ex rfl rfl rfl rfl (Ex.buildS st43 rfl rfl rfl) hS.rd ?_
  refine LW.ex rfl rfl rfl rfl (Ex.buildS st43 rfl rfl rfl) hS.rd ?_
  refine LW.hv rfl rfl rfl rfl (Hv.buildSl hS Try.underlying36 ti43 rfl rfl rfl rfl rfl rfl) fun v w19 ⟨b19, hv, hb19, hS⟩ => ?_
  subst hv
  obtain ⟨μ2, hm2, hS, hx2⟩ := hS.shutRow (k := 0) (xs := x0.Edges) rfl (edgeReps _ x0.Edges) (by decide)
  dsimp only [List.eraseIdx] at hS
  refine LW.ex rfl rfl rfl rfl (Ex.buildS st38 rfl rfl rfl) hS.rd ?_
  refine LW.hv rfl rfl rfl rfl (Hv.alloc ti38 hS) fun v w1 ⟨b1, hv, hb1, hS⟩ => ?_
  subst hv
  refine LW.hu rfl rfl rfl (Hv.storeN (k := 0) ti38 hS rfl rfl rfl rfl (by simp [Value.oneCell'])) fun _ w_6 hS => ?_
  dsimp only [List.set] at hS
  refine LW.nil fun aa ha => hK2 _ _ _ ?_ aa ha
  refine CW.seq fun K3 hK3 => ?_
  refine CW.region [0, 1, 2, 3, 4] rfl ?_
  refine LW.hv rfl rfl rfl rfl (Hv.buildSl hS Try.underlying30 ti9 rfl rfl rfl rfl rfl rfl) fun v w21 ⟨b21, hv, hb21, hS⟩ => ?_
  subst hv
  refine LW.hv rfl rfl rfl rfl (Hv.buildSl hS Try.underlying31 ti3 rfl rfl rfl rfl rfl rfl) fun v w22 ⟨b22, hv, hb22, hS⟩ => ?_
  subst hv
  obtain ⟨μ3, hm3, hS, hw3⟩ := hS.shutRow (k := 1) (xs := m0.Words) rfl (RepL.strs _ m0.Words) (by decide)
  dsimp only [List.eraseIdx] at hS
  obtain ⟨μ4, hm4, hS, hc4⟩ := hS.shutRow (k := 0) (xs := m0.Counts) rfl (RepL.ints _ m0.Counts) (by decide)
  dsimp only [List.eraseIdx] at hS
  have hx4 : Sl μ4 _ 3 x0.Edges := (hx2.mono hm3).mono hm4
  have hw4 : Sl μ4 _ 3 m0.Words := hw3.mono hm4
  refine LW.ex rfl rfl rfl rfl (Ex.buildS st34 rfl rfl rfl) hS.rd ?_
  refine LW.hv rfl rfl rfl rfl (Hv.alloc ti34 hS) fun v w2 ⟨b2, hv, hb2, hS⟩ => ?_
  subst hv
  refine LW.hu rfl rfl rfl (Hv.storeN (k := 0) ti34 hS rfl rfl rfl rfl (by simp [Value.oneCell'])) fun _ w_4 hS => ?_
  dsimp only [List.set] at hS
  refine LW.nil fun aa ha => hK3 _ _ _ ?_ aa ha
  refine CW.seq fun K4 hK4 => ?_
  have hJr3 : ∀ (wj : World) (b3 : Nat) (b4 : Nat) (p0 p1 p2 p3 : Option Addr) (q0 q1 q2 q3 : Nat) (μ5 : Mem), St w wj μ5 [Own.obj b4 [.int .i64 1, .slice p2 0 q2, .slice p3 1 q3, .int .i64 0] 49, Own.obj b3 [.int .i64 3, .slice p0 3 q0, .slice p1 3 q1, .int .i64 0] 49, Own.obj b2 [.slice (some ⟨b21, 0, none⟩) 3 3, .slice (some ⟨b22, 0, none⟩) 3 3, .slice none 0 0, .int .i64 0] 34, Own.obj b1 [.int .i64 2, .slice (some ⟨b19, 0, none⟩) 3 3] 38] → (Sl μ5 (some ⟨b19, 0, none⟩) 3 x0.Edges) → (Sl μ5 (some ⟨b21, 0, none⟩) 3 m0.Words) → (Sl μ5 (some ⟨b22, 0, none⟩) 3 m0.Counts) → (Sl μ5 p0 q0 bW.G.Links) → (Sl μ5 p1 q1 bW.Last) → (Sl μ5 p2 q2 ([] : List Link)) → (Sl μ5 p3 q3 [(2 : Int)]) → KW K4 132 [(1, .pointer (some ⟨b1, 0, none⟩)), (2, .pointer (some ⟨b2, 0, none⟩)), (3, .pointer (some ⟨b3, 0, none⟩)), (4, .pointer (some ⟨b4, 0, none⟩))] wj := by
    intro wj b3 b4 p0 p1 p2 p3 q0 q1 q2 q3 μ5 hS hx5 hw5 hc5 hs0 hs1 hs2 hs3
    refine hK4 _ _ _ ?_
    refine CW.seq fun K5 hK5 => ?_
    refine CW.region [0, 1, 2, 3, 4, 5, 6, 7, 8] rfl ?_
    refine LW.ex rfl rfl rfl rfl (Ex.buildS st66 rfl rfl rfl) hS.rd ?_
    refine LW.ex rfl rfl rfl rfl (Ex.buildS st66 rfl rfl rfl) hS.rd ?_
    refine LW.ex rfl rfl rfl rfl (Ex.buildS st66 rfl rfl rfl) hS.rd ?_
    refine LW.hv rfl rfl rfl rfl (Hv.buildSl hS Try.underlying44 ti66 rfl rfl rfl rfl rfl rfl) fun v w33 ⟨b33, hv, hb33, hS⟩ => ?_
    subst hv
    refine LW.ex rfl rfl rfl rfl (Ex.buildS st46 rfl rfl rfl) hS.rd ?_
    refine LW.hv rfl rfl rfl rfl (Hv.buildSl hS Try.underlying31 ti3 rfl rfl rfl rfl rfl rfl) fun v w35 ⟨b35, hv, hb35, hS⟩ => ?_
    subst hv
    obtain ⟨μ6, hm6, hS, hl6⟩ := hS.shutRow (k := 1) (xs := bW.G.Links) rfl (linkReps _ bW.G.Links) (by decide)
    dsimp only [List.eraseIdx] at hS
    obtain ⟨μ7, hm7, hS, ht7⟩ := hS.shutRow (k := 0) (xs := bW.Last) rfl (RepL.ints _ bW.Last) (by decide)
    dsimp only [List.eraseIdx] at hS
    have hx7 := (hx5.mono hm6).mono hm7
    have hw7 := (hw5.mono hm6).mono hm7
    have hc7 := (hc5.mono hm6).mono hm7
    have hs0 := (hs0.mono hm6).mono hm7
    have hs1 := (hs1.mono hm6).mono hm7
    have hs2 := (hs2.mono hm6).mono hm7
    have hs3 := (hs3.mono hm6).mono hm7
    have hl7 := hl6.mono hm7
    refine LW.ex rfl rfl rfl rfl (Ex.buildS st49 rfl rfl rfl) hS.rd ?_
    refine LW.hv rfl rfl rfl rfl (Hv.alloc ti49 hS) fun v w5 ⟨b5, hv, hb5, hS⟩ => ?_
    subst hv
    refine LW.hu rfl rfl rfl (Hv.storeN (k := 0) ti49 hS rfl rfl rfl rfl (by simp [Value.oneCell'])) fun _ w_8 hS => ?_
    dsimp only [List.set] at hS
    refine LW.nil fun aa ha => hK5 _ _ _ ?_ aa ha
    refine CW.seq fun K6 hK6 => ?_
    refine CW.region [0, 1, 2, 3, 4, 5, 6, 7, 8] rfl ?_
    refine LW.ex rfl rfl rfl rfl (Ex.load2c ti38 rfl rfl (by first | exact obT rfl | exact Rd.imm ‹_› | exact slT ‹_›) (by first | exact obT rfl | exact Rd.imm ‹_› | exact slT ‹_›)) hS.rd ?_
    refine LW.ex rfl rfl rfl rfl (Ex.load4c ti34 rfl rfl (by first | exact obT rfl | exact Rd.imm ‹_› | exact slT ‹_›) (by first | exact obT rfl | exact Rd.imm ‹_› | exact slT ‹_›) (by first | exact obT rfl | exact Rd.imm ‹_› | exact slT ‹_›) (by first | exact obT rfl | exact Rd.imm ‹_› | exact slT ‹_›)) hS.rd ?_
    refine LW.hv rfl rfl rfl rfl (Hv.buildSl hS Try.underlying31 ti3 rfl rfl rfl rfl rfl rfl) fun v w40 ⟨b40, hv, hb40, hS⟩ => ?_
    subst hv
    refine LW.hv rfl rfl rfl rfl (Hv.callS hS rfl rfl rfl cb15 (cc_c x0 (-1) [0, 2] (25, true) c0_eq x0_small (by decide) _ _ _ _ _ _ _ _ (memOf _) _ (imm_memOf _) (hx7.mono hS.imm.ext) (hw7.mono hS.imm.ext) (hc7.mono hS.imm.ext) (hS.lend_obj (k := 0) rfl (RepL.ints _ [0, 2]) (by decide)))) fun v w41 ⟨hv, hS⟩ => ?_
    subst hv
    refine LW.ex rfl rfl rfl rfl (Ex.move rfl) hS.rd ?_
    refine LW.ex rfl rfl rfl rfl (Ex.extract rfl rfl) hS.rd ?_
    refine LW.ex rfl rfl rfl rfl (Ex.extract rfl rfl) hS.rd ?_
    refine LW.ex rfl rfl rfl rfl (Ex.assign rfl) hS.rd ?_
    refine LW.ex rfl rfl rfl rfl (Ex.assign rfl) hS.rd ?_
    refine LW.nil fun aa ha => hK6 _ _ _ ?_ aa ha
    refine CW.seq fun K7 hK7 => ?_
    refine CW.region [0, 1, 2, 3, 4, 5, 6, 7, 8] rfl ?_
    refine LW.ex rfl rfl rfl rfl (Ex.load2c ti38 rfl rfl (by first | exact obT rfl | exact Rd.imm ‹_› | exact slT ‹_›) (by first | exact obT rfl | exact Rd.imm ‹_› | exact slT ‹_›)) hS.rd ?_
    refine LW.ex rfl rfl rfl rfl (Ex.load4c ti34 rfl rfl (by first | exact obT rfl | exact Rd.imm ‹_› | exact slT ‹_›) (by first | exact obT rfl | exact Rd.imm ‹_› | exact slT ‹_›) (by first | exact obT rfl | exact Rd.imm ‹_› | exact slT ‹_›) (by first | exact obT rfl | exact Rd.imm ‹_› | exact slT ‹_›)) hS.rd ?_
    refine LW.hv rfl rfl rfl rfl (Hv.buildSl hS Try.underlying31 ti3 rfl rfl rfl rfl rfl rfl) fun v w47 ⟨b47, hv, hb47, hS⟩ => ?_
    subst hv
    refine LW.hv rfl rfl rfl rfl (Hv.callS hS rfl rfl rfl cb15 (cc_c x0 (-1) [1] (14, true) c1_eq x0_small (by decide) _ _ _ _ _ _ _ _ (memOf _) _ (imm_memOf _) (hx7.mono hS.imm.ext) (hw7.mono hS.imm.ext) (hc7.mono hS.imm.ext) (hS.lend_obj (k := 0) rfl (RepL.ints _ [1]) (by decide)))) fun v w48 ⟨hv, hS⟩ => ?_
    subst hv
    refine LW.ex rfl rfl rfl rfl (Ex.move rfl) hS.rd ?_
    refine LW.ex rfl rfl rfl rfl (Ex.extract rfl rfl) hS.rd ?_
    refine LW.ex rfl rfl rfl rfl (Ex.extract rfl rfl) hS.rd ?_
    refine LW.ex rfl rfl rfl rfl (Ex.assign rfl) hS.rd ?_
    refine LW.ex rfl rfl rfl rfl (Ex.assign rfl) hS.rd ?_
    refine LW.nil fun aa ha => hK7 _ _ _ ?_ aa ha
    refine CW.seq fun K8 hK8 => ?_
    refine CW.region [0, 1, 2, 3, 4, 5, 6, 7, 8] rfl ?_
    refine LW.ex rfl rfl rfl rfl (Ex.load2c ti38 rfl rfl (by first | exact obT rfl | exact Rd.imm ‹_› | exact slT ‹_›) (by first | exact obT rfl | exact Rd.imm ‹_› | exact slT ‹_›)) hS.rd ?_
    refine LW.ex rfl rfl rfl rfl (Ex.load4c ti34 rfl rfl (by first | exact obT rfl | exact Rd.imm ‹_› | exact slT ‹_›) (by first | exact obT rfl | exact Rd.imm ‹_› | exact slT ‹_›) (by first | exact obT rfl | exact Rd.imm ‹_› | exact slT ‹_›) (by first | exact obT rfl | exact Rd.imm ‹_› | exact slT ‹_›)) hS.rd ?_
    refine LW.hv rfl rfl rfl rfl (Hv.buildSl hS Try.underlying31 ti3 rfl rfl rfl rfl rfl rfl) fun v w54 ⟨b54, hv, hb54, hS⟩ => ?_
    subst hv
    refine LW.hv rfl rfl rfl rfl (Hv.callS hS rfl rfl rfl cb15 (cc_c x0 (-1) [0] (0, false) c2_eq x0_small (by decide) _ _ _ _ _ _ _ _ (memOf _) _ (imm_memOf _) (hx7.mono hS.imm.ext) (hw7.mono hS.imm.ext) (hc7.mono hS.imm.ext) (hS.lend_obj (k := 0) rfl (RepL.ints _ [0]) (by decide)))) fun v w55 ⟨hv, hS⟩ => ?_
    subst hv
    refine LW.ex rfl rfl rfl rfl (Ex.move rfl) hS.rd ?_
    refine LW.ex rfl rfl rfl rfl (Ex.extract rfl rfl) hS.rd ?_
    refine LW.ex rfl rfl rfl rfl (Ex.extract rfl rfl) hS.rd ?_
    refine LW.ex rfl rfl rfl rfl (Ex.assign rfl) hS.rd ?_
    refine LW.ex rfl rfl rfl rfl (Ex.assign rfl) hS.rd ?_
    refine LW.nil fun aa ha => hK8 _ _ _ ?_ aa ha
    refine CW.seq fun K9 hK9 => ?_
    refine CW.region [0, 1, 2, 3, 4, 5, 6, 7] rfl ?_
    refine LW.ex rfl rfl rfl rfl (Ex.buildS st38 rfl rfl rfl) hS.rd ?_
    refine LW.ex rfl rfl rfl rfl (Ex.load4c ti34 rfl rfl (by first | exact obT rfl | exact Rd.imm ‹_› | exact slT ‹_›) (by first | exact obT rfl | exact Rd.imm ‹_› | exact slT ‹_›) (by first | exact obT rfl | exact Rd.imm ‹_› | exact slT ‹_›) (by first | exact obT rfl | exact Rd.imm ‹_› | exact slT ‹_›)) hS.rd ?_
    refine LW.hv rfl rfl rfl rfl (Hv.callS hS rfl rfl rfl cb15 (cc_c xE 2 [] (0, true) c3_eq (fun e he => by cases he) (by decide) _ _ _ _ _ _ _ _ _ _ hS.imm (Sl.nil _ _ _ (by simp [maxLen])) hw7 hc7 (Sl.nil _ _ _ (by simp [maxLen])))) fun v w61 ⟨hv, hS⟩ => ?_
    subst hv
    refine LW.ex rfl rfl rfl rfl (Ex.move rfl) hS.rd ?_
    refine LW.ex rfl rfl rfl rfl (Ex.extract rfl rfl) hS.rd ?_
    refine LW.ex rfl rfl rfl rfl (Ex.extract rfl rfl) hS.rd ?_
    refine LW.ex rfl rfl rfl rfl (Ex.assign rfl) hS.rd ?_
    refine LW.ex rfl rfl rfl rfl (Ex.assign rfl) hS.rd ?_
    refine LW.nil fun aa ha => hK9 _ _ _ ?_ aa ha
    refine CW.seq fun K10 hK10 => ?_
    refine CW.region [0, 1, 2, 3, 4, 5, 6, 7, 8, 9, 10, 11, 12, 13, 14, 15, 16, 17, 18, 19, 20, 21, 22, 23, 24, 25, 26, 27, 28, 29, 30, 31] rfl ?_
    refine LW.ex rfl rfl rfl rfl (Ex.load4c ti49 rfl rfl (by first | exact obT rfl | exact Rd.imm ‹_› | exact slT ‹_›) (by first | exact obT rfl | exact Rd.imm ‹_› | exact slT ‹_›) (by first | exact obT rfl | exact Rd.imm ‹_› | exact slT ‹_›) (by first | exact obT rfl | exact Rd.imm ‹_› | exact slT ‹_›)) hS.rd ?_
    refine LW.ex rfl rfl rfl rfl (Ex.load4c ti49 rfl rfl (by first | exact obT rfl | exact Rd.imm ‹_› | exact slT ‹_›) (by first | exact obT rfl | exact Rd.imm ‹_› | exact slT ‹_›) (by first | exact obT rfl | exact Rd.imm ‹_› | exact slT ‹_›) (by first | exact obT rfl | exact Rd.imm ‹_› | exact slT ‹_›)) hS.rd ?_
    refine LW.hv rfl rfl rfl rfl (Hv.callS hS rfl rfl rfl cb17 (sameB_c bW bW _ _ _ _ _ _ _ _ _ _ hS.imm hs0 hs1 hl7 ht7)) fun v w66 ⟨hv, hS⟩ => ?_
    subst hv
    refine LW.splitB (fun h9_2 => ?_) (fun h9_2 => ?_)
    · skip
      refine LW.ex rfl rfl rfl rfl (Ex.move rfl) hS.rd ?_
      refine LW.ex rfl rfl rfl rfl (Ex.load4c ti49 rfl rfl (by first | exact obT rfl | exact Rd.imm ‹_› | exact slT ‹_›) (by first | exact obT rfl | exact Rd.imm ‹_› | exact slT ‹_›) (by first | exact obT rfl | exact Rd.imm ‹_› | exact slT ‹_›) (by first | exact obT rfl | exact Rd.imm ‹_› | exact slT ‹_›)) hS.rd ?_
      refine LW.ex rfl rfl rfl rfl (Ex.buildS st46 rfl rfl rfl) hS.rd ?_
      refine LW.hv rfl rfl rfl rfl (Hv.buildSl hS Try.underlying31 ti3 rfl rfl rfl rfl rfl rfl) fun v w70 ⟨b70, hv, hb70, hS⟩ => ?_
      subst hv
      refine LW.ex rfl rfl rfl rfl (Ex.buildS st49 rfl rfl rfl) hS.rd ?_
      refine LW.hv rfl rfl rfl rfl (Hv.callS hS rfl rfl rfl cb17 (sameB_c ⟨⟨1, []⟩, [2], 0⟩ ⟨⟨1, []⟩, [2], 0⟩ _ _ _ _ _ _ _ _ (memOf _) _ (imm_memOf _) (hs2.mono hS.imm.ext) (hs3.mono hS.imm.ext) (Sl.nil _ _ _ (by simp [maxLen])) (hS.lend_obj (k := 0) rfl (RepL.ints _ [2]) (by decide)))) fun v w72 ⟨hv, hS⟩ => ?_
      subst hv
      refine LW.splitB (fun h9_8 => ?_) (fun h9_8 => ?_)
      · skip
        refine LW.ex rfl rfl rfl rfl (by first | exact Ex.pick_yes rfl rfl | exact Ex.pick_no rfl rfl) hS.rd ?_
        refine LW.ex rfl rfl rfl rfl (Ex.move rfl) hS.rd ?_
        refine LW.ex rfl rfl rfl rfl (Ex.load2c ti38 rfl rfl (by first | exact obT rfl | exact Rd.imm ‹_› | exact slT ‹_›) (by first | exact obT rfl | exact Rd.imm ‹_› | exact slT ‹_›)) hS.rd ?_
        refine LW.ex rfl rfl rfl rfl (Ex.load4c ti34 rfl rfl (by first | exact obT rfl | exact Rd.imm ‹_› | exact slT ‹_›) (by first | exact obT rfl | exact Rd.imm ‹_› | exact slT ‹_›) (by first | exact obT rfl | exact Rd.imm ‹_› | exact slT ‹_›) (by first | exact obT rfl | exact Rd.imm ‹_› | exact slT ‹_›)) hS.rd ?_
        refine LW.hv rfl rfl rfl rfl (Hv.callV hS rfl rfl rfl cb13 (lb3_c b19 _ _ _ _ _ _ hS.imm hx7 hw7 hc7)) fun v w77 ⟨μ77, hv77, hm77, hS⟩ => ?_
        obtain ⟨e0, d0, e1, d1, hv, _, _⟩ := hv77
        subst hv
        have hx8 := hx7.mono hm77
        have hw8 := hw7.mono hm77
        have hc8 := hc7.mono hm77
        refine LW.ex rfl rfl rfl rfl (Ex.fieldV Try.underlying49 rfl ti47 rfl rfl rfl) hS.rd ?_
        refine LW.ex rfl rfl rfl rfl (Ex.eql rfl rfl rfl) hS.rd ?_
        refine LW.splitB (fun h9_15 => ?_) (fun h9_15 => ?_)
        · have h9_15 := of_decide_eq_true h9_15
          refine LW.ex rfl rfl rfl rfl (by first | exact Ex.pick_yes rfl rfl | exact Ex.pick_no rfl rfl) hS.rd ?_
          refine LW.ex rfl rfl rfl rfl (Ex.move rfl) hS.rd ?_
          refine LW.ex rfl rfl rfl rfl (Ex.load2c ti38 rfl rfl (by first | exact obT rfl | exact Rd.imm ‹_› | exact slT ‹_›) (by first | exact obT rfl | exact Rd.imm ‹_› | exact slT ‹_›)) hS.rd ?_
          refine LW.ex rfl rfl rfl rfl (Ex.buildS st34 rfl rfl rfl) hS.rd ?_
          refine LW.hv rfl rfl rfl rfl (Hv.callV hS rfl rfl rfl cb13 (lbM_c b19 _ _ hS.imm hx8)) fun v w84 ⟨μ84, hv84, hm84, hS⟩ => ?_
          obtain ⟨e0, d0, e1, d1, hv, _, _⟩ := hv84
          subst hv
          have hx8 := hx8.mono hm84
          have hw8 := hw8.mono hm84
          have hc8 := hc8.mono hm84
          refine LW.ex rfl rfl rfl rfl (Ex.fieldV Try.underlying49 rfl ti47 rfl rfl rfl) hS.rd ?_
          refine LW.ex rfl rfl rfl rfl (Ex.eql rfl rfl rfl) hS.rd ?_
          refine LW.splitB (fun h9_22 => ?_) (fun h9_22 => ?_)
          · have h9_22 := of_decide_eq_true h9_22
            refine LW.ex rfl rfl rfl rfl (by first | exact Ex.pick_yes rfl rfl | exact Ex.pick_no rfl rfl) hS.rd ?_
            refine LW.ex rfl rfl rfl rfl (Ex.move rfl) hS.rd ?_
            refine LW.ex rfl rfl rfl rfl (Ex.buildS st38 rfl rfl rfl) hS.rd ?_
            refine LW.ex rfl rfl rfl rfl (Ex.load4c ti34 rfl rfl (by first | exact obT rfl | exact Rd.imm ‹_› | exact slT ‹_›) (by first | exact obT rfl | exact Rd.imm ‹_› | exact slT ‹_›) (by first | exact obT rfl | exact Rd.imm ‹_› | exact slT ‹_›) (by first | exact obT rfl | exact Rd.imm ‹_› | exact slT ‹_›)) hS.rd ?_
            refine LW.hv rfl rfl rfl rfl (Hv.callV hS rfl rfl rfl cb13 (lbB_c 0 _ _ _ _ _ _ hS.imm hw8 hc8)) fun v w91 ⟨μ91, hv91, hm91, hS⟩ => ?_
            obtain ⟨e0, d0, e1, d1, hv, _, _⟩ := hv91
            subst hv
            have hx8 := hx8.mono hm91
            refine LW.ex rfl rfl rfl rfl (Ex.fieldV Try.underlying49 rfl ti47 rfl rfl rfl) hS.rd ?_
            refine LW.ex rfl rfl rfl rfl (Ex.eql rfl rfl rfl) hS.rd ?_
            refine LW.splitB (fun h9_29 => ?_) (fun h9_29 => ?_)
            · have h9_29 := of_decide_eq_true h9_29
              refine LW.ex rfl rfl rfl rfl (by first | exact Ex.pick_yes rfl rfl | exact Ex.pick_no rfl rfl) hS.rd ?_
              refine LW.ex rfl rfl rfl rfl (Ex.assign rfl) hS.rd ?_
              refine LW.nil fun aa ha => hK10 _ _ _ ?_ aa ha
              refine CW.seq fun K11 hK11 => ?_
              refine CW.region [0, 1, 2, 3, 4, 5, 6, 7, 8, 9, 10, 11, 12, 13, 14, 15, 16, 17, 18, 19, 20, 21, 22, 23] rfl ?_
              refine LW.ex rfl rfl rfl rfl (Ex.move rfl) hS.rd ?_
              refine LW.ex rfl rfl rfl rfl (Ex.eql rfl rfl (decide_eq_true (by omega))) hS.rd ?_
              refine LW.ex rfl rfl rfl rfl (Ex.move rfl) hS.rd ?_
              refine LW.ex rfl rfl rfl rfl (Ex.move rfl) hS.rd ?_
              refine LW.ex rfl rfl rfl rfl (by first | exact Ex.pick_yes rfl rfl | exact Ex.pick_no rfl rfl) hS.rd ?_
              refine LW.ex rfl rfl rfl rfl (Ex.move rfl) hS.rd ?_
              refine LW.ex rfl rfl rfl rfl (Ex.move rfl) hS.rd ?_
              refine LW.ex rfl rfl rfl rfl (Ex.eql rfl rfl (decide_eq_true (by omega))) hS.rd ?_
              refine LW.ex rfl rfl rfl rfl (by first | exact Ex.pick_yes rfl rfl | exact Ex.pick_no rfl rfl) hS.rd ?_
              refine LW.ex rfl rfl rfl rfl (Ex.move rfl) hS.rd ?_
              refine LW.ex rfl rfl rfl rfl (Ex.move rfl) hS.rd ?_
              refine LW.ex rfl rfl rfl rfl (by first | exact Ex.pick_yes rfl rfl | exact Ex.pick_no rfl rfl) hS.rd ?_
              refine LW.ex rfl rfl rfl rfl (Ex.move rfl) hS.rd ?_
              refine LW.ex rfl rfl rfl rfl (Ex.move rfl) hS.rd ?_
              refine LW.ex rfl rfl rfl rfl (Ex.not rfl rfl) hS.rd ?_
              refine LW.ex rfl rfl rfl rfl (by first | exact Ex.pick_yes rfl rfl | exact Ex.pick_no rfl rfl) hS.rd ?_
              refine LW.ex rfl rfl rfl rfl (Ex.move rfl) hS.rd ?_
              refine LW.ex rfl rfl rfl rfl (Ex.move rfl) hS.rd ?_
              refine LW.ex rfl rfl rfl rfl (Ex.eql rfl rfl (decide_eq_true (by omega))) hS.rd ?_
              refine LW.ex rfl rfl rfl rfl (by first | exact Ex.pick_yes rfl rfl | exact Ex.pick_no rfl rfl) hS.rd ?_
              refine LW.ex rfl rfl rfl rfl (Ex.move rfl) hS.rd ?_
              refine LW.ex rfl rfl rfl rfl (Ex.move rfl) hS.rd ?_
              refine LW.ex rfl rfl rfl rfl (by first | exact Ex.pick_yes rfl rfl | exact Ex.pick_no rfl rfl) hS.rd ?_
              refine LW.ex rfl rfl rfl rfl (Ex.assign rfl) hS.rd ?_
              refine LW.nil fun aa ha => hK11 _ _ _ ?_ aa ha
              refine CW.seq fun K12 hK12 => ?_
              refine CW.region [0, 1, 2, 3, 4, 5, 6, 7, 8, 9, 10, 11, 12, 13, 14] rfl ?_
              refine LW.ex rfl rfl rfl rfl (Ex.move rfl) hS.rd ?_
              refine LW.ex rfl rfl rfl rfl (Ex.move rfl) hS.rd ?_
              refine LW.ex rfl rfl rfl rfl (Ex.move rfl) hS.rd ?_
              refine LW.ex rfl rfl rfl rfl (by first | exact Ex.pick_yes rfl rfl | exact Ex.pick_no rfl rfl) hS.rd ?_
              refine LW.ex rfl rfl rfl rfl (Ex.move rfl) hS.rd ?_
              refine LW.ex rfl rfl rfl rfl (Ex.load2c ti38 rfl rfl (by first | exact obT rfl | exact Rd.imm ‹_› | exact slT ‹_›) (by first | exact obT rfl | exact Rd.imm ‹_› | exact slT ‹_›)) hS.rd ?_
              refine LW.ex rfl rfl rfl rfl (Ex.fieldO 0 Try.underlying49 rfl rfl ti46 rfl) hS.rd ?_
              refine LW.ex rfl rfl rfl rfl (Ex.load2c ti46 rfl rfl (by first | exact obT rfl | exact Rd.imm ‹_› | exact slT ‹_›) (by first | exact obT rfl | exact Rd.imm ‹_› | exact slT ‹_›)) hS.rd ?_
              refine LW.hv rfl rfl rfl rfl (Hv.buildSl hS Try.underlying31 ti3 rfl rfl rfl rfl rfl rfl) fun v w126 ⟨b126, hv, hb126, hS⟩ => ?_
              subst hv
              obtain ⟨μ9, hm9, hS, hk9⟩ := hS.shutRow (k := 0) (xs := [(0 : Int), 2]) rfl (RepL.ints _ [0, 2]) (by decide)
              dsimp only [List.eraseIdx] at hS
              have hx9 := hx8.mono hm9
              refine LW.ex rfl rfl rfl rfl (Ex.buildS st58 rfl rfl rfl) hS.rd ?_
              refine LW.hv rfl rfl rfl rfl (Hv.callV hS rfl rfl rfl cb19 (cwords_c x0 bW.G [0, 2] 0 linksIn0 (by decide) _ _ _ _ _ _ _ _ hS.imm hx9 (((((hl7.mono hm77).mono hm84).mono hm91)).mono hm9) hk9)) fun v w128 ⟨μ128, hv128, hm128, hS⟩ => ?_
              obtain ⟨a128, c128, hv, hs128⟩ := hv128
              subst hv
              refine LW.hv rfl rfl rfl rfl (Hv.buildSl hS Try.underlying31 ti3 rfl rfl rfl rfl rfl rfl) fun v w129 ⟨b129, hv, hb129, hS⟩ => ?_
              subst hv
              refine LW.hv rfl rfl rfl rfl (Hv.callS hS rfl rfl rfl cb18 (ints_c [1, 2] [1, 2] _ _ _ _ (memOf _) _ (imm_memOf _) (hs128.mono hS.imm.ext) (hS.lend_obj (k := 0) rfl (RepL.ints _ [1, 2]) (by decide)))) fun v w130 ⟨hv, hS⟩ => ?_
              subst hv
              refine LW.ex rfl rfl rfl rfl (by first | exact Ex.pick_yes rfl rfl | exact Ex.pick_no rfl rfl) hS.rd ?_
              refine LW.ex rfl rfl rfl rfl (Ex.assign rfl) hS.rd ?_
              refine LW.nil fun aa ha => hK12 _ _ _ ?_ aa ha
              refine CW.ret fun aa ha => ?_
              refine ret_one ha Try.results9 rfl ?_
              exact hS.retB (by decide)
            · have h9_29 := of_decide_eq_false h9_29
              exact absurd rfl h9_29
          · have h9_22 := of_decide_eq_false h9_22
            exact absurd rfl h9_22
        · have h9_15 := of_decide_eq_false h9_15
          exact absurd rfl h9_15
      · rw [sameB_self] at h9_8; cases h9_8
    · rw [sameB_self] at h9_2; cases h9_2
  have hS := hS.drew
  refine CW.draw 8 (.ex 0 <| .ex 1 <| .ex 3 <| .ex 4 <| .three 2 (.three 5 (.two 6 (.one 7 <| .done) 7 (.one 6 <| .done)) 6 (.two 5 (.one 7 <| .done) 7 (.one 5 <| .done)) 7 (.two 5 (.one 6 <| .done) 6 (.one 5 <| .done))) 6 (.two 2 (.two 5 (.one 7 <| .done) 7 (.one 5 <| .done)) 7 (.one 2 <| .one 5 <| .done)) 7 (.two 2 (.two 5 (.one 6 <| .done) 6 (.one 5 <| .done)) 6 (.one 2 <| .one 5 <| .done))) [8, 9] (Rd _ _) mixed (by kernel_rfl) rfl rfl hS.rd ?_
  refine PW.ex rfl rfl rfl rfl (Ex.load2c ti38 rfl rfl (by first | exact obT rfl | exact Rd.imm ‹_› | exact slT ‹_›) (by first | exact obT rfl | exact Rd.imm ‹_› | exact slT ‹_›)) ?_
  refine PW.ex rfl rfl rfl rfl (Ex.load4c ti34 rfl rfl (by first | exact obT rfl | exact Rd.imm ‹_› | exact slT ‹_›) (by first | exact obT rfl | exact Rd.imm ‹_› | exact slT ‹_›) (by first | exact obT rfl | exact Rd.imm ‹_› | exact slT ‹_›) (by first | exact obT rfl | exact Rd.imm ‹_› | exact slT ‹_›)) ?_
  refine PW.ex rfl rfl rfl rfl (Ex.buildS st38 rfl rfl rfl) ?_
  refine PW.ex rfl rfl rfl rfl (Ex.load4c ti34 rfl rfl (by first | exact obT rfl | exact Rd.imm ‹_› | exact slT ‹_›) (by first | exact obT rfl | exact Rd.imm ‹_› | exact slT ‹_›) (by first | exact obT rfl | exact Rd.imm ‹_› | exact slT ‹_›) (by first | exact obT rfl | exact Rd.imm ‹_› | exact slT ‹_›)) ?_
  refine PW.three rfl rfl rfl rfl rfl rfl rfl rfl rfl rfl rfl rfl (Hv.callV hS rfl rfl rfl cb13 (lb0_c b19 _ _ _ _ _ _ hS.imm hx4 hw4 hc4)) (fun _ _ ⟨_, _, hm, h⟩ => Rd.le hm h.rd) (Hv.alloc ti49 hS) (fun _ _ ⟨_, _, _, h⟩ => h.rd.tail) (Hv.alloc ti49 hS) (fun _ _ ⟨_, _, _, h⟩ => h.rd.tail) (fun v w26 ⟨μ26, hv26, hm26, hS⟩ => ?gA13) (fun v w3 ⟨b3, hv, hb3, hS⟩ => ?gB13) (fun v w4 ⟨b4, hv, hb4, hS⟩ => ?gC13)
  case gA13 =>
    skip
    obtain ⟨p0, q0, p1, q1, hv, hs0, hs1⟩ := hv26
    subst hv
    have hx4 := hx4.mono hm26
    have hw4 := hw4.mono hm26
    have hc4 := hc4.mono hm26
    refine PW.three rfl rfl rfl rfl rfl rfl rfl rfl rfl rfl rfl rfl (Hv.callV hS rfl rfl rfl cb13 (lbE_c 0 _ _ _ _ _ _ hS.imm hw4 hc4)) (fun _ _ ⟨_, _, hm, h⟩ => Rd.le hm26 (Rd.le hm h.rd)) (Hv.alloc ti49 hS) (fun _ _ ⟨_, _, _, h⟩ => Rd.le hm26 (h.rd.tail)) (Hv.alloc ti49 hS) (fun _ _ ⟨_, _, _, h⟩ => Rd.le hm26 (h.rd.tail)) (fun v w29 ⟨μ29, hv29, hm29, hS⟩ => ?gA14) (fun v w3 ⟨b3, hv, hb3, hS⟩ => ?gB14) (fun v w4 ⟨b4, hv, hb4, hS⟩ => ?gC14)
    case gA14 =>
      skip
      obtain ⟨p2, q2, p3, q3, hv, hs2, hs3⟩ := hv29
      subst hv
      have hx4 := hx4.mono hm29
      have hw4 := hw4.mono hm29
      have hc4 := hc4.mono hm29
      have hs0 := hs0.mono hm29
      have hs1 := hs1.mono hm29
      refine PW.two rfl rfl rfl rfl rfl rfl rfl rfl (Hv.alloc ti49 hS) (fun _ _ ⟨_, _, _, h⟩ => Rd.le hm26 (Rd.le hm29 (h.rd.tail))) (Hv.alloc ti49 hS) (fun _ _ ⟨_, _, _, h⟩ => Rd.le hm26 (Rd.le hm29 (h.rd.tail))) (fun v w3 ⟨b3, hv, hb3, hS⟩ => ?gA15) (fun v w4 ⟨b4, hv, hb4, hS⟩ => ?gB15)
      case gA15 =>
        skip
        subst hv
        refine PW.hv rfl rfl rfl rfl (Hv.alloc ti49 hS) (fun _ _ ⟨_, _, _, h⟩ => Rd.le hm26 (Rd.le hm29 (h.rd.tail.tail))) fun v w4 ⟨b4, hv, hb4, hS⟩ => ?_
        subst hv
        refine PW.nil ?_
        first | (have hS := (hS : St w _ _ (Own.obj b4 _ _ :: _))) | (have hS := hS.swap)
        refine LW.hu rfl rfl rfl (Hv.storeN (k := 1) ti49 hS rfl rfl rfl rfl (by simp [Value.oneCell'])) fun _ w_8 hS => ?_
        dsimp only [List.set] at hS
        refine LW.hu rfl rfl rfl (Hv.storeN (k := 0) ti49 hS rfl rfl rfl rfl (by simp [Value.oneCell'])) fun _ w_9 hS => ?_
        dsimp only [List.set] at hS
        refine LW.nil fun aa ha => ?_
        refine hJr3 _ (b3) (b4) (p0) (p1) (p2) (p3) (q0) (q1) (q2) (q3) (μ29) hS (hx4) (hw4) (hc4) (hs0) (hs1) (hs2) (hs3) aa (ha.sub ⟨rfl, rfl, rfl, rfl, trivial⟩)
      case gB15 =>
        skip
        subst hv
        refine PW.hv rfl rfl rfl rfl (Hv.alloc ti49 hS) (fun _ _ ⟨_, _, _, h⟩ => Rd.le hm26 (Rd.le hm29 (h.rd.tail.tail))) fun v w3 ⟨b3, hv, hb3, hS⟩ => ?_
        subst hv
        refine PW.nil ?_
        first | (have hS := (hS : St w _ _ (Own.obj b4 _ _ :: _))) | (have hS := hS.swap)
        refine LW.hu rfl rfl rfl (Hv.storeN (k := 1) ti49 hS rfl rfl rfl rfl (by simp [Value.oneCell'])) fun _ w_8 hS => ?_
        dsimp only [List.set] at hS
        refine LW.hu rfl rfl rfl (Hv.storeN (k := 0) ti49 hS rfl rfl rfl rfl (by simp [Value.oneCell'])) fun _ w_9 hS => ?_
        dsimp only [List.set] at hS
        refine LW.nil fun aa ha => ?_
        refine hJr3 _ (b3) (b4) (p0) (p1) (p2) (p3) (q0) (q1) (q2) (q3) (μ29) hS (hx4) (hw4) (hc4) (hs0) (hs1) (hs2) (hs3) aa (ha.sub ⟨rfl, rfl, rfl, rfl, trivial⟩)
    case gB14 =>
      skip
      subst hv
      refine PW.two rfl rfl rfl rfl rfl rfl rfl rfl (Hv.callV hS rfl rfl rfl cb13 (lbE_c 0 _ _ _ _ _ _ hS.imm hw4 hc4)) (fun _ _ ⟨_, _, hm, h⟩ => Rd.le hm26 (Rd.le hm h.rd.tail)) (Hv.alloc ti49 hS) (fun _ _ ⟨_, _, _, h⟩ => Rd.le hm26 (h.rd.tail.tail)) (fun v w29 ⟨μ29, hv29, hm29, hS⟩ => ?gA16) (fun v w4 ⟨b4, hv, hb4, hS⟩ => ?gB16)
      case gA16 =>
        skip
        obtain ⟨p2, q2, p3, q3, hv, hs2, hs3⟩ := hv29
        subst hv
        have hx4 := hx4.mono hm29
        have hw4 := hw4.mono hm29
        have hc4 := hc4.mono hm29
        have hs0 := hs0.mono hm29
        have hs1 := hs1.mono hm29
        refine PW.hv rfl rfl rfl rfl (Hv.alloc ti49 hS) (fun _ _ ⟨_, _, _, h⟩ => Rd.le hm26 (Rd.le hm29 (h.rd.tail.tail))) fun v w4 ⟨b4, hv, hb4, hS⟩ => ?_
        subst hv
        refine PW.nil ?_
        first | (have hS := (hS : St w _ _ (Own.obj b4 _ _ :: _))) | (have hS := hS.swap)
        refine LW.hu rfl rfl rfl (Hv.storeN (k := 1) ti49 hS rfl rfl rfl rfl (by simp [Value.oneCell'])) fun _ w_8 hS => ?_
        dsimp only [List.set] at hS
        refine LW.hu rfl rfl rfl (Hv.storeN (k := 0) ti49 hS rfl rfl rfl rfl (by simp [Value.oneCell'])) fun _ w_9 hS => ?_
        dsimp only [List.set] at hS
        refine LW.nil fun aa ha => ?_
        refine hJr3 _ (b3) (b4) (p0) (p1) (p2) (p3) (q0) (q1) (q2) (q3) (μ29) hS (hx4) (hw4) (hc4) (hs0) (hs1) (hs2) (hs3) aa (ha.sub ⟨rfl, rfl, rfl, rfl, trivial⟩)
      case gB16 =>
        skip
        subst hv
        refine PW.hv rfl rfl rfl rfl (Hv.callV hS rfl rfl rfl cb13 (lbE_c 0 _ _ _ _ _ _ hS.imm hw4 hc4)) (fun _ _ ⟨_, _, hm, h⟩ => Rd.le hm26 (Rd.le hm h.rd.tail.tail)) fun v w29 ⟨μ29, hv29, hm29, hS⟩ => ?_
        obtain ⟨p2, q2, p3, q3, hv, hs2, hs3⟩ := hv29
        subst hv
        have hx4 := hx4.mono hm29
        have hw4 := hw4.mono hm29
        have hc4 := hc4.mono hm29
        have hs0 := hs0.mono hm29
        have hs1 := hs1.mono hm29
        refine PW.nil ?_
        first | (have hS := (hS : St w _ _ (Own.obj b4 _ _ :: _))) | (have hS := hS.swap)
        refine LW.hu rfl rfl rfl (Hv.storeN (k := 1) ti49 hS rfl rfl rfl rfl (by simp [Value.oneCell'])) fun _ w_8 hS => ?_
        dsimp only [List.set] at hS
        refine LW.hu rfl rfl rfl (Hv.storeN (k := 0) ti49 hS rfl rfl rfl rfl (by simp [Value.oneCell'])) fun _ w_9 hS => ?_
        dsimp only [List.set] at hS
        refine LW.nil fun aa ha => ?_
        refine hJr3 _ (b3) (b4) (p0) (p1) (p2) (p3) (q0) (q1) (q2) (q3) (μ29) hS (hx4) (hw4) (hc4) (hs0) (hs1) (hs2) (hs3) aa (ha.sub ⟨rfl, rfl, rfl, rfl, trivial⟩)
    case gC14 =>
      skip
      subst hv
      refine PW.two rfl rfl rfl rfl rfl rfl rfl rfl (Hv.callV hS rfl rfl rfl cb13 (lbE_c 0 _ _ _ _ _ _ hS.imm hw4 hc4)) (fun _ _ ⟨_, _, hm, h⟩ => Rd.le hm26 (Rd.le hm h.rd.tail)) (Hv.alloc ti49 hS) (fun _ _ ⟨_, _, _, h⟩ => Rd.le hm26 (h.rd.tail.tail)) (fun v w29 ⟨μ29, hv29, hm29, hS⟩ => ?gA17) (fun v w3 ⟨b3, hv, hb3, hS⟩ => ?gB17)
      case gA17 =>
        skip
        obtain ⟨p2, q2, p3, q3, hv, hs2, hs3⟩ := hv29
        subst hv
        have hx4 := hx4.mono hm29
        have hw4 := hw4.mono hm29
        have hc4 := hc4.mono hm29
        have hs0 := hs0.mono hm29
        have hs1 := hs1.mono hm29
        refine PW.hv rfl rfl rfl rfl (Hv.alloc ti49 hS) (fun _ _ ⟨_, _, _, h⟩ => Rd.le hm26 (Rd.le hm29 (h.rd.tail.tail))) fun v w3 ⟨b3, hv, hb3, hS⟩ => ?_
        subst hv
        refine PW.nil ?_
        first | (have hS := (hS : St w _ _ (Own.obj b4 _ _ :: _))) | (have hS := hS.swap)
        refine LW.hu rfl rfl rfl (Hv.storeN (k := 1) ti49 hS rfl rfl rfl rfl (by simp [Value.oneCell'])) fun _ w_8 hS => ?_
        dsimp only [List.set] at hS
        refine LW.hu rfl rfl rfl (Hv.storeN (k := 0) ti49 hS rfl rfl rfl rfl (by simp [Value.oneCell'])) fun _ w_9 hS => ?_
        dsimp only [List.set] at hS
        refine LW.nil fun aa ha => ?_
        refine hJr3 _ (b3) (b4) (p0) (p1) (p2) (p3) (q0) (q1) (q2) (q3) (μ29) hS (hx4) (hw4) (hc4) (hs0) (hs1) (hs2) (hs3) aa (ha.sub ⟨rfl, rfl, rfl, rfl, trivial⟩)
      case gB17 =>
        skip
        subst hv
        refine PW.hv rfl rfl rfl rfl (Hv.callV hS rfl rfl rfl cb13 (lbE_c 0 _ _ _ _ _ _ hS.imm hw4 hc4)) (fun _ _ ⟨_, _, hm, h⟩ => Rd.le hm26 (Rd.le hm h.rd.tail.tail)) fun v w29 ⟨μ29, hv29, hm29, hS⟩ => ?_
        obtain ⟨p2, q2, p3, q3, hv, hs2, hs3⟩ := hv29
        subst hv
        have hx4 := hx4.mono hm29
        have hw4 := hw4.mono hm29
        have hc4 := hc4.mono hm29
        have hs0 := hs0.mono hm29
        have hs1 := hs1.mono hm29
        refine PW.nil ?_
        first | (have hS := (hS : St w _ _ (Own.obj b4 _ _ :: _))) | (have hS := hS.swap)
        refine LW.hu rfl rfl rfl (Hv.storeN (k := 1) ti49 hS rfl rfl rfl rfl (by simp [Value.oneCell'])) fun _ w_8 hS => ?_
        dsimp only [List.set] at hS
        refine LW.hu rfl rfl rfl (Hv.storeN (k := 0) ti49 hS rfl rfl rfl rfl (by simp [Value.oneCell'])) fun _ w_9 hS => ?_
        dsimp only [List.set] at hS
        refine LW.nil fun aa ha => ?_
        refine hJr3 _ (b3) (b4) (p0) (p1) (p2) (p3) (q0) (q1) (q2) (q3) (μ29) hS (hx4) (hw4) (hc4) (hs0) (hs1) (hs2) (hs3) aa (ha.sub ⟨rfl, rfl, rfl, rfl, trivial⟩)
  case gB13 =>
    skip
    subst hv
    refine PW.two rfl rfl rfl rfl rfl rfl rfl rfl (Hv.callV hS rfl rfl rfl cb13 (lb0_c b19 _ _ _ _ _ _ hS.imm hx4 hw4 hc4)) (fun _ _ ⟨_, _, hm, h⟩ => Rd.le hm h.rd.tail) (Hv.alloc ti49 hS) (fun _ _ ⟨_, _, _, h⟩ => h.rd.tail.tail) (fun v w26 ⟨μ26, hv26, hm26, hS⟩ => ?gA18) (fun v w4 ⟨b4, hv, hb4, hS⟩ => ?gB18)
    case gA18 =>
      skip
      obtain ⟨p0, q0, p1, q1, hv, hs0, hs1⟩ := hv26
      subst hv
      have hx4 := hx4.mono hm26
      have hw4 := hw4.mono hm26
      have hc4 := hc4.mono hm26
      refine PW.two rfl rfl rfl rfl rfl rfl rfl rfl (Hv.callV hS rfl rfl rfl cb13 (lbE_c 0 _ _ _ _ _ _ hS.imm hw4 hc4)) (fun _ _ ⟨_, _, hm, h⟩ => Rd.le hm26 (Rd.le hm h.rd.tail)) (Hv.alloc ti49 hS) (fun _ _ ⟨_, _, _, h⟩ => Rd.le hm26 (h.rd.tail.tail)) (fun v w29 ⟨μ29, hv29, hm29, hS⟩ => ?gA19) (fun v w4 ⟨b4, hv, hb4, hS⟩ => ?gB19)
      case gA19 =>
        skip
        obtain ⟨p2, q2, p3, q3, hv, hs2, hs3⟩ := hv29
        subst hv
        have hx4 := hx4.mono hm29
        have hw4 := hw4.mono hm29
        have hc4 := hc4.mono hm29
        have hs0 := hs0.mono hm29
        have hs1 := hs1.mono hm29
        refine PW.hv rfl rfl rfl rfl (Hv.alloc ti49 hS) (fun _ _ ⟨_, _, _, h⟩ => Rd.le hm26 (Rd.le hm29 (h.rd.tail.tail))) fun v w4 ⟨b4, hv, hb4, hS⟩ => ?_
        subst hv
        refine PW.nil ?_
        first | (have hS := (hS : St w _ _ (Own.obj b4 _ _ :: _))) | (have hS := hS.swap)
        refine LW.hu rfl rfl rfl (Hv.storeN (k := 1) ti49 hS rfl rfl rfl rfl (by simp [Value.oneCell'])) fun _ w_8 hS => ?_
        dsimp only [List.set] at hS
        refine LW.hu rfl rfl rfl (Hv.storeN (k := 0) ti49 hS rfl rfl rfl rfl (by simp [Value.oneCell'])) fun _ w_9 hS => ?_
        dsimp only [List.set] at hS
        refine LW.nil fun aa ha => ?_
        refine hJr3 _ (b3) (b4) (p0) (p1) (p2) (p3) (q0) (q1) (q2) (q3) (μ29) hS (hx4) (hw4) (hc4) (hs0) (hs1) (hs2) (hs3) aa (ha.sub ⟨rfl, rfl, rfl, rfl, trivial⟩)
      case gB19 =>
        skip
        subst hv
        refine PW.hv rfl rfl rfl rfl (Hv.callV hS rfl rfl rfl cb13 (lbE_c 0 _ _ _ _ _ _ hS.imm hw4 hc4)) (fun _ _ ⟨_, _, hm, h⟩ => Rd.le hm26 (Rd.le hm h.rd.tail.tail)) fun v w29 ⟨μ29, hv29, hm29, hS⟩ => ?_
        obtain ⟨p2, q2, p3, q3, hv, hs2, hs3⟩ := hv29
        subst hv
        have hx4 := hx4.mono hm29
        have hw4 := hw4.mono hm29
        have hc4 := hc4.mono hm29
        have hs0 := hs0.mono hm29
        have hs1 := hs1.mono hm29
        refine PW.nil ?_
        first | (have hS := (hS : St w _ _ (Own.obj b4 _ _ :: _))) | (have hS := hS.swap)
        refine LW.hu rfl rfl rfl (Hv.storeN (k := 1) ti49 hS rfl rfl rfl rfl (by simp [Value.oneCell'])) fun _ w_8 hS => ?_
        dsimp only [List.set] at hS
        refine LW.hu rfl rfl rfl (Hv.storeN (k := 0) ti49 hS rfl rfl rfl rfl (by simp [Value.oneCell'])) fun _ w_9 hS => ?_
        dsimp only [List.set] at hS
        refine LW.nil fun aa ha => ?_
        refine hJr3 _ (b3) (b4) (p0) (p1) (p2) (p3) (q0) (q1) (q2) (q3) (μ29) hS (hx4) (hw4) (hc4) (hs0) (hs1) (hs2) (hs3) aa (ha.sub ⟨rfl, rfl, rfl, rfl, trivial⟩)
    case gB18 =>
      skip
      subst hv
      refine PW.hv rfl rfl rfl rfl (Hv.callV hS rfl rfl rfl cb13 (lb0_c b19 _ _ _ _ _ _ hS.imm hx4 hw4 hc4)) (fun _ _ ⟨_, _, hm, h⟩ => Rd.le hm h.rd.tail.tail) fun v w26 ⟨μ26, hv26, hm26, hS⟩ => ?_
      obtain ⟨p0, q0, p1, q1, hv, hs0, hs1⟩ := hv26
      subst hv
      have hx4 := hx4.mono hm26
      have hw4 := hw4.mono hm26
      have hc4 := hc4.mono hm26
      refine PW.hv rfl rfl rfl rfl (Hv.callV hS rfl rfl rfl cb13 (lbE_c 0 _ _ _ _ _ _ hS.imm hw4 hc4)) (fun _ _ ⟨_, _, hm, h⟩ => Rd.le hm26 (Rd.le hm h.rd.tail.tail)) fun v w29 ⟨μ29, hv29, hm29, hS⟩ => ?_
      obtain ⟨p2, q2, p3, q3, hv, hs2, hs3⟩ := hv29
      subst hv
      have hx4 := hx4.mono hm29
      have hw4 := hw4.mono hm29
      have hc4 := hc4.mono hm29
      have hs0 := hs0.mono hm29
      have hs1 := hs1.mono hm29
      refine PW.nil ?_
      first | (have hS := (hS : St w _ _ (Own.obj b4 _ _ :: _))) | (have hS := hS.swap)
      refine LW.hu rfl rfl rfl (Hv.storeN (k := 1) ti49 hS rfl rfl rfl rfl (by simp [Value.oneCell'])) fun _ w_8 hS => ?_
      dsimp only [List.set] at hS
      refine LW.hu rfl rfl rfl (Hv.storeN (k := 0) ti49 hS rfl rfl rfl rfl (by simp [Value.oneCell'])) fun _ w_9 hS => ?_
      dsimp only [List.set] at hS
      refine LW.nil fun aa ha => ?_
      refine hJr3 _ (b3) (b4) (p0) (p1) (p2) (p3) (q0) (q1) (q2) (q3) (μ29) hS (hx4) (hw4) (hc4) (hs0) (hs1) (hs2) (hs3) aa (ha.sub ⟨rfl, rfl, rfl, rfl, trivial⟩)
  case gC13 =>
    skip
    subst hv
    refine PW.two rfl rfl rfl rfl rfl rfl rfl rfl (Hv.callV hS rfl rfl rfl cb13 (lb0_c b19 _ _ _ _ _ _ hS.imm hx4 hw4 hc4)) (fun _ _ ⟨_, _, hm, h⟩ => Rd.le hm h.rd.tail) (Hv.alloc ti49 hS) (fun _ _ ⟨_, _, _, h⟩ => h.rd.tail.tail) (fun v w26 ⟨μ26, hv26, hm26, hS⟩ => ?gA20) (fun v w3 ⟨b3, hv, hb3, hS⟩ => ?gB20)
    case gA20 =>
      skip
      obtain ⟨p0, q0, p1, q1, hv, hs0, hs1⟩ := hv26
      subst hv
      have hx4 := hx4.mono hm26
      have hw4 := hw4.mono hm26
      have hc4 := hc4.mono hm26
      refine PW.two rfl rfl rfl rfl rfl rfl rfl rfl (Hv.callV hS rfl rfl rfl cb13 (lbE_c 0 _ _ _ _ _ _ hS.imm hw4 hc4)) (fun _ _ ⟨_, _, hm, h⟩ => Rd.le hm26 (Rd.le hm h.rd.tail)) (Hv.alloc ti49 hS) (fun _ _ ⟨_, _, _, h⟩ => Rd.le hm26 (h.rd.tail.tail)) (fun v w29 ⟨μ29, hv29, hm29, hS⟩ => ?gA21) (fun v w3 ⟨b3, hv, hb3, hS⟩ => ?gB21)
      case gA21 =>
        skip
        obtain ⟨p2, q2, p3, q3, hv, hs2, hs3⟩ := hv29
        subst hv
        have hx4 := hx4.mono hm29
        have hw4 := hw4.mono hm29
        have hc4 := hc4.mono hm29
        have hs0 := hs0.mono hm29
        have hs1 := hs1.mono hm29
        refine PW.hv rfl rfl rfl rfl (Hv.alloc ti49 hS) (fun _ _ ⟨_, _, _, h⟩ => Rd.le hm26 (Rd.le hm29 (h.rd.tail.tail))) fun v w3 ⟨b3, hv, hb3, hS⟩ => ?_
        subst hv
        refine PW.nil ?_
        first | (have hS := (hS : St w _ _ (Own.obj b4 _ _ :: _))) | (have hS := hS.swap)
        refine LW.hu rfl rfl rfl (Hv.storeN (k := 1) ti49 hS rfl rfl rfl rfl (by simp [Value.oneCell'])) fun _ w_8 hS => ?_
        dsimp only [List.set] at hS
        refine LW.hu rfl rfl rfl (Hv.storeN (k := 0) ti49 hS rfl rfl rfl rfl (by simp [Value.oneCell'])) fun _ w_9 hS => ?_
        dsimp only [List.set] at hS
        refine LW.nil fun aa ha => ?_
        refine hJr3 _ (b3) (b4) (p0) (p1) (p2) (p3) (q0) (q1) (q2) (q3) (μ29) hS (hx4) (hw4) (hc4) (hs0) (hs1) (hs2) (hs3) aa (ha.sub ⟨rfl, rfl, rfl, rfl, trivial⟩)
      case gB21 =>
        skip
        subst hv
        refine PW.hv rfl rfl rfl rfl (Hv.callV hS rfl rfl rfl cb13 (lbE_c 0 _ _ _ _ _ _ hS.imm hw4 hc4)) (fun _ _ ⟨_, _, hm, h⟩ => Rd.le hm26 (Rd.le hm h.rd.tail.tail)) fun v w29 ⟨μ29, hv29, hm29, hS⟩ => ?_
        obtain ⟨p2, q2, p3, q3, hv, hs2, hs3⟩ := hv29
        subst hv
        have hx4 := hx4.mono hm29
        have hw4 := hw4.mono hm29
        have hc4 := hc4.mono hm29
        have hs0 := hs0.mono hm29
        have hs1 := hs1.mono hm29
        refine PW.nil ?_
        first | (have hS := (hS : St w _ _ (Own.obj b4 _ _ :: _))) | (have hS := hS.swap)
        refine LW.hu rfl rfl rfl (Hv.storeN (k := 1) ti49 hS rfl rfl rfl rfl (by simp [Value.oneCell'])) fun _ w_8 hS => ?_
        dsimp only [List.set] at hS
        refine LW.hu rfl rfl rfl (Hv.storeN (k := 0) ti49 hS rfl rfl rfl rfl (by simp [Value.oneCell'])) fun _ w_9 hS => ?_
        dsimp only [List.set] at hS
        refine LW.nil fun aa ha => ?_
        refine hJr3 _ (b3) (b4) (p0) (p1) (p2) (p3) (q0) (q1) (q2) (q3) (μ29) hS (hx4) (hw4) (hc4) (hs0) (hs1) (hs2) (hs3) aa (ha.sub ⟨rfl, rfl, rfl, rfl, trivial⟩)
    case gB20 =>
      skip
      subst hv
      refine PW.hv rfl rfl rfl rfl (Hv.callV hS rfl rfl rfl cb13 (lb0_c b19 _ _ _ _ _ _ hS.imm hx4 hw4 hc4)) (fun _ _ ⟨_, _, hm, h⟩ => Rd.le hm h.rd.tail.tail) fun v w26 ⟨μ26, hv26, hm26, hS⟩ => ?_
      obtain ⟨p0, q0, p1, q1, hv, hs0, hs1⟩ := hv26
      subst hv
      have hx4 := hx4.mono hm26
      have hw4 := hw4.mono hm26
      have hc4 := hc4.mono hm26
      refine PW.hv rfl rfl rfl rfl (Hv.callV hS rfl rfl rfl cb13 (lbE_c 0 _ _ _ _ _ _ hS.imm hw4 hc4)) (fun _ _ ⟨_, _, hm, h⟩ => Rd.le hm26 (Rd.le hm h.rd.tail.tail)) fun v w29 ⟨μ29, hv29, hm29, hS⟩ => ?_
      obtain ⟨p2, q2, p3, q3, hv, hs2, hs3⟩ := hv29
      subst hv
      have hx4 := hx4.mono hm29
      have hw4 := hw4.mono hm29
      have hc4 := hc4.mono hm29
      have hs0 := hs0.mono hm29
      have hs1 := hs1.mono hm29
      refine PW.nil ?_
      first | (have hS := (hS : St w _ _ (Own.obj b4 _ _ :: _))) | (have hS := hS.swap)
      refine LW.hu rfl rfl rfl (Hv.storeN (k := 1) ti49 hS rfl rfl rfl rfl (by simp [Value.oneCell'])) fun _ w_8 hS => ?_
      dsimp only [List.set] at hS
      refine LW.hu rfl rfl rfl (Hv.storeN (k := 0) ti49 hS rfl rfl rfl rfl (by simp [Value.oneCell'])) fun _ w_9 hS => ?_
      dsimp only [List.set] at hS
      refine LW.nil fun aa ha => ?_
      refine hJr3 _ (b3) (b4) (p0) (p1) (p2) (p3) (q0) (q1) (q2) (q3) (μ29) hS (hx4) (hw4) (hc4) (hs0) (hs1) (hs2) (hs3) aa (ha.sub ⟨rfl, rfl, rfl, rfl, trivial⟩)
end Go.Proofs.Ytgnpjhellmfhoaa

/-
  Context: the nodes and links of a graph that is built.
-/
namespace Go.Proofs.Ytgnpjhellmfhoaa
open Go.RowKit Sy

/-- What holds of each link of a graph. -/
structure LinkGood (x : Lat) (L : List I2) (k : Link) (e : Edge) : Prop where
  f0 : 0 ≤ k.From
  ft : k.From < k.To
  tl : k.To < L.length
  l0 : 0 ≤ k.Label
  l1 : k.Label < x.Edges.length
  he : e = edAt x k.Label.toNat
  c : e.Cost ≤ k.Cost
  last : e.To = x.N ↔ k.To = (L.length : Int) - 1
  word : e.To < x.N → (L.map (·.b))[k.To.toNat]? = some e.Word
theorem zip_mem {L : List I2} {z : I2} {j n : Nat} (h : (z, j) ∈ L.zipIdx.take n) : ∃ hj : j < L.length, L[j] = z := by
  have h := List.mem_of_mem_take h
  obtain ⟨i, hi, he⟩ := List.getElem_of_mem h
  rw [List.getElem_zipIdx] at he
  simp only [Prod.mk.injEq] at he
  obtain ⟨e1, e2⟩ := he
  have hi2 : i < L.length := by rw [List.length_zipIdx] at hi; exact hi
  have : i = j := by omega
  subst this
  exact ⟨hi2, e1⟩
theorem pw_a {L : List I2} (hs : L.Pairwise ndLt) {i j : Nat} (hi : i < L.length) (hj : j < L.length) (h : L[i].a < L[j].a) : i < j := by
  rcases Nat.lt_trichotomy i j with h1 | h1 | h1
  · exact h1
  · subst h1; omega
  · have := List.pairwise_iff_getElem.1 hs j i hj hi h1
    unfold ndLt at this; omega
theorem link_good {x : Lat} {m : Mdl} {p : Int} (hm : MdlOk m) (hx : okX x = true) (hw : wordsIn x m.Words.length = true) (hp : -1 ≤ p ∧ p < m.Words.length) {k : Link}
    (hk : k ∈ linksTo x m (nodesL x m.Words.length p) (nodesL x m.Words.length p).length) : ∃ e, LinkGood x (nodesL x m.Words.length p) k e := by
  obtain ⟨L, hL⟩ : ∃ L, L = nodesL x m.Words.length p := ⟨_, rfl⟩
  have hst := nodesL_strict hx m.Words.length p
  unfold linksTo at hk
  obtain ⟨⟨z, nI⟩, hz, hk⟩ := List.mem_flatMap.1 hk
  obtain ⟨hn, hzn⟩ := zip_mem hz
  unfold linksOf at hk
  obtain ⟨i, hi, rfl⟩ := List.mem_map.1 hk
  rw [List.mem_filter, List.mem_range, decide_eq_true_eq] at hi
  obtain ⟨hi, hf⟩ := hi
  obtain ⟨_, hed, _⟩ := okX_edges hx
  have hei := hed _ (List.getElem_mem hi)
  have hpc := hm.pairC0 z.b (edAt x i).Word
  have h2 := hm.n2
  refine ⟨edAt x i, ?_⟩
  have hla := nodesL_last (n := m.Words.length) (p := p) hx h2 hp (by omega) hn
  simp only at hf hzn
  rw [edAt_of hi] at hf hpc ⊢
  by_cases ht : x.Edges[i].To < x.N
  · obtain ⟨j, hj, _, hj2, hj3⟩ := toN_at hx hw p hi ht
    have hlj := nodesL_last (n := m.Words.length) (p := p) hx h2 hp (by omega) hj
    have hlt : nI < j := pw_a hst hn hj (by rw [hzn, hj2]; simp only; omega)
    have hja : (nodesL x m.Words.length p)[j].a ≠ x.N := by rw [hj2]; simp only; omega
    unfold mkLink
    rw [edAt_of hi, hj3]
    refine ⟨?_, ?_, ?_, ?_, ?_, ?_, ?_, ?_, fun _ => ?_⟩ <;> simp only [Int.toNat_natCast]
    · omega
    · omega
    · omega
    · omega
    · omega
    · rw [edAt_of hi]
    · omega
    · have := mt hlj.2 hja
      constructor <;> intro h <;> omega
    · rw [List.getElem?_map, List.getElem?_eq_getElem hj, hj2]; rfl
  · have hti : toN (nodesL x m.Words.length p) x x.Edges[i] = (nodesL x m.Words.length p).length - 1 := by unfold toN; rw [if_neg ht]
    have hne : nI ≠ (nodesL x m.Words.length p).length - 1 := fun h => by
      have := hla.2 h
      rw [hzn] at this; omega
    unfold mkLink
    rw [edAt_of hi, hti]
    refine ⟨?_, ?_, ?_, ?_, ?_, ?_, ?_, ?_, fun h => absurd h ht⟩ <;> simp only [Int.toNat_natCast]
    · omega
    · omega
    · omega
    · omega
    · omega
    · rw [edAt_of hi]
    · omega
    · constructor <;> intro h <;> omega
def linkLt (a b : Link) : Prop := a.From < b.From ∨ a.From = b.From ∧ a.Label < b.Label
theorem links_sorted (x : Lat) (m : Mdl) (L : List I2) (n : Nat) : (linksTo x m L n).Pairwise linkLt := by
  unfold linksTo
  rw [List.pairwise_flatMap]
  refine ⟨fun z _ => ?_, ?_⟩
  · unfold linksOf
    rw [List.pairwise_map]
    refine (List.Pairwise.filter _ List.pairwise_lt_range).imp fun {a b} h => ?_
    exact Or.inr ⟨rfl, Int.ofNat_lt.2 h⟩
  · refine List.Pairwise.take ?_
    rw [List.pairwise_iff_getElem]
    intro i j hi hj hij a ha b hb
    rw [List.getElem_zipIdx] at ha hb
    unfold linksOf at ha hb
    obtain ⟨u, _, rfl⟩ := List.mem_map.1 ha
    obtain ⟨v, _, rfl⟩ := List.mem_map.1 hb
    unfold linkLt mkLink; simp only; omega
end Go.Proofs.Ytgnpjhellmfhoaa

/-
  Context: package best: the graph of a lattice is small (plain Lean).
-/
namespace Go.Proofs.Ytgnpjhellmfhoaa
open Go.RowKit Sy

/-- A link leads to a greater place. -/
theorem link_place {x : Lat} {m : Mdl} {p : Int} (hm : MdlOk m) (hx : okX x = true) (hw : wordsIn x m.Words.length = true) (hp : -1 ≤ p ∧ p < m.Words.length) {k : Link}
    (hk : k ∈ linksTo x m (nodesL x m.Words.length p) (nodesL x m.Words.length p).length) : ∃ z z', (nodesL x m.Words.length p)[k.From.toNat]? = some z ∧ (nodesL x m.Words.length p)[k.To.toNat]? = some z' ∧ z.a < z'.a ∧ z'.a ≤ x.N ∧ 0 ≤ z.a ∧ z.a = (edAt x k.Label.toNat).From ∧ z'.a = (edAt x k.Label.toNat).To := by
  unfold linksTo at hk
  obtain ⟨⟨z, nI⟩, hz, hk⟩ := List.mem_flatMap.1 hk
  obtain ⟨hn, hzn⟩ := zip_mem hz
  unfold linksOf at hk
  obtain ⟨i, hi, rfl⟩ := List.mem_map.1 hk
  rw [List.mem_filter, List.mem_range, decide_eq_true_eq] at hi
  obtain ⟨hi, hf⟩ := hi
  obtain ⟨_, hed, _⟩ := okX_edges hx
  have hei := hed _ (List.getElem_mem hi)
  simp only at hf hzn
  have h2 := hm.n2
  have e1 : (mkLink x m (nodesL x m.Words.length p) nI z i).From.toNat = nI := by unfold mkLink; simp only [Int.toNat_natCast]
  have e2 : (mkLink x m (nodesL x m.Words.length p) nI z i).To.toNat = toN (nodesL x m.Words.length p) x x.Edges[i] := by unfold mkLink; rw [edAt_of hi]; simp only [Int.toNat_natCast]
  have e3 : (mkLink x m (nodesL x m.Words.length p) nI z i).Label.toNat = i := by unfold mkLink; simp only [Int.toNat_natCast]
  rw [e1, e2, e3, edAt_of hi]
  rw [edAt_of hi] at hf
  by_cases ht : x.Edges[i].To < x.N
  · obtain ⟨j, hj, _, hj2, hj3⟩ := toN_at hx hw p hi ht
    exact ⟨z, _, by rw [List.getElem?_eq_getElem hn, hzn], by rw [hj3, List.getElem?_eq_getElem hj, hj2], by simp only; omega, by simp only; omega, by omega, by omega, rfl⟩
  · have hti : toN (nodesL x m.Words.length p) x x.Edges[i] = (nodesL x m.Words.length p).length - 1 := by unfold toN; rw [if_neg ht]
    have hl1 : (nodesL x m.Words.length p).length - 1 < (nodesL x m.Words.length p).length := by omega
    have hla := (nodesL_last (n := m.Words.length) (p := p) hx h2 hp (by omega) hl1).2 rfl
    exact ⟨z, _, by rw [List.getElem?_eq_getElem hn, hzn], by rw [hti, List.getElem?_eq_getElem hl1], by omega, by omega, by omega, by omega, by omega⟩
theorem rising_len : ∀ (l : List Int) (a n : Int), (∀ x ∈ l, a ≤ x ∧ x < n) → l.Pairwise (· < ·) → a ≤ n → (l.length : Int) ≤ n - a
  | [], a, n, _, _, h => by simp; omega
  | x :: r, a, n, h1, h2, h3 => by
    rw [List.pairwise_cons] at h2
    have hx := h1 x (List.mem_cons_self ..)
    have := rising_len r (x + 1) n (fun y hy => ⟨by have := h2.1 y hy; omega, (h1 y (List.mem_cons_of_mem _ hy)).2⟩) h2.2 (by omega)
    rw [List.length_cons]; omega
theorem outTo_few {g : Grf} {n : Nat} (hs : g.Links.Pairwise linkLt) (hl : ∀ k ∈ g.Links, 0 ≤ k.Label ∧ k.Label < n) (q : Nat) : (outTo g g.Links.length q).length ≤ n := by
  have h := rising_len ((outTo g g.Links.length q).map fun (i : Nat) => (lkAt g i).Label) 0 n (fun y hy => by
    obtain ⟨i, hi, rfl⟩ := List.mem_map.1 hy
    have := hl _ (lkAt_mem (outTo_mem hi).1); omega) (by
    rw [List.pairwise_map]
    have hp : (outTo g g.Links.length q).Pairwise (· < ·) := List.Pairwise.filter _ List.pairwise_lt_range
    refine hp.imp_of_mem fun {i j} hi hj hij => ?_
    obtain ⟨i1, i2⟩ := outTo_mem hi
    obtain ⟨j1, j2⟩ := outTo_mem hj
    have := List.pairwise_iff_getElem.1 hs i j i1 j1 hij
    rw [← lkAt_nat i1, ← lkAt_nat j1] at this
    unfold linkLt at this; omega) (by omega)
  rw [List.length_map] at h; omega
end Go.Proofs.Ytgnpjhellmfhoaa

/-
  Context: package best: the weight of the first node is bounded (plain Lean).
-/
namespace Go.Proofs.Ytgnpjhellmfhoaa
open Go.RowKit Sy

theorem sum_bound {α : Type} {F : α → Nat} {B : Nat} : ∀ {l : List α}, (∀ x ∈ l, F x ≤ B) → (l.map F).sum ≤ l.length * B
  | [], _ => by simp
  | x :: r, h => by
    have h1 := h x (List.mem_cons_self ..)
    have h2 := sum_bound (l := r) fun y hy => h y (List.mem_cons_of_mem _ hy)
    rw [List.map_cons, List.sum_cons, List.length_cons, Nat.add_mul, Nat.one_mul]; omega
theorem wt_bound {g : Grf} {L : List I2} {xN : Int} {n : Nat} (hg : GOk g) (hpl : ∀ k ∈ g.Links, ∃ z z', L[k.From.toNat]? = some z ∧ L[k.To.toNat]? = some z' ∧ z.a < z'.a ∧ z'.a ≤ xN) (hfew : ∀ q, (outTo g g.Links.length q).length ≤ n) :
    ∀ (f q : Nat) (z : I2), L[q]? = some z → wt g f q ≤ (n + 1) ^ (xN - z.a).toNat
  | 0, q, z, _ => Nat.pow_pos (by omega)
  | f + 1, q, z, hz => by
    rw [wt]
    have hp : 1 ≤ (n + 1) ^ (xN - z.a).toNat := Nat.pow_pos (by omega)
    cases ho : outTo g g.Links.length q with
    | nil => simpa using hp
    | cons i r =>
      have hmem : ∀ j ∈ outTo g g.Links.length q, ∃ z', L[(lkAt g j).To.toNat]? = some z' ∧ z.a < z'.a ∧ z'.a ≤ xN := fun j hj => by
        obtain ⟨hj1, hj2⟩ := outTo_mem hj
        obtain ⟨y, z', h1, h2, h3, h4⟩ := hpl _ (lkAt_mem hj1)
        rw [hj2, Int.toNat_natCast, hz] at h1
        obtain rfl := Option.some.inj h1
        exact ⟨z', h2, h3, h4⟩
      obtain ⟨z0, _, hz1, hz2⟩ := hmem i (by rw [ho]; exact List.mem_cons_self ..)
      obtain ⟨K, hK⟩ : ∃ K, (xN - z.a).toNat = K + 1 := ⟨(xN - z.a).toNat - 1, by omega⟩
      rw [← ho, hK, Nat.pow_succ]
      have hb := sum_bound (l := outTo g g.Links.length q) (F := fun (i : Nat) => wt g f (lkAt g i).To.toNat) (B := (n + 1) ^ K) fun j hj => by
        obtain ⟨z', h1, h2, h3⟩ := hmem j hj
        exact Nat.le_trans (wt_bound hg hpl hfew f _ z' h1) (Nat.pow_le_pow_right (by omega) (by omega))
      have h1 : 1 ≤ (n + 1) ^ K := Nat.pow_pos (by omega)
      have h2 := Nat.mul_le_mul_right ((n + 1) ^ K) (hfew q)
      have h3 : (n + 1) ^ K * (n + 1) = n * (n + 1) ^ K + (n + 1) ^ K := by rw [Nat.mul_comm, Nat.add_mul, Nat.one_mul]
      omega
theorem W_bound {g : Grf} {L : List I2} {xN : Int} (hg : GOk g) (hpl : ∀ k ∈ g.Links, ∃ z z', L[k.From.toNat]? = some z ∧ L[k.To.toNat]? = some z' ∧ z.a < z'.a ∧ z'.a ≤ xN) (hfew : ∀ q, (outTo g g.Links.length q).length ≤ 13) {z : I2} (h0 : L[0]? = some z) (hz : 0 ≤ z.a) (hN : xN ≤ 5) : W g 0 ≤ 537824 := by
  have h := wt_bound hg hpl hfew (g.N.toNat - 0) 0 z h0
  have h2 : (13 + 1) ^ (xN - z.a).toNat ≤ (13 + 1) ^ 5 := Nat.pow_le_pow_right (by omega) (by omega)
  have h3 : (13 + 1) ^ 5 = 537824 := by decide
  unfold W
  omega
end Go.Proofs.Ytgnpjhellmfhoaa

/-
  Context: package best takes the graph of the law's lattice (plain Lean).
-/
namespace Go.Proofs.Ytgnpjhellmfhoaa
open Go.RowKit Sy

theorem madeX_cost (ls : List B4) (places : UInt8) {n : Nat} (hn : 0 < n) : ∀ e ∈ (madeX ls places n).Edges, e.Cost ≤ 31 := by
  intro e he
  by_cases h0 : 0 < places.toNat % 6
  · have hE : (madeX ls places n).Edges = edgesTo (places.toNat % 6) n ls (min ls.length 8) := by unfold madeX; rw [if_pos h0]
    obtain ⟨_, h2, _⟩ := edgesTo_ok h0 hn ls (min ls.length 8) (by omega)
    rw [hE] at he
    have := h2 e he
    unfold edGood at this; omega
  · have hE : (madeX ls places n).Edges = [] := by unfold madeX; rw [if_neg h0]
    rw [hE] at he; cases he
theorem links_few (x : Lat) (m : Mdl) (L : List I2) (n : Nat) : (linksTo x m L n).length ≤ L.length * x.Edges.length := by
  unfold linksTo
  rw [List.length_flatMap]
  have h := sum_bound (l := L.zipIdx.take n) (F := fun p => (linksOf x m L p.2 p.1).length) (B := x.Edges.length) fun p _ => by
    unfold linksOf
    rw [List.length_map]
    exact Nat.le_trans (List.length_filter_le _ _) (by simp)
  refine Nat.le_trans h (Nat.mul_le_mul_right _ ?_)
  rw [List.length_take, List.length_zipIdx]; omega
theorem build_gok {x : Lat} {m : Mdl} {p : Int} (hm : MdlOk m) (hx : okX x = true) (hw : wordsIn x m.Words.length = true) (hp : -1 ≤ p ∧ p < m.Words.length) (hc : ∀ e ∈ x.Edges, e.Cost ≤ 31) (hE : x.Edges.length ≤ 13) : GOk (buildR x m p).G := by
  have e : buildR x m p = ⟨graphR x m p, (nodesL x m.Words.length p).map (·.b), 0⟩ := by
    unfold buildR; rw [if_pos (okM_yes hm), if_pos (fitsC_iff.2 ⟨hx, hp, hw⟩)]
  rw [e]
  have hl := nodesL_len hx hw p
  have h0 : 0 < (nodesL x m.Words.length p).length := by unfold nodesL; simp
  have hf := links_few x m (nodesL x m.Words.length p) (nodesL x m.Words.length p).length
  have hf2 : (nodesL x m.Words.length p).length * x.Edges.length ≤ 15 * 13 := Nat.mul_le_mul (by omega) hE
  refine ⟨by unfold graphR; simp only; omega, by unfold graphR; simp only; omega, by unfold graphR; simp only; omega, fun k hk => ?_⟩
  have hk' : k ∈ linksTo x m (nodesL x m.Words.length p) (nodesL x m.Words.length p).length := hk
  obtain ⟨ed, g1, g2, g3, g4, g5, _, _, _, _⟩ := link_good hm hx hw hp hk'
  have hcost : 0 ≤ k.Cost ∧ k.Cost ≤ 2031 := by
    unfold linksTo at hk'
    obtain ⟨⟨z, nI⟩, hz, hk'⟩ := List.mem_flatMap.1 hk'
    unfold linksOf at hk'
    obtain ⟨i, hi, rfl⟩ := List.mem_map.1 hk'
    have hi := List.mem_range.1 (List.mem_filter.1 hi).1
    obtain ⟨_, hed, _⟩ := okX_edges hx
    have a1 := hed _ (List.getElem_mem hi)
    have a2 := hc _ (List.getElem_mem hi)
    have a3 := hm.pairC0 z.b x.Edges[i].Word
    unfold mkLink
    rw [edAt_of hi]
    simp only; omega
  exact ⟨g1, g2, by unfold graphR; exact g3, g4, by omega, hcost.1, by omega⟩
theorem build_w {x : Lat} {m : Mdl} {p : Int} (hm : MdlOk m) (hx : okX x = true) (hw : wordsIn x m.Words.length = true) (hp : -1 ≤ p ∧ p < m.Words.length) (hc : ∀ e ∈ x.Edges, e.Cost ≤ 31) (hE : x.Edges.length ≤ 13) (hN : x.N ≤ 5) : W (buildR x m p).G 0 ≤ 537824 := by
  have hg := build_gok hm hx hw hp hc hE
  have e : buildR x m p = ⟨graphR x m p, (nodesL x m.Words.length p).map (·.b), 0⟩ := by
    unfold buildR; rw [if_pos (okM_yes hm), if_pos (fitsC_iff.2 ⟨hx, hp, hw⟩)]
  rw [e] at hg ⊢
  refine W_bound (L := nodesL x m.Words.length p) (xN := x.N) (z := ⟨0, p⟩) hg (fun k hk => ?_) (fun q => ?_) rfl (Int.le_refl _) hN
  · obtain ⟨z, z', a1, a2, a3, a4, _⟩ := link_place hm hx hw hp hk
    exact ⟨z, z', a1, a2, a3, a4⟩
  · exact Nat.le_trans (outTo_few (n := x.Edges.length) (links_sorted _ _ _ _) (fun k hk => by
      obtain ⟨ed, g1, g2, g3, g4, g5, _, _, _, _⟩ := link_good hm hx hw hp hk
      exact ⟨g4, g5⟩) q) hE
end Go.Proofs.Ytgnpjhellmfhoaa

/-
  Context: package best: what the answers say of any way (plain Lean).
-/
namespace Go.Proofs.Ytgnpjhellmfhoaa
open Go.RowKit Sy

/-- A way is an answer, or costs at least as much as each answer while parts are left. -/
theorem SInv.bound {g : Grf} (hg : GOk g) {R : List Int} (hl : R.length = g.N.toNat) (hr : RestFrom g g.N.toNat 0 R) {H : List PartV} {A : List Cand} (h : SInv g R H A) {P : List Int} {c : Int} (hP : Path g P (g.N - 1) c) :
    (∃ a ∈ A, a.Links = P ∧ a.Cost = c) ∨ (H ≠ [] ∧ ∀ a ∈ A, a.Cost ≤ c) := by
  rcases h.co P c hP with ⟨a, ha, e⟩ | ⟨x, hx, e⟩
  · have := h.pa a ha
    rw [e] at this
    exact .inl ⟨a, ha, e, (hP.det this).2⟩
  · refine .inr ⟨fun e => (by rw [e] at hx; cases hx), fun a ha => ?_⟩
    obtain ⟨hp, r, h1, h2, h3⟩ := h.ph x hx
    obtain ⟨ms, rfl⟩ := e
    obtain ⟨q, d1, d2, s1, s2, e3⟩ := Seg.split hP.seg
    obtain ⟨e1, e2⟩ := hp.seg.det s1
    rw [e1] at s2
    have a1 := rest_le hg hl hr s2 rfl r h1
    have a2 := h.le a ha x hx
    omega
/-- At the end of the list: no part is left, or there are as many answers as were asked for. -/
theorem SInv.best {g : Grf} (hg : GOk g) {R : List Int} (hl : R.length = g.N.toNat) (hr : RestFrom g g.N.toNat 0 R) {H : List PartV} {A : List Cand} {k : Nat} (h : SInv g R H A) (hk : 1 ≤ k) (he : H = [] ∨ A.length = k) {P : List Int} {c : Int} (hP : Path g P (g.N - 1) c) :
    0 < A.length ∧ (∀ h0 : 0 < A.length, A[0].Cost ≤ c) ∧ ((∃ a ∈ A, a.Links = P ∧ a.Cost = c) ∨ (A.length = k ∧ ∀ a ∈ A, a.Cost ≤ c)) := by
  have hb := h.bound hg hl hr hP
  have hb2 : (∃ a ∈ A, a.Links = P ∧ a.Cost = c) ∨ (A.length = k ∧ ∀ a ∈ A, a.Cost ≤ c) := by
    rcases hb with hb | ⟨h1, h2⟩
    · exact .inl hb
    · rcases he with he | he
      · exact absurd he h1
      · exact .inr ⟨he, h2⟩
  have hpos : 0 < A.length := by
    rcases hb2 with ⟨a, ha, _⟩ | ⟨h1, _⟩
    · exact List.length_pos_of_mem ha
    · omega
  refine ⟨hpos, fun h0 => ?_, hb2⟩
  rcases hb2 with ⟨a, ha, _, e⟩ | ⟨_, h2⟩
  · obtain ⟨j, hj, rfl⟩ := List.getElem_of_mem ha
    by_cases e0 : j = 0
    · subst e0; omega
    · have := List.pairwise_iff_getElem.1 h.so 0 j h0 hj (by omega)
      omega
  · exact h2 _ (List.getElem_mem h0)
/-- The answers' links all differ. -/
theorem SInv.differ {g : Grf} {R : List Int} {H : List PartV} {A : List Cand} (h : SInv g R H A) {i j : Nat} (hi : i < A.length) (hj : j < A.length) (hij : i < j) : A[i].Links ≠ A[j].Links := fun e => by
  have han := h.an
  rw [List.pairwise_append] at han
  have h2 := List.pairwise_iff_getElem.1 han.1 i j (by rw [List.length_map]; exact hi) (by rw [List.length_map]; exact hj) hij
  simp only [List.getElem_map] at h2
  exact h2.1 (by rw [e]; exact List.prefix_refl _)
/-- The start: one part that has no link yet. -/
theorem SInv.start {g : Grf} {R : List Int} (ad : Option Addr) (cp : Nat) {r : Int} (hr : R[0]? = some r) (hf : r < 1152921504606846976) : SInv g R [⟨ad, cp, [], 0, 0, r⟩] [] := by
  refine ⟨fun x hx => ?_, (fun a ha => by cases ha), List.Pairwise.nil, (fun a ha => by cases ha), ?_, fun ls c _ => .inr ⟨_, List.mem_singleton.2 rfl, List.nil_prefix⟩⟩
  · obtain rfl := List.mem_singleton.1 hx
    exact ⟨Path.nil, r, hr, hf, by simp only; omega⟩
  · exact List.pairwise_singleton ..
end Go.Proofs.Ytgnpjhellmfhoaa

/-
  Context: package best: what the walk of List needs: own objects in any order, a further link behind immutable links, answers.
-/
namespace Go.Proofs.Ytgnpjhellmfhoaa
open Go.RowKit Sy

theorem seps_perm {L L' : List Own} {h : Mem} (hp : L.Perm L') : ∀ {bs : List Nat}, Seps L bs h → ∃ bs', bs'.Perm bs ∧ Seps L' bs' h := by
  induction hp with
  | nil => intro bs hs; exact ⟨bs, List.Perm.refl _, hs⟩
  | cons a _ ih =>
    intro bs hs
    obtain ⟨b1, b2, e, h1, h2⟩ := hs
    obtain ⟨b3, p3, h3⟩ := ih h2
    exact ⟨b1 ++ b3, by rw [e]; exact List.Perm.append_left _ p3, b1, b3, rfl, h1, h3⟩
  | swap a b l =>
    intro bs hs
    obtain ⟨b1, b2, e, h1, b3, b4, e2, h2, h3⟩ := hs
    refine ⟨b3 ++ (b1 ++ b4), ?_, b3, b1 ++ b4, rfl, h2, b1, b4, rfl, h1, h3⟩
    rw [e, e2, ← List.append_assoc, ← List.append_assoc]
    exact List.Perm.append_right _ List.perm_append_comm
  | trans _ _ ih1 ih2 =>
    intro bs hs
    obtain ⟨b1, p1, h1⟩ := ih1 hs
    obtain ⟨b2, p2, h2⟩ := ih2 h1
    exact ⟨b2, p2.trans p1, h2⟩
theorem st_perm {w0 w : World} {μ : Mem} {L L' : List Own} (h : St w0 w μ L) (hp : L.Perm L') : St w0 w μ L' :=
  ⟨h.below, h.imm, let ⟨_, h1, h2, h3⟩ := h.own; let ⟨bs', p, h4⟩ := seps_perm hp h1; ⟨bs', h4, p.nodup_iff.2 h2, fun b hb => h3 b (p.mem_iff.1 hb)⟩⟩
theorem front_perm {α : Type} {e : α} : ∀ {L : List α} {k : Nat}, L[k]? = some e → L.Perm (e :: L.eraseIdx k)
  | [], _, h => by simp at h
  | a :: L, 0, h => by
    obtain rfl : a = e := by simpa using h
    exact List.Perm.refl _
  | a :: L, k + 1, h => by
    rw [List.eraseIdx_cons_succ]
    exact ((front_perm (by simpa using h)).cons a).trans (List.Perm.swap _ _ _)
theorem st_front {w0 w : World} {μ : Mem} {L : List Own} {e : Own} (h : St w0 w μ L) (k : Nat) (hk : L[k]? = some e) : St w0 w μ (e :: L.eraseIdx k) := by
  exact st_perm h (front_perm hk)
section
variable {P : Program} {S : World → Prop} {m : List (Nat × Value)} {t : TypeId} {x y y2 : Operand} {d : TypeDesc} {z : Value} {by_ sz : Nat}
/-- s[:i:j] -/
theorem slice3_ex {e : TypeId} {ad : Option Addr} {l c' i j : Nat} {k k2 : IntKind} {p q : Int} (ht : P.underlying t = some (.slice e)) (he : TI P e d z sz by_) (hx : ev m x = some (.slice ad l c')) (hy : ev m y = some (.int k p)) (hy2 : ev m y2 = some (.int k2 q)) (hp : p = (i : Int)) (hq : q = (j : Int)) (hi : i ≤ j) (hj : j ≤ c') :
    Ex P S m (.slice t x none (some y) (some y2)) (.slice ad i j) := fun ρ ha w _ o ho => by
  subst hp; subst hq
  have e1 : (Go.underlying t).run P w = .ok (.slice e) w := by simp [Go.underlying, program, Sem.run, ht, go_sem]
  have e2 := he.sizeOf w
  have e3 : (ad.map fun a => a.add (0 * sz)) = ad := by cases ad <;> simp [Addr.add]
  have h1 : (i : Int) ≤ (j : Int) := by omega
  have h2 : (j : Int) ≤ (c' : Int) := by omega
  have e4 : (Instr.sliceBound (.int k (i : Int)) j .slice3B).run P w = .ok i w := by simp [Instr.sliceBound, asIntOf, h1, go_sem]
  have e5 : (Instr.sliceBound (.int k2 (j : Int)) c' .slice3Acap).run P w = .ok j w := by simp [Instr.sliceBound, asIntOf, h2, go_sem]
  simp only [execOp, ho, ha _ _ hx, ha _ _ hy, ha _ _ hy2, Option.map_some, Option.map_none, Instr.sliceAt, Instr.slice, Instr.sliceBounds, Sem.run_bind, e1, Result.andThen_ok, Sem.run_pure, if_true, e4, e5, e2, e3, Nat.sub_zero, ite_self]
end
/-- append of one number to numbers in immutable memory that have no room. -/
theorem append_imm {P : Program} {m : List (Nat × Value)} {t E : TypeId} {x y : Operand} {w0 w : World} {μ : Mem} {L : List Own} {o' : Call} {d : TypeDesc} {z : Value} {by_ : Nat} {ad : Option Addr} {c0 g off c2 : Nat} {xs : List Int} {i : Int}
    (ho' : o' = { callee := .builtin .append, args := #[x, y], argTypes := #[t, t] }) (ht : P.underlying t = some (.slice E)) (hE : TI P E d z 1 by_) (hz : z.cells.size = 1)
    (hS : St w0 w μ L) (hs : Sl μ ad c0 xs) (hx : ev m x = some (.slice ad xs.length xs.length)) (hy : ev m y = some (.slice (some ⟨g, off, none⟩) 1 c2))
    (hv : w.cell? ⟨g, off, none⟩ = some (.int .i64 i)) (h63 : xs.length + 1 ≤ maxLen) (hb : (xs.length + 1) * by_ ≤ 140737488355328) :
    Hv P m (.call o') w (fun u w' => ∃ g' c', u = .slice (some ⟨g', 0, none⟩) (xs ++ [i]).length c' ∧ St w0 w' μ (Own.sl (some ⟨g', 0, none⟩) (xs ++ [i]).length c' E 1 ((xs ++ [i]).map fun z => Value.int .i64 z) :: L)) := by
  rw [show (xs ++ [i]).length = xs.length + 1 by simp]
  cases ad with
  | none =>
    have hx0 : xs = [] := by
      cases xs with
      | nil => rfl
      | cons a r => obtain ⟨b, o, e, _⟩ := hs.at (i := 0) (by simp); cases e
    subst hx0
    have hS := nil_sl E 1 hS
    refine (Hv.append (k := 0) (vs := [.int .i64 i]) ho' ht hE hz hS rfl hx hy rfl (fun j u hu => ?_) (by simp [Value.oneCell']) (by simpa using h63) (by simpa using hb)).mono fun u w' ⟨ad', c', hu, hS'⟩ => ?_
    · match j with
      | 0 => simp at hu; subst hu; exact hv
      | j + 1 => simp at hu
    · obtain ⟨g', rfl⟩ := hS'.sl_some 0 rfl (by omega)
      exact ⟨g', c', hu, hS'⟩
  | some a =>
    refine .of_run fun ρ ha op hop => ?_
    subst ho'
    obtain ⟨inf, hi, z1, z2, z3⟩ := hE.info
    have hsz : inf.size = 1 := z2
    have hby : inf.bytes = by_ := z3
    have holds : ∀ j v, (xs.map fun z => Value.int .i64 z)[j]? = some v → w.cell? (a.add j) = some v := fun j v hj => by
      rw [List.getElem?_map] at hj
      cases hj2 : xs[j]? with
      | none => rw [hj2] at hj; cases hj
      | some q =>
        rw [hj2] at hj
        obtain ⟨hl, hq⟩ := List.getElem?_eq_some_iff.1 hj2
        obtain ⟨b, o, e, hr⟩ := hs.at hl
        cases e
        have hadd : (⟨b, o, none⟩ : Addr).add j = ⟨b, o + j, none⟩ := by unfold Addr.add; split <;> simp_all
        have hr' : μ.cell b (o + j * 1 + 0) = some (.int .i64 xs[j]) := hr
        rw [Nat.mul_one, Nat.add_zero] at hr'
        rw [hadd, hS.imm.cell hr', hq]
        exact hj
    have hnew : ∀ j v, ([.int .i64 i] : List Value)[j]? = some v → w.cell? ((⟨g, off, none⟩ : Addr).add j) = some v := fun j v hj => by
      match j with
      | 0 =>
        simp at hj; subst hj
        have hadd : (⟨g, off, none⟩ : Addr).add 0 = ⟨g, off, none⟩ := by unfold Addr.add; split <;> simp_all
        rw [hadd]; exact hv
      | j + 1 => simp at hj
    have hfit := growslice_fits (need := xs.length + 1) (old := xs.length) (bytes := inf.bytes) (by omega) (by rw [hby]; exact hb)
    have hr := run_append_grow (P := P) (w := w) t op.type E inf z ht hi z1 a xs.length xs.length (xs.map fun z => Value.int .i64 z) (by rw [hsz, List.length_map, Nat.mul_one]) holds ⟨g, off, none⟩ 1 c2 [.int .i64 i] (by rw [hsz]; rfl) hnew (by omega) (by simp only [maxLen] at h63; omega) hfit
    have hge := grownCap_ge w (xs.length + 1) xs.length E
    have hcm : grownCap w (xs.length + 1) xs.length E ≤ maxLen := grownCap_le_maxLen w (xs.length + 1) xs.length E h63
    obtain ⟨C, hC⟩ : ∃ C, C = grownCap w (xs.length + 1) xs.length E := ⟨_, rfl⟩
    rw [← hC] at hr hge hcm
    obtain ⟨w', hw'⟩ : ∃ w', w' = w.drew.alloc (.cells ((xs.map fun z => Value.int .i64 z).toArray ++ [Value.int .i64 i].toArray ++ Builtin.zeroCells z.cells (C - (xs.length + 1))) E) := ⟨_, rfl⟩
    rw [← hw'] at hr
    refine ⟨.slice (some ⟨w.heap.size, 0, none⟩) (xs.length + 1) C, w', by simp only [execOp, hop, resolve, invoke, builtin, Sem.run_bind, Sem.run_pure, Result.andThen_ok, List.map_toArray, List.map_cons, List.map_nil, ha _ _ hx, ha _ _ hy, hr], w.heap.size, C, rfl, ?_⟩
    have h1 := hS.drew.alloc (((xs ++ [i]).map fun z => Value.int .i64 z) ++ (Builtin.zeroCells z.cells (C - (xs.length + 1))).toList) E
    have e : (((xs ++ [i]).map fun z => Value.int .i64 z) ++ (Builtin.zeroCells z.cells (C - (xs.length + 1))).toList).toArray = (xs.map fun z => Value.int .i64 z).toArray ++ [Value.int .i64 i].toArray ++ Builtin.zeroCells z.cells (C - (xs.length + 1)) := by
      apply Array.ext'; simp
    rw [e, ← hw'] at h1
    have h2 := h1.close_sl 0 rfl (xs.length + 1) C 1 hge hcm (by simp only [List.length_append, List.length_map, List.length_singleton, Array.length_toList, size_zeroCells, hz]; omega)
    dsimp only [List.set] at h2
    rw [List.take_left' (by rw [List.length_map, List.length_append, List.length_singleton, Nat.mul_one])] at h2
    exact h2

/-! ### Answers -/
def candL (x : PartV) : List Value := [.slice x.ad x.ls.length x.cp, .int .i64 x.cost]
def candOf (x : PartV) : Cand := ⟨x.ls, x.cost⟩
theorem candReps {μ : Mem} : ∀ As : List PartV, (∀ x ∈ As, Lain μ x) → RepL μ (As.flatMap candL) (As.map candOf)
  | [], _ => RepL.nil μ
  | x :: r, h => by
    have h1 : RepL μ (candL x) [candOf x] := (RepL.nil μ).snoc rfl ⟨⟨x.ad, x.cp, rfl, h x (List.mem_cons_self ..)⟩, rfl⟩
    exact h1.append (candReps r fun y hy => h y (List.mem_cons_of_mem _ hy))
theorem Lain.mono {n : Nat} {μ μ' : Mem} {x : PartV} (h : Lain μ x) (hm : Mem.ext n μ μ') : Lain μ' x := Sl.mono (μ := μ) (μ' := μ') h hm
/-- No part at the start: there is no way. -/
theorem SInv.start0 {g : Grf} (hg : GOk g) {R : List Int} (hl : R.length = g.N.toNat) (hr : RestFrom g g.N.toNat 0 R) {r : Int} (h0 : R[0]? = some r) (hf : ¬ r < 1152921504606846976) : SInv g R [] [] := by
  refine ⟨(fun x hx => by cases hx), (fun a ha => by cases ha), List.Pairwise.nil, (fun a ha => by cases ha), List.Pairwise.nil, fun ls c hc => ?_⟩
  have h1 := rest_le hg hl hr hc.seg rfl r h0
  have h2 := seg_cost hg hc.seg
  have h3 := hg.n2
  omega
theorem head_least {hs qs : List PartV} {x : PartV} {n : Nat} (hn : hs.length = n + 1) (hx : hs[0]? = some x) (h : hp hs.length (keyW hs)) (hp' : hs.Perm (x :: qs)) : ∀ y ∈ qs, x.whole ≤ y.whole := fun y hy => by
  have hm : y ∈ hs := hp'.mem_iff.2 (List.mem_cons_of_mem _ hy)
  obtain ⟨j, hj, rfl⟩ := List.getElem_of_mem hm
  have h1 := hp_min h j j (Nat.le_refl _) hj
  rw [key_at hx, key_at (List.getElem?_eq_getElem hj)] at h1
  exact h1
/-- What one list's kids weigh. -/
def wOut (g : Grf) (ls : List Nat) : Nat := (ls.map fun (i : Nat) => W g (lkAt g i).To.toNat).sum
theorem wOut_take {g : Grf} {ls : List Nat} {t : Nat} (h : t < ls.length) : wOut g (ls.take (t + 1)) = wOut g (ls.take t) + W g (lkAt g ls[t]).To.toNat := by
  unfold wOut
  rw [List.take_succ_eq_append_getElem h, List.map_append, List.sum_append_nat]; simp
theorem wOut_le {g : Grf} : ∀ (ls : List Nat) (t : Nat), wOut g (ls.take t) ≤ wOut g ls
  | [], t => by simp [wOut]
  | a :: r, 0 => by simp [wOut]
  | a :: r, t + 1 => by
    have := wOut_le (g := g) r t
    unfold wOut at *
    rw [List.take_succ_cons, List.map_cons, List.map_cons, List.sum_cons, List.sum_cons]; omega
/-- The parts put away so far. -/
structure Kids (g : Grf) (R : List Int) (x : PartV) (O : List Nat) (t : Nat) (ks : List PartV) : Prop where
  kid : ∀ k ∈ ks, ∃ i ∈ O.take t, Kid g R x i k
  ap : (ks.map (·.ls)).Pairwise apart
  all : ∀ i ∈ O.take t, (∃ r, R[(lkAt g i).To.toNat]? = some r ∧ r < 1152921504606846976) → ∃ k ∈ ks, k.ls = x.ls ++ [(i : Int)]
  ws : wsH g ks ≤ wOut g (O.take t)
theorem Kids.start (g : Grf) (R : List Int) (x : PartV) (O : List Nat) : Kids g R x O 0 [] :=
  ⟨(fun k hk => by cases hk), List.Pairwise.nil, (fun i hi => by simp at hi), by simp [wsH]⟩
theorem take_mem {O : List Nat} {t i : Nat} (ht : t < O.length) : i ∈ O.take (t + 1) ↔ i ∈ O.take t ∨ i = O[t] := by
  rw [List.take_succ_eq_append_getElem ht, List.mem_append, List.mem_singleton]
theorem Kids.skip {g : Grf} {R : List Int} {x : PartV} {O : List Nat} {t : Nat} {ks : List PartV} (h : Kids g R x O t ks) (ht : t < O.length) {r : Int} (hr : R[(lkAt g O[t]).To.toNat]? = some r) (hf : r = 1152921504606846976) : Kids g R x O (t + 1) ks := by
  refine ⟨fun k hk => ?_, h.ap, fun i hi hx => ?_, by rw [wOut_take ht]; have := h.ws; omega⟩
  · obtain ⟨i, hi, hk2⟩ := h.kid k hk
    exact ⟨i, (take_mem ht).2 (.inl hi), hk2⟩
  · rcases (take_mem ht).1 hi with hi | hi
    · exact h.all i hi hx
    · subst hi
      obtain ⟨r', h1, h2⟩ := hx
      rw [hr] at h1
      have := Option.some.inj h1
      omega
theorem Kids.put {g : Grf} {R : List Int} {x y : PartV} {O : List Nat} {t : Nat} {ks : List PartV} (h : Kids g R x O t ks) (ht : t < O.length) (hO : O.Pairwise (· < ·)) (hy : Kid g R x O[t] y) : Kids g R x O (t + 1) (y :: ks) := by
  refine ⟨fun k hk => ?_, ?_, fun i hi hx => ?_, ?_⟩
  · rcases List.mem_cons.1 hk with rfl | hk
    · exact ⟨_, (take_mem ht).2 (.inr rfl), hy⟩
    · obtain ⟨i, hi, hk2⟩ := h.kid k hk
      exact ⟨i, (take_mem ht).2 (.inl hi), hk2⟩
  · rw [List.map_cons, List.pairwise_cons]
    refine ⟨fun s hs => ?_, h.ap⟩
    obtain ⟨k, hk, rfl⟩ := List.mem_map.1 hs
    obtain ⟨i, hi, hk2⟩ := h.kid k hk
    rw [hy.ls, hk2.ls]
    obtain ⟨j, hj, rfl⟩ := List.getElem_of_mem hi
    have hj2 : j < t := by rw [List.length_take] at hj; omega
    rw [List.getElem_take]
    have := List.pairwise_iff_getElem.1 hO j t (by omega) ht hj2
    exact apart_kids (by omega)
  · rcases (take_mem ht).1 hi with hi | hi
    · obtain ⟨k, hk, e⟩ := h.all i hi hx
      exact ⟨k, List.mem_cons_of_mem _ hk, e⟩
    · subst hi
      exact ⟨y, List.mem_cons_self .., hy.ls⟩
  · rw [wsH_cons, wOut_take ht, hy.pos]
    have := h.ws; omega
theorem SInv.kids {g : Grf} (hg : GOk g) {R : List Int} (hl : R.length = g.N.toNat) (hr : RestFrom g g.N.toNat 0 R) {x : PartV} {H ks : List PartV} {A : List Cand} {q : Nat} {O : List Nat} {t : Nat} (h : SInv g R (x :: H) A) (hx : x.pos ≠ g.N - 1) (hq : x.pos = q) (hO : O = outTo g g.Links.length q) (hk : Kids g R x O t ks) (ht : ¬ t < O.length) : SInv g R (ks ++ H) A := by
  have e : O.take t = outTo g g.Links.length x.pos.toNat := by rw [List.take_of_length_le (by omega), hO, hq, Int.toNat_natCast]
  obtain ⟨k1, k2, k3, k4⟩ := hk
  rw [e] at k1 k3
  exact SInv.grow hg hl hr h hx k1 k2 k3
theorem Kids.weigh {g : Grf} (hg : GOk g) {R : List Int} {x : PartV} {ks : List PartV} {q : Nat} {O : List Nat} {t : Nat} (hq : x.pos = q) (hqn : q < g.N.toNat) (hO : O = outTo g g.Links.length q) (hk : Kids g R x O t ks) : wsH g ks < W g x.pos.toNat := by
  have h1 := hk.ws
  have h2 := wOut_le (g := g) O t
  have h3 := W_links hg hqn
  rw [hq, Int.toNat_natCast]
  have h4 : wOut g O = ((outTo g g.Links.length q).map fun (i : Nat) => W g (lkAt g i).To.toNat).sum := by unfold wOut; rw [hO]
  omega
theorem seg_pos {g : Grf} (hg : GOk g) {p q d : Int} {ms : List Int} (h : Seg g p ms q d) : 0 ≤ d := by
  induction h with
  | nil p => omega
  | cons i hi hf h2 ih =>
    have := hg.lk _ (lkAt_mem hi); omega
theorem seg_len {g : Grf} (hg : GOk g) {p q d : Int} {ms : List Int} (h : Seg g p ms q d) : (ms.length : Int) ≤ q - p := by
  induction h with
  | nil p => simp
  | cons i hi hf h2 ih =>
    have := hg.lk _ (lkAt_mem hi)
    rw [List.length_cons]; omega
theorem Path.app {g : Grf} {p q d : Int} {ms : List Int} (h : Seg g p ms q d) : ∀ {ls : List Int} {c : Int}, Path g ls p c → Path g (ls ++ ms) q (c + d) := by
  induction h with
  | nil p => intro ls c hp; rw [List.append_nil, Int.add_zero]; exact hp
  | cons i hi hf hs ih =>
    intro ls c hp
    have := ih (Path.snoc i hp hi hf)
    rw [List.append_assoc, Int.add_assoc] at this
    exact this
/-- What List answers. -/
def IsList (g : Grf) (k : Nat) (μ : Mem) (v : Value) : Prop := ∃ (R : List Int) (H : List PartV) (A : List Cand) (ad : Option Addr) (c : Nat), R.length = g.N.toNat ∧ RestFrom g g.N.toNat 0 R ∧ SInv g R H A ∧ (H = [] ∨ A.length = k) ∧ A.length ≤ k ∧ v = .tuple #[.slice ad A.length c, .int .i64 0] ∧ Sl μ ad c A
end Go.Proofs.Ytgnpjhellmfhoaa

/-
  Context: the walk of best.List.
-/
namespace Go.Proofs.Ytgnpjhellmfhoaa
open Go.RowKit Sy
theorem rd_skip {μ : Mem} {e a b : Own} {L : List Own} {w : World} (h : Rd μ (e :: a :: b :: L) w) : Rd μ (e :: L) w := (h.erase 1).erase 1
set_option maxRecDepth 100000 in
set_option maxHeartbeats 4000000 in
theorem list_c (g : Grf) (hg : GOk g) (hW : W g 0 ≤ 1000000) (k : Nat) (hk : k ≤ 50) (a4 : Option Addr) (c4 : Nat) (μ : Mem) (w : World) (hμ : Imm μ w) (hgl : Sl μ a4 c4 g.Links) :
    Calls Try.prog 24 #[.agg #[.int .i64 g.N, .slice a4 g.Links.length c4], .int .i64 k] w (RetV w μ (IsList g k)) := by
  have hgk := hg
  obtain ⟨n1, n2, nl, hlk⟩ := hgk
  have hoN : (outL g).length = g.N.toNat := by unfold outL; rw [List.length_map, List.length_range]
  have hS := St.start w μ hμ
  refine calls_start 116 [.agg #[.int .i64 g.N, .slice a4 g.Links.length c4], .int .i64 k] Try.func24 rfl Try.ntmps24 rfl rfl ?_
  refine CW.seq fun K1 hK1 => ?_
  refine CW.region [0, 1, 2] rfl ?_
  refine LW.hv rfl rfl rfl rfl (Hv.boxS hS rfl rfl) fun v w2 ⟨b2, hv, hb2, hS⟩ => ?_
  subst hv
  refine LW.ex rfl rfl rfl rfl (Ex.assign rfl) hS.rd ?_
  refine LW.ex rfl rfl rfl rfl (Ex.assign rfl) hS.rd ?_
  refine LW.nil fun aa ha => hK1 _ _ _ ?_ aa ha
  refine CW.seq fun K2 hK2 => ?_
  refine CW.seq fun K3 hK3 => ?_
  refine CW.region [0, 1, 2] rfl ?_
  refine LW.ex rfl rfl rfl rfl (Ex.load2c ti46 rfl rfl (by first | exact obT rfl | exact Rd.imm ‹_› | exact slT ‹_›) (by first | exact obT rfl | exact Rd.imm ‹_› | exact slT ‹_›)) hS.rd ?_
  refine LW.hv rfl rfl rfl rfl (Hv.callS hS rfl rfl rfl cb46 (bvalid_c g hg _ _ μ _ hS.imm hgl)) fun v w17 ⟨hv, hS⟩ => ?_
  subst hv
  refine LW.ex rfl rfl rfl rfl (Ex.not rfl rfl) hS.rd ?_
  refine LW.nil fun aa ha => hK3 _ _ _ ?_ aa ha
  refine CW.no rfl ?_
  refine CW.skip fun aa ha => hK2 _ _ _ ?_ aa ha
  refine CW.seq fun K4 hK4 => ?_
  refine CW.seq fun K5 hK5 => ?_
  refine CW.region [0, 1, 2, 3, 4, 5] rfl ?_
  refine LW.ex rfl rfl rfl rfl (Ex.move rfl) hS.rd ?_
  refine LW.ex rfl rfl rfl rfl (Ex.lss rfl rfl rfl) hS.rd ?_
  refine LW.splitB (fun h3_1 => ?_) (fun h3_1 => ?_)
  · have h3_1 := of_decide_eq_true h3_1
    omega
  · have h3_1 := of_decide_eq_false h3_1
    refine LW.ex rfl rfl rfl rfl (Ex.move rfl) hS.rd ?_
    refine LW.ex rfl rfl rfl rfl (Ex.move rfl) hS.rd ?_
    refine LW.ex rfl rfl rfl rfl (Ex.gtr rfl rfl rfl) hS.rd ?_
    refine LW.splitB (fun h3_4 => ?_) (fun h3_4 => ?_)
    · have h3_4 := of_decide_eq_true h3_4
      omega
    · have h3_4 := of_decide_eq_false h3_4
      refine LW.ex rfl rfl rfl rfl (by first | exact Ex.pick_yes rfl rfl | exact Ex.pick_no rfl rfl) hS.rd ?_
      refine LW.nil fun aa ha => hK5 _ _ _ ?_ aa ha
      refine CW.no rfl ?_
      refine CW.skip fun aa ha => hK4 _ _ _ ?_ aa ha
      refine CW.seq fun K6 hK6 => ?_
      have hsz5 := hS.below.size
      refine CW.region [0, 1, 2] rfl ?_
      refine LW.ex rfl rfl rfl rfl (Ex.load2c ti46 rfl rfl (by first | exact obT rfl | exact Rd.imm ‹_› | exact slT ‹_›) (by first | exact obT rfl | exact Rd.imm ‹_› | exact slT ‹_›)) hS.rd ?_
      refine LW.hv rfl rfl rfl rfl (Hv.callV hS rfl rfl rfl cb47 (out_c g hg _ _ μ _ hS.imm hgl)) fun v w26 ⟨μ26, hv26, hm26, hS⟩ => ?_
      obtain ⟨a5, c5, hv, hol⟩ := hv26
      subst hv
      have hgl := hgl.mono hm26
      refine LW.ex rfl rfl rfl rfl (Ex.assign rfl) hS.rd ?_
      refine LW.nil fun aa ha => hK6 _ _ _ ?_ aa ha
      refine CW.seq fun K7 hK7 => ?_
      have hsz6 := hS.below.size
      refine CW.region [0, 1, 2, 3] rfl ?_
      refine LW.ex rfl rfl rfl rfl (Ex.load2c ti46 rfl rfl (by first | exact obT rfl | exact Rd.imm ‹_› | exact slT ‹_›) (by first | exact obT rfl | exact Rd.imm ‹_› | exact slT ‹_›)) hS.rd ?_
      refine LW.ex rfl rfl rfl rfl (Ex.move rfl) hS.rd ?_
      refine LW.hv rfl rfl rfl rfl (Hv.callV hS rfl rfl rfl cb48 (least_c g hg _ _ _ _ μ26 _ hS.imm hgl hol)) fun v w29 ⟨μ29, hv29, hm29, hS⟩ => ?_
      obtain ⟨R, hRl, hR, a7, c7, hv, hrl⟩ := hv29
      subst hv
      have hgl := hgl.mono hm29
      have hol := hol.mono hm29
      refine LW.ex rfl rfl rfl rfl (Ex.assign rfl) hS.rd ?_
      refine LW.nil fun aa ha => hK7 _ _ _ ?_ aa ha
      refine CW.seq fun K8 hK8 => ?_
      have hM := (hm26.mono hsz5).trans (hm29.mono hsz6)
      have hSl := hS
      have hR0 : 0 < R.length := by omega
      obtain ⟨br, orr, rfl, kr0⟩ := hrl.at hR0
      obtain ⟨r0, hr0e⟩ : ∃ r0, r0 = R[0] := ⟨_, rfl⟩
      rw [← hr0e] at kr0
      have hr0 : R[0]? = some r0 := by rw [hr0e]; exact List.getElem?_eq_getElem hR0
      have hS := hSl
      refine CW.region [0, 1, 2] rfl ?_
      refine LW.ex rfl rfl rfl rfl (Ex.buildS st115 rfl rfl rfl) hS.rd ?_
      refine LW.hv rfl rfl rfl rfl (Hv.alloc ti115 hS) fun v w8 ⟨b8, hv, hb8, hS⟩ => ?_
      subst hv
      refine LW.hu rfl rfl rfl (Hv.storeN (k := 0) ti115 hS rfl rfl rfl rfl (by simp [Value.oneCell'])) fun _ w_2 hS => ?_
      dsimp only [List.set] at hS
      refine LW.nil fun aa ha => hK8 _ _ _ ?_ aa ha
      refine CW.seq fun K9 hK9 => ?_
      have hJ8 : ∀ (wj : World) (hs : List PartV) (adh : Option Addr) (ch : Nat), St w wj μ29 [Own.obj b8 [.slice adh hs.length ch, .func (.func 49) #[] #[]] 115, Own.sl adh hs.length ch 110 4 (hs.flatMap partL), Own.obj b2 [.int .i64 g.N, .slice a4 g.Links.length c4] 46] → (SInv g R hs []) → (hp hs.length (keyW hs)) → (∀ y ∈ hs, Lain μ29 y) → (wsH g hs ≤ W g 0) → KW K9 116 [(1, .int .i64 k), (2, .pointer (some ⟨b2, 0, none⟩)), (6, .slice a5 (outL g).length c5), (7, .slice (some ⟨br, orr, none⟩) R.length c7), (8, .pointer (some ⟨b8, 0, none⟩))] wj := by
        intro wj hs adh ch hS hI hH hl hw
        refine hK9 _ _ _ ?_
        refine CW.seq fun K10 hK10 => ?_
        refine CW.region [0] rfl ?_
        refine LW.ex rfl rfl rfl rfl (Ex.assign rfl) hS.rd ?_
        refine LW.nil fun aa ha => hK10 _ _ _ ?_ aa ha
        refine CW.seq fun K11 hK11 => ?_
        refine CW.block ?_
        have hS := nil_sl 58 2 hS
        have hS := st_front hS 2 rfl
        dsimp only [List.eraseIdx] at hS
        have hS := st_front hS 2 rfl
        dsimp only [List.eraseIdx] at hS
        have hgl0 := hgl
        have hol0 := hol
        have hrl0 := hrl
        refine CW.loop (fun qq frm wl11 => ∃ (hs As : List PartV) (adh ada : Option Addr) (ch ca na : Nat) (μL : Mem), na ≤ k ∧ qq = wsH g hs ∧ frm = [(1, .int .i64 k), (2, .pointer (some ⟨b2, 0, none⟩)), (6, .slice a5 (outL g).length c5), (7, .slice (some ⟨br, orr, none⟩) R.length c7), (8, .pointer (some ⟨b8, 0, none⟩)), (9, .slice ada na ca)] ∧ St w wl11 μL [Own.obj b8 [.slice adh hs.length ch, .func (.func 49) #[] #[]] 115, Own.sl adh hs.length ch 110 4 (hs.flatMap partL), Own.sl ada na ca 58 2 (As.flatMap candL), Own.obj b2 [.int .i64 g.N, .slice a4 g.Links.length c4] 46] ∧ (na = As.length) ∧ (SInv g R hs (As.map candOf)) ∧ (hp hs.length (keyW hs)) ∧ (∀ y ∈ hs, Lain μL y) ∧ (∀ y ∈ As, Lain μL y) ∧ (wsH g hs ≤ W g 0) ∧ (Mem.ext w.heap.size μ29 μL)) _ ⟨hs, [], adh, none, ch, 0, 0, μ29, (by first | omega | (simp; done) | (simp; omega)), rfl, rfl, hS, rfl, hI, hH, hl, (fun y hy => by cases hy), hw, Mem.ext.refl _ _⟩ ⟨rfl, rfl, rfl, rfl, rfl, rfl, trivial⟩ ?_
        clear hS
        rintro qq frm wl11 ⟨hs, As, adh, ada, ch, ca, na, μL, hnk, hq, rfl, hS, hna, hI, hH, hl, hlA, hw, hmL⟩
        have hgl := hgl0.mono hmL
        have hol := hol0.mono hmL
        have hrl := hrl0.mono hmL
        refine CW.seq fun K12 hK12 => ?_
        refine CW.seq fun K13 hK13 => ?_
        refine CW.region [0, 1, 2, 3, 4, 5, 6, 7, 8, 9] rfl ?_
        refine LW.ex rfl rfl rfl rfl (Ex.fieldO 0 Try.underlying115 rfl rfl ti113 rfl) hS.rd ?_
        refine LW.ex rfl rfl rfl rfl (Ex.load1 ti113 rfl rfl (by first | exact obT rfl | exact Rd.imm ‹_› | exact slT ‹_›)) hS.rd ?_
        refine LW.ex rfl rfl rfl rfl (Ex.lenSl rfl Try.underlying113 rfl) hS.rd ?_
        refine LW.ex rfl rfl rfl rfl (Ex.gtr rfl rfl rfl) hS.rd ?_
        refine LW.splitB (fun h11_3 => ?_) (fun h11_3 => ?_)
        · have h11_3 := of_decide_eq_true h11_3
          refine LW.ex rfl rfl rfl rfl (Ex.move rfl) hS.rd ?_
          refine LW.ex rfl rfl rfl rfl (Ex.move rfl) hS.rd ?_
          refine LW.ex rfl rfl rfl rfl (Ex.lenSl rfl Try.underlying76 rfl) hS.rd ?_
          refine LW.ex rfl rfl rfl rfl (Ex.move rfl) hS.rd ?_
          refine LW.ex rfl rfl rfl rfl (Ex.lss rfl rfl rfl) hS.rd ?_
          refine LW.splitB (fun h11_8 => ?_) (fun h11_8 => ?_)
          · have h11_8 := of_decide_eq_true h11_8
            refine LW.ex rfl rfl rfl rfl (by first | exact Ex.pick_yes rfl rfl | exact Ex.pick_no rfl rfl) hS.rd ?_
            refine LW.nil fun aa ha => hK13 _ _ _ ?_ aa ha
            refine CW.yes rfl ?_
            refine CW.skip fun aa ha => hK12 _ _ _ ?_ aa ha
            refine CW.block ?_
            refine CW.seq fun K14 hK14 => ?_
            obtain ⟨n, hn⟩ : ∃ n, hs.length = n + 1 := ⟨hs.length - 1, by omega⟩
            obtain ⟨x, hx⟩ : ∃ x, hs[0]? = some x := ⟨hs[0]'(by omega), List.getElem?_eq_getElem (by omega)⟩
            obtain ⟨l, hl0⟩ : ∃ l, hs[n]? = some l := ⟨hs[n]'(by omega), List.getElem?_eq_getElem (by omega)⟩
            have hlx := hl x (List.mem_of_getElem? hx)
            have hwl := wsH_len g hs
            have hmin : ∀ qs, hs.Perm (x :: qs) → ∀ y ∈ qs, x.whole ≤ y.whole := fun qs h => head_least hn hx hH h
            rw [hn] at hS hH
            refine CW.region [0, 1, 2] rfl ?_
            refine LW.hv rfl rfl rfl rfl (Hv.callM rfl rfl rfl cb52 (pop_m hs x l hn hx hl0 hS (by omega) hl)) fun v w50 ⟨qs, hv, hql, hqp, hqh, hS⟩ => ?_
            subst hv
            subst hql
            refine LW.hv rfl rfl rfl rfl (Hv.alloc ti110 hS) fun v w10 ⟨b10, hv, hb10, hS⟩ => ?_
            subst hv
            refine LW.hu rfl rfl rfl (Hv.storeN (k := 0) ti110 hS rfl rfl rfl rfl (by simp [Value.oneCell'])) fun _ w_2 hS => ?_
            dsimp only [List.set] at hS
            refine LW.nil fun aa ha => hK14 _ _ _ ?_ aa ha
            refine CW.seq fun K15 hK15 => ?_
            refine CW.seq fun K16 hK16 => ?_
            have hwp := wsH_perm (g := g) hqp
            rw [wsH_cons] at hwp
            have hIx := hI.perm hqp
            have hWp := W_pos g x.pos.toNat
            have hpx := (hIx.ph x (List.mem_cons_self ..)).path
            have hin := path_in hg hpx
            have hcost := seg_cost hg hpx.seg
            have hcost0 := seg_pos hg hpx.seg
            have hxlen := seg_len hg hpx.seg
            have hlq : ∀ y ∈ qs, Lain μL y := fun y hy => hl y (hqp.mem_iff.2 (List.mem_cons_of_mem _ hy))
            have hH2 := hqh hH
            have hmin2 := hmin qs hqp
            refine CW.region [0, 1, 2, 3, 4, 5] rfl ?_
            refine LW.ex rfl rfl rfl rfl (Ex.fieldO 1 Try.underlying110 rfl rfl ti3 rfl) hS.rd ?_
            refine LW.ex rfl rfl rfl rfl (Ex.load1 ti3 rfl rfl (by first | exact obT rfl | exact Rd.imm ‹_› | exact slT ‹_›)) hS.rd ?_
            refine LW.ex rfl rfl rfl rfl (Ex.fieldO 0 Try.underlying46 rfl rfl ti3 rfl) hS.rd ?_
            refine LW.ex rfl rfl rfl rfl (Ex.load1 ti3 rfl rfl (by first | exact obT rfl | exact Rd.imm ‹_› | exact slT ‹_›)) hS.rd ?_
            refine LW.ex rfl rfl rfl rfl (Ex.sub rfl rfl (w64 (by omega) (by omega))) hS.rd ?_
            refine LW.ex rfl rfl rfl rfl (Ex.eql rfl rfl rfl) hS.rd ?_
            refine LW.splitB (fun h13_5 => ?_) (fun h13_5 => ?_)
            · have h13_5 := of_decide_eq_true h13_5
              refine LW.nil fun aa ha => hK16 _ _ _ ?_ aa ha
              refine CW.yes rfl ?_
              refine CW.seq fun K17 hK17 => ?_
              refine CW.region [0, 1, 2, 3, 4, 5, 6, 7, 8] rfl ?_
              refine LW.ex rfl rfl rfl rfl (Ex.move rfl) hS.rd ?_
              refine LW.ex rfl rfl rfl rfl (Ex.fieldO 0 Try.underlying110 rfl rfl ti31 rfl) hS.rd ?_
              refine LW.ex rfl rfl rfl rfl (Ex.load1 ti31 rfl rfl (by first | exact obT rfl | exact Rd.imm ‹_› | exact slT ‹_›)) hS.rd ?_
              refine LW.ex rfl rfl rfl rfl (Ex.fieldO 2 Try.underlying110 rfl rfl ti3 rfl) hS.rd ?_
              refine LW.ex rfl rfl rfl rfl (Ex.load1 ti3 rfl rfl (by first | exact obT rfl | exact Rd.imm ‹_› | exact slT ‹_›)) hS.rd ?_
              refine LW.ex rfl rfl rfl rfl (Ex.buildS st58 rfl rfl rfl) hS.rd ?_
              refine LW.hv rfl rfl rfl rfl (Hv.buildSl hS Try.underlying76 ti58 rfl rfl rfl rfl rfl rfl) fun v w63 ⟨b63, hv, hb63, hS⟩ => ?_
              subst hv
              refine LW.hv rfl rfl rfl rfl (Hv.append (k := 4) rfl Try.underlying76 ti58 rfl hS rfl rfl rfl rfl (Rd.objAll (k := 0) rfl hS.rd) (by simp [Value.oneCell']) (by unfold maxLen; omega) (by omega)) fun v w64 ⟨ad64, c64, hv, hS⟩ => ?_
              subst hv
              dsimp only [List.set] at hS
              have hS := hS.drop 0 rfl
              dsimp only [List.eraseIdx] at hS
              rw [show As.flatMap candL ++ [Value.slice x.ad x.ls.length x.cp, .int .i64 x.cost] = (As ++ [x]).flatMap candL by rw [List.flatMap_append, List.flatMap_singleton]; rfl] at hS
              refine LW.ex rfl rfl rfl rfl (Ex.assign rfl) hS.rd ?_
              refine LW.nil fun aa ha => hK17 _ _ _ ?_ aa ha
              refine CW.exit fun aa ha => ?_
              have hS := hS.drop 0 rfl
              dsimp only [List.eraseIdx] at hS
              refine ⟨_, _, ?m11, ⟨qs, As ++ [x], adh, ad64, ch, c64, na + 1, μL, (by first | omega | (simp; done) | (simp; omega)), rfl, rfl, hS, by rw [List.length_append, hna]; rfl, by rw [List.map_append]; exact SInv.take hg hR hIx hmin2 h13_5, hH2, hlq, fun y hy => (List.mem_append.1 hy).elim (hlA y) fun h => by obtain rfl := List.mem_singleton.1 h; exact hlx, by omega, hmL⟩, ha.sub ⟨rfl, rfl, rfl, rfl, rfl, rfl, trivial⟩⟩
              case m11 => omega
            · have h13_5 := of_decide_eq_false h13_5
              refine LW.nil fun aa ha => hK16 _ _ _ ?_ aa ha
              refine CW.no rfl ?_
              refine CW.skip fun aa ha => hK15 _ _ _ ?_ aa ha
              refine CW.seq fun K18 hK18 => ?_
              obtain ⟨q, hxq⟩ : ∃ q : Nat, x.pos = q := ⟨x.pos.toNat, by omega⟩
              rw [hxq] at hS
              have hqn : q < g.N.toNat := by omega
              have hqo : q < (outL g).length := by omega
              have hSl := hS
              obtain ⟨bo, oo, rfl, ⟨ad9, c9, kq, hs9⟩⟩ := hol.at hqo
              have hS := hSl
              obtain ⟨O, hO⟩ : ∃ O, O = outTo g g.Links.length q := ⟨_, rfl⟩
              have hOl : O.length ≤ 20000 := by rw [hO]; exact Nat.le_trans (outTo_len _ _ _) nl
              have hOs : O.Pairwise (· < ·) := by rw [hO]; exact List.Pairwise.filter _ List.pairwise_lt_range
              have hel : (outL g)[q] = O.map fun (k : Nat) => (k : Int) := by simp only [outL, List.getElem_map, List.getElem_range, hO]
              rw [hel] at kq hs9
              rw [List.length_map] at kq
              refine CW.region [0, 1, 2, 3, 4, 5, 6] rfl ?_
              refine LW.ex rfl rfl rfl rfl (Ex.move rfl) hS.rd ?_
              refine LW.ex rfl rfl rfl rfl (Ex.fieldO 1 Try.underlying110 rfl rfl ti3 rfl) hS.rd ?_
              refine LW.ex rfl rfl rfl rfl (Ex.load1 ti3 rfl rfl (by first | exact obT rfl | exact Rd.imm ‹_› | exact slT ‹_›)) hS.rd ?_
              refine LW.ex rfl rfl rfl rfl (Ex.indexSl Try.underlying106 ti31 rfl rfl rfl (by omega)) hS.rd ?_
              refine LW.ex rfl rfl rfl rfl (Ex.load1 ti31 rfl rfl (by first | exact obT rfl | exact Rd.imm ‹_› | exact slT ‹_›)) hS.rd ?_
              refine LW.ex rfl rfl rfl rfl (Ex.lenSl rfl Try.underlying31 rfl) hS.rd ?_
              refine LW.ex rfl rfl rfl rfl (Ex.move rfl) hS.rd ?_
              refine LW.nil fun aa ha => hK18 _ _ _ ?_ aa ha
              refine CW.block ?_
              have hS := st_front hS 2 rfl
              dsimp only [List.eraseIdx] at hS
              have hS := st_front hS 2 rfl
              dsimp only [List.eraseIdx] at hS
              refine CW.loop (fun qq frm wl16 => ∃ (t : Nat) (ks qs2 : List PartV) (adh2 : Option Addr) (ch2 : Nat) (μM : Mem), t ≤ O.length ∧ qq = O.length - t ∧ frm = [(1, .int .i64 k), (2, .pointer (some ⟨b2, 0, none⟩)), (6, .slice (some ⟨bo, oo, none⟩) (outL g).length c5), (7, .slice (some ⟨br, orr, none⟩) R.length c7), (8, .pointer (some ⟨b8, 0, none⟩)), (9, .slice ada na ca), (10, .pointer (some ⟨b10, 0, none⟩)), (69, .slice ad9 O.length c9), (70, .int .i64 O.length), (71, .int .i64 t)] ∧ St w wl16 μM [Own.obj b8 [.slice adh2 qs2.length ch2, .func (.func 49) #[] #[]] 115, Own.sl adh2 qs2.length ch2 110 4 (qs2.flatMap partL), Own.obj b10 [.slice x.ad x.ls.length x.cp, .int .i64 q, .int .i64 x.cost, .int .i64 x.whole] 110, Own.sl ada na ca 58 2 (As.flatMap candL), Own.obj b2 [.int .i64 g.N, .slice a4 g.Links.length c4] 46] ∧ (qs2.Perm (ks ++ qs)) ∧ (Kids g R x O t ks) ∧ (hp qs2.length (keyW qs2)) ∧ (∀ y ∈ qs2, Lain μM y) ∧ (Mem.ext w.heap.size μL μM)) _ ⟨0, [], qs, adh, ch, μL, (by first | omega | (simp; done) | (simp; omega)), rfl, rfl, hS, List.Perm.refl _, Kids.start g R x O, hH2, hlq, Mem.ext.refl _ _⟩ ⟨rfl, rfl, rfl, rfl, rfl, rfl, rfl, rfl, rfl, rfl, trivial⟩ ?_
              clear hS
              rintro qq frm wl16 ⟨t, ks, qs2, adh2, ch2, μM, ht, hq, rfl, hS, hpm, hK, hH3, hl2, hmM⟩
              have hgl := hgl.mono hmM
              have hrl := hrl.mono hmM
              have hs9 := hs9.mono hmM
              have hlxM := hlx.mono hmM
              have hwk := hK.weigh hg hxq hqn hO
              have hwq := wsH_perm (g := g) hpm
              rw [wsH_append] at hwq
              have hql2 := wsH_len g qs2
              refine CW.seq fun K19 hK19 => ?_
              refine CW.region [0] rfl ?_
              refine LW.ex rfl rfl rfl rfl (Ex.lss rfl rfl rfl) hS.rd ?_
              refine LW.splitB (fun h16_0 => ?_) (fun h16_0 => ?_)
              · have h16_0 := of_decide_eq_true h16_0
                refine LW.nil fun aa ha => hK19 _ _ _ ?_ aa ha
                refine CW.seq fun K20 hK20 => ?_
                refine CW.yes rfl ?_
                refine CW.skip fun aa ha => hK20 _ _ _ ?_ aa ha
                refine CW.seq fun K21 hK21 => ?_
                refine CW.block ?_
                refine CW.seq fun K22 hK22 => ?_
                have hSl := hS
                have ht2 : t < O.length := by omega
                obtain ⟨be, oe, rfl, ke⟩ := hs9.at (i := t) (by rw [List.length_map]; exact ht2)
                obtain ⟨i, hi⟩ : ∃ i, i = O[t] := ⟨_, rfl⟩
                rw [show (O.map fun (k : Nat) => (k : Int))[t]'(by rw [List.length_map]; exact ht2) = (i : Int) by rw [List.getElem_map, hi]] at ke
                have him : i ∈ outTo g g.Links.length q := by rw [hi, ← hO]; exact List.getElem_mem ht2
                obtain ⟨hi2, hi3⟩ := outTo_mem him
                obtain ⟨bl, ol, rfl, k0, k1, k2, k3⟩ := hgl.at hi2
                have hkk := hlk _ (List.getElem_mem hi2)
                have hto := hg.to him
                rw [lkAt_nat hi2] at hto
                obtain ⟨z, hz⟩ : ∃ z, z = g.Links[i] := ⟨_, rfl⟩
                have hzl : lkAt g i = z := by rw [lkAt_nat hi2, hz]
                rw [← hz] at k0 k1 k2 k3 hkk hto
                obtain ⟨tv, htv⟩ : ∃ v : Nat, z.To = v := ⟨z.To.toNat, by omega⟩
                rw [htv] at k1
                have hvl : tv < R.length := by omega
                obtain ⟨_, _, er, kr⟩ := hrl.at hvl
                cases er
                obtain ⟨r, hr⟩ : ∃ r, r = R[tv] := ⟨_, rfl⟩
                rw [← hr] at kr
                have hrg : R[tv]? = some r := by rw [hr]; exact List.getElem?_eq_getElem hvl
                have hrb := hR.1 r (List.mem_of_getElem? hrg)
                have hrO : R[(lkAt g O[t]).To.toNat]? = some r := by rw [← hi, hzl, htv, Int.toNat_natCast]; exact hrg
                have hS := hSl
                refine CW.region [0, 1, 2] rfl ?_
                refine LW.ex rfl rfl rfl rfl (Ex.indexSl Try.underlying31 ti3 rfl rfl rfl (by omega)) hS.rd ?_
                refine LW.ex rfl rfl rfl rfl (Ex.load1 ti3 rfl rfl (by first | exact obT rfl | exact Rd.imm ‹_› | exact slT ‹_›)) hS.rd ?_
                refine LW.ex rfl rfl rfl rfl (Ex.assign rfl) hS.rd ?_
                refine LW.nil fun aa ha => hK22 _ _ _ ?_ aa ha
                refine CW.seq fun K23 hK23 => ?_
                refine CW.region [0, 1, 2, 3, 4, 5, 6] rfl ?_
                refine LW.ex rfl rfl rfl rfl (Ex.fieldO 1 Try.underlying46 rfl rfl ti44 rfl) hS.rd ?_
                refine LW.ex rfl rfl rfl rfl (Ex.load1 ti44 rfl rfl (by first | exact obT rfl | exact Rd.imm ‹_› | exact slT ‹_›)) hS.rd ?_
                refine LW.ex rfl rfl rfl rfl (Ex.move rfl) hS.rd ?_
                refine LW.ex rfl rfl rfl rfl (Ex.indexSl Try.underlying44 ti66 rfl rfl rfl (by omega)) hS.rd ?_
                refine LW.ex rfl rfl rfl rfl (Ex.load4c ti66 rfl rfl (by first | exact obT rfl | exact Rd.imm ‹_› | exact slT ‹_›) (by first | exact obT rfl | exact Rd.imm ‹_› | exact slT ‹_›) (by first | exact obT rfl | exact Rd.imm ‹_› | exact slT ‹_›) (by first | exact obT rfl | exact Rd.imm ‹_› | exact slT ‹_›)) hS.rd ?_
                refine LW.hv rfl rfl rfl rfl (Hv.alloc ti66 hS) fun v w13 ⟨b13, hv, hb13, hS⟩ => ?_
                subst hv
                refine LW.hu rfl rfl rfl (Hv.storeN (k := 0) ti66 hS rfl rfl rfl rfl (by simp [Value.oneCell'])) fun _ w_6 hS => ?_
                dsimp only [List.set] at hS
                refine LW.nil fun aa ha => hK23 _ _ _ ?_ aa ha
                refine CW.seq fun K24 hK24 => ?_
                refine CW.seq fun K25 hK25 => ?_
                refine CW.region [0, 1, 2, 3, 4, 5] rfl ?_
                refine LW.ex rfl rfl rfl rfl (Ex.move rfl) hS.rd ?_
                refine LW.ex rfl rfl rfl rfl (Ex.fieldO 1 Try.underlying66 rfl rfl ti3 rfl) hS.rd ?_
                refine LW.ex rfl rfl rfl rfl (Ex.load1 ti3 rfl rfl (by first | exact obT rfl | exact Rd.imm ‹_› | exact slT ‹_›)) hS.rd ?_
                refine LW.ex rfl rfl rfl rfl (Ex.indexSl Try.underlying31 ti3 rfl rfl rfl (by omega)) hS.rd ?_
                refine LW.ex rfl rfl rfl rfl (Ex.load1 ti3 rfl rfl (by first | exact obT rfl | exact Rd.imm ‹_› | exact slT ‹_›)) hS.rd ?_
                refine LW.ex rfl rfl rfl rfl (Ex.eql rfl rfl rfl) hS.rd ?_
                refine LW.splitB (fun h19_5 => ?_) (fun h19_5 => ?_)
                · have h19_5 := of_decide_eq_true h19_5
                  refine LW.nil fun aa ha => hK25 _ _ _ ?_ aa ha
                  refine CW.yes rfl ?_
                  refine CW.exit fun aa ha => hK21 _ _ _ ?_ aa ha
                  refine CW.region [0, 1] rfl ?_
                  refine LW.ex rfl rfl rfl rfl (Ex.add rfl rfl (by first | exact inc64 (by omega) | exact addN (by omega) | exact w64 (by omega) (by omega))) hS.rd ?_
                  refine LW.ex rfl rfl rfl rfl (Ex.move rfl) hS.rd ?_
                  refine LW.nil fun aa ha => ?_
                  have hS := hS.drop 0 rfl
                  dsimp only [List.eraseIdx] at hS
                  refine ⟨_, _, ?m16, ⟨t + 1, ks, qs2, adh2, ch2, μM, (by first | omega | (simp; done) | (simp; omega)), rfl, rfl, hS, hpm, hK.skip ht2 hrO h19_5, hH3, hl2, hmM⟩, ha.sub ⟨rfl, rfl, rfl, rfl, rfl, rfl, rfl, rfl, rfl, rfl, trivial⟩⟩
                  case m16 => omega
                · have h19_5 := of_decide_eq_false h19_5
                  refine LW.nil fun aa ha => hK25 _ _ _ ?_ aa ha
                  refine CW.no rfl ?_
                  refine CW.skip fun aa ha => hK24 _ _ _ ?_ aa ha
                  refine CW.seq fun K26 hK26 => ?_
                  refine CW.region [0, 1, 2, 3, 4, 5] rfl ?_
                  refine LW.ex rfl rfl rfl rfl (Ex.fieldO 2 Try.underlying110 rfl rfl ti3 rfl) hS.rd ?_
                  refine LW.ex rfl rfl rfl rfl (Ex.load1 ti3 rfl rfl (by first | exact obT rfl | exact Rd.imm ‹_› | exact slT ‹_›)) hS.rd ?_
                  refine LW.ex rfl rfl rfl rfl (Ex.fieldO 3 Try.underlying66 rfl rfl ti3 rfl) hS.rd ?_
                  refine LW.ex rfl rfl rfl rfl (Ex.load1 ti3 rfl rfl (by first | exact obT rfl | exact Rd.imm ‹_› | exact slT ‹_›)) hS.rd ?_
                  refine LW.ex rfl rfl rfl rfl (Ex.add rfl rfl (w64 (by omega) (by omega))) hS.rd ?_
                  refine LW.ex rfl rfl rfl rfl (Ex.assign rfl) hS.rd ?_
                  refine LW.nil fun aa ha => hK26 _ _ _ ?_ aa ha
                  refine CW.seq fun K27 hK27 => ?_
                  refine CW.region [0, 1, 2, 3] rfl ?_
                  refine LW.ex rfl rfl rfl rfl (Ex.fieldO 0 Try.underlying110 rfl rfl ti31 rfl) hS.rd ?_
                  refine LW.ex rfl rfl rfl rfl (Ex.load1 ti31 rfl rfl (by first | exact obT rfl | exact Rd.imm ‹_› | exact slT ‹_›)) hS.rd ?_
                  refine LW.ex rfl rfl rfl rfl (Ex.lenSl rfl Try.underlying31 rfl) hS.rd ?_
                  refine LW.ex rfl rfl rfl rfl (Ex.assign rfl) hS.rd ?_
                  refine LW.nil fun aa ha => hK27 _ _ _ ?_ aa ha
                  have hS := hS.drew
                  refine CW.draw 20 (.ex 0 <| .ex 1 <| .ex 2 <| .ex 3 <| .ex 4 <| .ex 5 <| .ex 8 <| .ex 9 <| .ex 10 <| .ex 11 <| .ex 12 <| .ex 13 <| .ex 14 <| .ex 15 <| .ex 16 <| .ex 17 <| .one 6 <| .one 7 <| .ex 18 <| .one 19 <| .done) [] (Rd _ _) mixed (by kernel_rfl) rfl rfl (rd_skip hS.rd) ?_
                  refine PW.ex rfl rfl rfl rfl (Ex.fieldO 0 Try.underlying110 rfl rfl ti31 rfl) ?_
                  refine PW.ex rfl rfl rfl rfl (Ex.load1 ti31 rfl rfl (by first | exact obT rfl | exact Rd.imm ‹_› | exact slT ‹_›)) ?_
                  refine PW.ex rfl rfl rfl rfl (Ex.move rfl) ?_
                  refine PW.ex rfl rfl rfl rfl (Ex.move rfl) ?_
                  refine PW.ex rfl rfl rfl rfl (slice3_ex Try.underlying31 ti3 rfl rfl rfl rfl rfl (Nat.le_refl _) hlxM.1) ?_
                  refine PW.ex rfl rfl rfl rfl (Ex.move rfl) ?_
                  refine PW.ex rfl rfl rfl rfl (Ex.fieldO 1 Try.underlying66 rfl rfl ti3 rfl) ?_
                  refine PW.ex rfl rfl rfl rfl (Ex.load1 ti3 rfl rfl (by first | exact obT rfl | exact Rd.imm ‹_› | exact slT ‹_›)) ?_
                  refine PW.ex rfl rfl rfl rfl (Ex.move rfl) ?_
                  refine PW.ex rfl rfl rfl rfl (Ex.move rfl) ?_
                  refine PW.ex rfl rfl rfl rfl (Ex.move rfl) ?_
                  refine PW.ex rfl rfl rfl rfl (Ex.fieldO 1 Try.underlying66 rfl rfl ti3 rfl) ?_
                  refine PW.ex rfl rfl rfl rfl (Ex.load1 ti3 rfl rfl (by first | exact obT rfl | exact Rd.imm ‹_› | exact slT ‹_›)) ?_
                  refine PW.ex rfl rfl rfl rfl (Ex.indexSl Try.underlying31 ti3 rfl rfl rfl (by omega)) ?_
                  refine PW.ex rfl rfl rfl rfl (Ex.load1 ti3 rfl rfl (by first | exact obT rfl | exact Rd.imm ‹_› | exact slT ‹_›)) ?_
                  refine PW.ex rfl rfl rfl rfl (Ex.add rfl rfl (w64 (by omega) (by omega))) ?_
                  refine PW.hv rfl rfl rfl rfl (Hv.buildSl hS Try.underlying31 ti3 rfl rfl rfl rfl rfl rfl) (fun _ _ ⟨_, _, _, h⟩ => rd_skip h.rd.tail) fun v w100 ⟨b100, hv, hb100, hS⟩ => ?_
                  subst hv
                  refine PW.hv rfl rfl rfl rfl (append_imm rfl Try.underlying31 ti3 rfl hS hlxM rfl rfl (Rd.objAll (k := 0) rfl hS.rd 0 _ rfl) (by simp only [maxLen]; omega) (by omega)) (fun _ _ ⟨_, _, _, h⟩ => rd_skip h.rd.tail.tail) fun v w101 ⟨g101, c101, hv, hS⟩ => ?_
                  subst hv
                  obtain ⟨bs, μ3, hm3, hS, hφ⟩ := hS.shut 0 rfl
                  dsimp only [List.eraseIdx] at hS
                  have hly : Lain μ3 (⟨some ⟨g101, 0, none⟩, c101, x.ls ++ [(i : Int)], tv, x.cost + z.Cost, x.cost + z.Cost + r⟩ : PartV) := Sl.of_own hφ (RepL.ints _ _) rfl
                  have hyk : Kid g R x O[t] (⟨some ⟨g101, 0, none⟩, c101, x.ls ++ [(i : Int)], tv, x.cost + z.Cost, x.cost + z.Cost + r⟩ : PartV) := by
                    rw [← hi]
                    exact ⟨rfl, by rw [hzl, htv], by rw [hzl], r, by rw [hzl, htv, Int.toNat_natCast]; exact hrg, by omega, rfl⟩
                  refine PW.ex rfl rfl rfl rfl (Ex.buildS st110 rfl rfl rfl) ?_
                  have hS := st_front hS 3 rfl
                  dsimp only [List.eraseIdx] at hS
                  have hS := st_front hS 3 rfl
                  dsimp only [List.eraseIdx] at hS
                  refine PW.hv rfl rfl rfl rfl (Hv.callM rfl rfl rfl cb51 (push_m qs2 (⟨some ⟨g101, 0, none⟩, c101, x.ls ++ [(i : Int)], tv, x.cost + z.Cost, x.cost + z.Cost + r⟩ : PartV) hS (by omega) (fun y hy => (hl2 y hy).mono hm3) hly)) (fun _ _ ⟨_, _, _, _, _, h⟩ => Rd.le hm3 h.rd.tail.tail.tail) fun v w113 ⟨ad3, c3, qs3, hpm3, hhp3, hS⟩ => ?_
                  have hS := st_front hS 3 rfl
                  dsimp only [List.eraseIdx] at hS
                  have hS := st_front hS 3 rfl
                  dsimp only [List.eraseIdx] at hS
                  have hly3 : ∀ u ∈ qs3, Lain μ3 u := fun u hu => by
                    rcases List.mem_cons.1 (hpm3.mem_iff.1 hu) with rfl | hu
                    · exact hly
                    · exact (hl2 u hu).mono hm3
                  refine PW.nil ?_
                  refine LW.nil fun aa ha => hK21 _ _ _ ?_ aa ha
                  refine CW.region [0, 1] rfl ?_
                  refine LW.ex rfl rfl rfl rfl (Ex.add rfl rfl (by first | exact inc64 (by omega) | exact addN (by omega) | exact w64 (by omega) (by omega))) hS.rd ?_
                  refine LW.ex rfl rfl rfl rfl (Ex.move rfl) hS.rd ?_
                  refine LW.nil fun aa ha => ?_
                  have hS := hS.drop 0 rfl
                  dsimp only [List.eraseIdx] at hS
                  have hS := hS.drop 0 rfl
                  dsimp only [List.eraseIdx] at hS
                  refine ⟨_, _, ?m16, ⟨t + 1, (⟨some ⟨g101, 0, none⟩, c101, x.ls ++ [(i : Int)], tv, x.cost + z.Cost, x.cost + z.Cost + r⟩ : PartV) :: ks, qs3, ad3, c3, μ3, (by first | omega | (simp; done) | (simp; omega)), rfl, rfl, hS, hpm3.trans (hpm.cons _), hK.put ht2 hOs hyk, hhp3 hH3, hly3, hmM.trans hm3⟩, ha.sub ⟨rfl, rfl, rfl, rfl, rfl, rfl, rfl, rfl, rfl, rfl, trivial⟩⟩
                  case m16 => omega
              · have h16_0 := of_decide_eq_false h16_0
                refine LW.nil fun aa ha => hK19 _ _ _ ?_ aa ha
                refine CW.seq fun K28 hK28 => ?_
                refine CW.no rfl ?_
                refine CW.exit fun aa ha => ?_
                have hS := hS.drop 2 rfl
                dsimp only [List.eraseIdx] at hS
                refine ⟨_, _, ?m11, ⟨qs2, As, adh2, ada, ch2, ca, na, μM, (by first | omega | (simp; done) | (simp; omega)), rfl, rfl, hS, hna, (SInv.kids hg hRl hR hIx h13_5 hxq hO hK (by omega)).perm hpm.symm, hH3, hl2, fun y hy => (hlA y hy).mono hmM, by omega, hmL.trans hmM⟩, ha.sub ⟨rfl, rfl, rfl, rfl, rfl, rfl, trivial⟩⟩
                case m11 => omega
          · have h11_8 := of_decide_eq_false h11_8
            refine LW.ex rfl rfl rfl rfl (by first | exact Ex.pick_yes rfl rfl | exact Ex.pick_no rfl rfl) hS.rd ?_
            refine LW.nil fun aa ha => hK13 _ _ _ ?_ aa ha
            refine CW.no rfl ?_
            refine CW.exit fun aa ha => hK11 _ _ _ ?_ aa ha
            refine CW.seq fun K29 hK29 => ?_
            refine CW.region [0, 1, 2] rfl ?_
            refine LW.ex rfl rfl rfl rfl (Ex.move rfl) hS.rd ?_
            refine LW.ex rfl rfl rfl rfl (Ex.assign rfl) hS.rd ?_
            refine LW.ex rfl rfl rfl rfl (Ex.assign rfl) hS.rd ?_
            refine LW.nil fun aa ha => hK29 _ _ _ ?_ aa ha
            refine CW.ret fun aa ha => ?_
            refine ret_two ha Try.results24 rfl rfl ?_
            subst hna
            obtain ⟨bs, μ1, hmm1, hS, hφ⟩ := hS.shut 2 rfl
            exact ⟨_, μ1, rfl, hS.below, hM.trans (hmL.trans hmm1), hS.imm, R, hs, As.map candOf, ada, ca, hRl, hR, hI, .inr (by rw [List.length_map]; omega), by rw [List.length_map]; exact hnk, by rw [List.length_map], Sl.of_own hφ (candReps As fun y hy => (hlA y hy).mono hmm1) (List.length_map ..).symm⟩
        · have h11_3 := of_decide_eq_false h11_3
          refine LW.ex rfl rfl rfl rfl (Ex.move rfl) hS.rd ?_
          refine LW.skip rfl rfl rfl rfl ?_
          refine LW.skip rfl rfl rfl rfl ?_
          refine LW.skip rfl rfl rfl rfl ?_
          refine LW.skip rfl rfl rfl rfl ?_
          refine LW.ex rfl rfl rfl rfl (by first | exact Ex.pick_yes rfl rfl | exact Ex.pick_no rfl rfl) hS.rd ?_
          refine LW.nil fun aa ha => hK13 _ _ _ ?_ aa ha
          refine CW.no rfl ?_
          refine CW.exit fun aa ha => hK11 _ _ _ ?_ aa ha
          refine CW.seq fun K30 hK30 => ?_
          refine CW.region [0, 1, 2] rfl ?_
          refine LW.ex rfl rfl rfl rfl (Ex.move rfl) hS.rd ?_
          refine LW.ex rfl rfl rfl rfl (Ex.assign rfl) hS.rd ?_
          refine LW.ex rfl rfl rfl rfl (Ex.assign rfl) hS.rd ?_
          refine LW.nil fun aa ha => hK30 _ _ _ ?_ aa ha
          refine CW.ret fun aa ha => ?_
          refine ret_two ha Try.results24 rfl rfl ?_
          subst hna
          obtain ⟨bs, μ1, hmm1, hS, hφ⟩ := hS.shut 2 rfl
          exact ⟨_, μ1, rfl, hS.below, hM.trans (hmL.trans hmm1), hS.imm, R, hs, As.map candOf, ada, ca, hRl, hR, hI, .inl (List.eq_nil_of_length_eq_zero (by omega)), by rw [List.length_map]; exact hnk, by rw [List.length_map], Sl.of_own hφ (candReps As fun y hy => (hlA y hy).mono hmm1) (List.length_map ..).symm⟩
      refine CW.seq fun K31 hK31 => ?_
      have hS := nil_sl 110 4 hS
      have hS := hS.swap
      refine CW.region [0, 1, 2, 3] rfl ?_
      refine LW.ex rfl rfl rfl rfl (Ex.move rfl) hS.rd ?_
      refine LW.ex rfl rfl rfl rfl (Ex.indexSl (j := 0) Try.underlying31 ti3 rfl rfl rfl (by omega)) hS.rd ?_
      refine LW.ex rfl rfl rfl rfl (Ex.load1 ti3 rfl rfl (by first | exact obT rfl | exact Rd.imm ‹_› | exact slT ‹_›)) hS.rd ?_
      refine LW.ex rfl rfl rfl rfl (Ex.lss rfl rfl rfl) hS.rd ?_
      refine LW.splitB (fun h8_3 => ?_) (fun h8_3 => ?_)
      · have h8_3 := of_decide_eq_true h8_3
        refine LW.nil fun aa ha => hK31 _ _ _ ?_ aa ha
        refine CW.yes rfl ?_
        refine CW.region [0, 1, 2, 3, 4] rfl ?_
        refine LW.ex rfl rfl rfl rfl (Ex.move rfl) hS.rd ?_
        refine LW.ex rfl rfl rfl rfl (Ex.indexSl (j := 0) Try.underlying31 ti3 rfl rfl rfl (by omega)) hS.rd ?_
        refine LW.ex rfl rfl rfl rfl (Ex.load1 ti3 rfl rfl (by first | exact obT rfl | exact Rd.imm ‹_› | exact slT ‹_›)) hS.rd ?_
        refine LW.ex rfl rfl rfl rfl (Ex.buildS st110 rfl rfl rfl) hS.rd ?_
        refine LW.hv rfl rfl rfl rfl (Hv.callM rfl rfl rfl cb51 (push_m [] ⟨none, 0, [], 0, 0, r0⟩ hS (by simp) (fun y hy => by cases hy) (Sl.nil _ _ _ (by simp [maxLen])))) fun v w39 ⟨adh, ch, hs, hpm, hhp, hS⟩ => ?_
        refine LW.nil fun aa ha => ?_
        refine hJ8 _ (hs) (adh) (ch) hS ((SInv.start none 0 hr0 h8_3).perm hpm.symm) (hhp (fun j _ h => by simp at h)) (fun y hy => by obtain rfl := List.mem_singleton.1 (hpm.mem_iff.1 hy); exact Sl.nil _ _ _ (by simp [maxLen])) (by rw [wsH_perm hpm]; simp [wsH]) aa (ha.sub ⟨rfl, rfl, rfl, rfl, rfl, trivial⟩)
      · have h8_3 := of_decide_eq_false h8_3
        refine LW.nil fun aa ha => hK31 _ _ _ ?_ aa ha
        refine CW.no rfl ?_
        refine CW.skip fun aa ha => ?_
        refine hJ8 _ ([]) (none) (0) hS (SInv.start0 hg hRl hR hr0 h8_3) ((fun j _ h => by simp at h)) ((fun y hy => by cases hy)) (by simp [wsH]) aa (ha.sub ⟨rfl, rfl, rfl, rfl, rfl, trivial⟩)
end Go.Proofs.Ytgnpjhellmfhoaa

/-
  Context: package best: a way of the lattice is a path of its graph (plain Lean).
-/
namespace Go.Proofs.Ytgnpjhellmfhoaa
open Go.RowKit Sy

/-- An edge that leaves a node's place is a link of the node. -/
theorem link_of {x : Lat} {m : Mdl} {L : List I2} {q k : Nat} {z : I2} (hq : L[q]? = some z) (hk : k < x.Edges.length) (hf : (edAt x k).From = z.a) : mkLink x m L q z k ∈ linksTo x m L L.length := by
  obtain ⟨hq1, hq2⟩ := List.getElem?_eq_some_iff.1 hq
  unfold linksTo
  rw [List.take_of_length_le (by simp)]
  refine List.mem_flatMap.2 ⟨(z, q), ?_, ?_⟩
  · have h : L.zipIdx[q]? = some (z, q) := by rw [List.getElem?_zipIdx, hq]; simp
    exact List.mem_of_getElem? h
  · unfold linksOf
    exact List.mem_map.2 ⟨k, List.mem_filter.2 ⟨List.mem_range.2 hk, decide_eq_true hf⟩, rfl⟩
end Go.Proofs.Ytgnpjhellmfhoaa

/-
  Context: package best: a path of the graph to its last node is a way of the lattice (plain Lean).
-/
namespace Go.Proofs.Ytgnpjhellmfhoaa
open Go.RowKit Sy

theorem last_place {x : Lat} {m : Mdl} {p : Int} (hm : MdlOk m) (hx : okX x = true) (hp : -1 ≤ p ∧ p < m.Words.length) {q : Nat} {z : I2} (hz : (nodesL x m.Words.length p)[q]? = some z) (hq : (q : Int) = (graphR x m p).N - 1) : z.a = x.N := by
  obtain ⟨hq1, hq2⟩ := List.getElem?_eq_some_iff.1 hz
  unfold graphR at hq
  simp only at hq
  by_cases h0 : 0 < x.N
  · rw [← hq2]; exact (nodesL_last hx hm.n2 hp h0 hq1).2 (by omega)
  · obtain ⟨⟨h1, _, _⟩, _, _⟩ := okX_edges hx
    have e0 : x.N = 0 := by omega
    have : nodesL x m.Words.length p = [⟨0, p⟩] := by unfold nodesL midR; simp [e0]
    rw [this] at hz hq1
    have hq0 : q = 0 := by simpa using hq1
    subst hq0
    have : z = ⟨0, p⟩ := by simpa using hz.symm
    rw [this, e0]
theorem path_way {x : Lat} {m : Mdl} {p : Int} (hm : MdlOk m) (hx : okX x = true) (hw : wordsIn x m.Words.length = true) (hp : -1 ≤ p ∧ p < m.Words.length) {q0 e0 d : Int} {ms : List Int} (hs : Seg (graphR x m p) q0 ms e0 d) :
    e0 = (graphR x m p).N - 1 → ∀ (q : Nat) (z : I2), q0 = q → (nodesL x m.Words.length p)[q]? = some z → ∃ es : List Nat, ms.map (lbl (graphR x m p)) = es.map (fun (k : Nat) => (k : Int)) ∧ isWay x z.a es ∧ d = wsum x m z.b es := by
  induction hs with
  | nil q1 =>
    intro he q z hq hz
    exact ⟨[], rfl, last_place hm hx hp hz (by rw [← hq]; exact he), rfl⟩
  | cons i hi hf hseg ih =>
    intro he q z hq hz
    have hk := lkAt_mem hi
    have hk' : lkAt (graphR x m p) i ∈ linksTo x m (nodesL x m.Words.length p) (nodesL x m.Words.length p).length := hk
    obtain ⟨z0, z', p1, p2, p3, p4, p5, p6, p7⟩ := link_place hm hx hw hp hk'
    obtain ⟨ed, g1, g2, g3, g4, g5, g6, g7, g8, g9⟩ := link_good hm hx hw hp hk'
    rw [hf, hq, Int.toNat_natCast, hz] at p1
    obtain rfl := Option.some.inj p1
    obtain ⟨es, s1, s2, s3⟩ := ih he (lkAt (graphR x m p) i).To.toNat z' (by omega) p2
    have hlb : (lkAt (graphR x m p) i).Label.toNat < x.Edges.length := by omega
    refine ⟨(lkAt (graphR x m p) i).Label.toNat :: es, ?_, ⟨hlb, p6.symm, by rw [← p7]; exact s2⟩, ?_⟩
    · rw [List.map_cons, List.map_cons, s1]
      congr 1
      show (lkAt (graphR x m p) i).Label = _
      omega
    · rw [wsum, s3]
      have hc : (lkAt (graphR x m p) i).Cost = (edAt x (lkAt (graphR x m p) i).Label.toNat).Cost + pairC m z.b (edAt x (lkAt (graphR x m p) i).Label.toNat).Word := by
        unfold linksTo at hk'
        obtain ⟨⟨y, nI⟩, hy, hk'⟩ := List.mem_flatMap.1 hk'
        obtain ⟨hn, hyn⟩ := zip_mem hy
        unfold linksOf at hk'
        obtain ⟨k, _, e⟩ := List.mem_map.1 hk'
        have e1 : (lkAt (graphR x m p) i).From = nI := by rw [← e]; rfl
        have e2 : (lkAt (graphR x m p) i).Label = k := by rw [← e]; rfl
        have e3 : (lkAt (graphR x m p) i).Cost = (edAt x k).Cost + pairC m y.b (edAt x k).Word := by rw [← e]; rfl
        have e4 : nI = q := by omega
        subst e4
        rw [List.getElem?_eq_getElem hn, hyn] at hz
        rw [e3, e2, Int.toNat_natCast, Option.some.inj hz]
      have hlast : wsum x m z'.b es = wsum x m (edAt x (lkAt (graphR x m p) i).Label.toNat).Word es := by
        by_cases ht : (edAt x (lkAt (graphR x m p) i).Label.toNat).To < x.N
        · have h9 := g9 (by rw [g6]; exact ht)
          rw [List.getElem?_map, p2] at h9
          have h10 : z'.b = ed.Word := by simpa using h9
          rw [h10, g6]
        · cases es with
          | nil => rfl
          | cons k2 r2 =>
            obtain ⟨h1, h2, _⟩ := s2
            obtain ⟨_, hed, _⟩ := okX_edges hx
            have := hed _ (List.getElem_mem h1)
            rw [edAt_of h1] at h2; omega
      rw [hlast, hc]
end Go.Proofs.Ytgnpjhellmfhoaa

/-
  Context: what the walks of ContextBest and ContextWays share.
-/
namespace Go.Proofs.Ytgnpjhellmfhoaa
open Go.RowKit Sy

theorem st_le {n : Nat} {w0 w : World} {μ μ' : Mem} {L : List Own} (hm : Mem.ext n μ μ') (h : St w0 w μ' L) : St w0 w μ L := ⟨h.below, (Rd.le hm h.rd).1, let ⟨bs, h1, h2, h3⟩ := h.own; ⟨bs, h1, h2, fun b hb => ⟨(h3 b hb).1, (h3 b hb).2.1, by
    cases e : μ b with
    | none => rfl
    | some o => have := hm.le b o e; rw [(h3 b hb).2.2] at this; cases this⟩⟩⟩
theorem seg_links {g : Grf} {p q d : Int} {ms : List Int} (h : Seg g p ms q d) : ∀ i ∈ ms, 0 ≤ i ∧ i < g.Links.length := by
  induction h with
  | nil p => intro i hi; cases hi
  | cons i hi hf h2 ih =>
    intro j hj
    rcases List.mem_cons.1 hj with rfl | hj
    · omega
    · exact ih j hj
theorem words_s (y : Raw) : ∀ s ∈ (madeM y).Words, s.size ≤ 9223372036854775807 := fun s hs => by
  have := ((madeM_words y).2.1 s hs).2; omega
theorem ends_s {x : Lat} (hx : okX x = true) : ∀ e ∈ x.Edges, -1099511627776 ≤ e.To ∧ e.To ≤ 1099511627776 := fun e he => by
  obtain ⟨h1, h2, _⟩ := okX_edges hx
  have := h2 e he; omega
theorem costW {x : Lat} {m : Mdl} {p : Int} {es : List Nat} (hm : MdlOk m) (hx : okX x = true) (hw : wordsIn x m.Words.length = true) (hp : -1 ≤ p ∧ p < m.Words.length) (h : isWay x 0 es) :
    costR x m p (es.map fun (k : Nat) => (k : Int)) = (wsum x m p es, true) := by
  unfold costR
  rw [if_pos (okM_yes hm), if_pos (show fitsC x m.Words.length p = true from fitsC_iff.2 ⟨hx, hp, hw⟩), costGo_way x _ es 0 p 0 h, Int.zero_add]
theorem ccostW (x : Lat) (m : Mdl) (p : Int) (es : List Int) (S : Int) (hS : costR x m p es = (S, true)) (hws : ∀ s ∈ m.Words, s.size ≤ 9223372036854775807) (hsm : ∀ e ∈ x.Edges, -1099511627776 ≤ e.To ∧ e.To ≤ 1099511627776) (hes : es.length ≤ 1000000)
    (a0 a1 a2 a3 a4 : Option Addr) (c0 c1 c2 c3 c4 : Nat) (μ : Mem) (w : World) (hμ : Imm μ w) (hxl : Sl μ a3 c3 x.Edges) (hm0 : Sl μ a0 c0 m.Words) (hm1 : Sl μ a1 c1 m.Counts) (hm2 : Sl μ a2 c2 m.Pairs) (hel : Sl μ a4 c4 es) :
    Calls Try.prog 15 #[.agg #[.int .i64 x.N, .slice a3 x.Edges.length c3], .agg #[.slice a0 m.Words.length c0, .slice a1 m.Counts.length c1, .slice a2 m.Pairs.length c2, .int .i64 m.Back], .int .i64 p, .slice a4 es.length c4] w (RetS w (.tuple #[.int .i64 S, .bool true])) := by
  have h := ccost_c x m p es hws hsm hes a0 a1 a2 a3 a4 c0 c1 c2 c3 c4 μ w hμ hxl hm0 hm1 hm2 hel
  rw [hS] at h
  exact h
/-- The law's graph, and what package best asks of it. -/
theorem law_graph {x : Lat} {m : Mdl} {p : Int} (hm : MdlOk m) (hx : okX x = true) (hw : wordsIn x m.Words.length = true) (hp : -1 ≤ p ∧ p < m.Words.length) (hc : ∀ e ∈ x.Edges, e.Cost ≤ 31) (hE : x.Edges.length ≤ 13) (hN : x.N ≤ 5) :
    (buildR x m p).G = graphR x m p ∧ (buildR x m p).E = 0 ∧ GOk (graphR x m p) ∧ W (graphR x m p) 0 ≤ 1000000 := by
  have e : buildR x m p = ⟨graphR x m p, (nodesL x m.Words.length p).map (·.b), 0⟩ := by
    unfold buildR; rw [if_pos (okM_yes hm), if_pos (fitsC_iff.2 ⟨hx, hp, hw⟩)]
  have h1 := build_gok hm hx hw hp hc hE
  have h2 := build_w hm hx hw hp hc hE hN
  rw [e] at h1 h2 ⊢
  exact ⟨rfl, rfl, h1, Nat.le_trans h2 (by omega)⟩
end Go.Proofs.Ytgnpjhellmfhoaa

/-
  Context: the number of ways of a lattice.
-/
namespace Go.Proofs.Ytgnpjhellmfhoaa
open Go.RowKit Sy
/-- The ways from a place to the end over edges in their order. -/
def cntB (N : Int) : List Edge → Int → Int
  | [], q => if q = N then 1 else 0
  | e :: r, q => cntB N r q + if q = e.From then cntB N r e.To else 0
def dotF (f : Nat → Int) : Nat → List Int → Int
  | _, [] => 0
  | k, v :: r => v * f k + dotF f (k + 1) r
theorem dotF_set (f : Nat → Int) (d : Int) : ∀ (l : List Int) (k v : Nat) (z : Int), l[v]? = some z → dotF f k (l.set v (z + d)) = dotF f k l + d * f (k + v)
  | [], _, _, _, h => by simp at h
  | y :: r, k, 0, z, h => by
    obtain rfl : y = z := by simpa using h
    simp only [List.set_cons_zero, dotF, Int.add_mul, Nat.add_zero]; omega
  | y :: r, k, v + 1, z, h => by
    rw [List.set_cons_succ, dotF, dotF, dotF_set f d r (k + 1) v z (by simpa using h), show k + 1 + v = k + (v + 1) by omega]; omega
theorem dotF_far (f : Nat → Int) (u : Int) (c : Int) : ∀ (l : List Int) (k : Nat), u < k → dotF (fun q => f q + if (q : Int) = u then c else 0) k l = dotF f k l
  | [], _, _ => rfl
  | y :: r, k, h => by rw [dotF, dotF, dotF_far f u c r (k + 1) (by omega), if_neg (by omega), Int.add_zero]
theorem dotF_add (f : Nat → Int) (c : Int) : ∀ (l : List Int) (k j : Nat) (z : Int), l[j]? = some z → dotF (fun q => f q + if (q : Int) = ((k + j : Nat) : Int) then c else 0) k l = dotF f k l + z * c
  | [], _, _, _, h => by simp at h
  | y :: r, k, 0, z, h => by
    obtain rfl : y = z := by simpa using h
    rw [dotF, dotF, dotF_far f _ c r (k + 1) (by omega), if_pos (by omega), Int.mul_add]; omega
  | y :: r, k, j + 1, z, h => by
    have ih := dotF_add f c r (k + 1) j z (by simpa using h)
    rw [show k + 1 + j = k + (j + 1) by omega] at ih
    rw [dotF, dotF, ih, if_neg (by omega), Int.add_zero]; omega
theorem dotF_zero (f : Nat → Int) : ∀ n k, dotF f k (List.replicate n 0) = 0
  | 0, _ => rfl
  | n + 1, k => by rw [List.replicate_succ, dotF, dotF_zero f n (k + 1), Int.zero_mul, Int.zero_add]
theorem dotF_null : ∀ (l : List Int) (k : Nat), dotF (fun _ => 0) k l = 0
  | [], _ => rfl
  | y :: r, k => by rw [dotF, dotF_null r (k + 1), Int.mul_zero, Int.zero_add]
theorem cnt_step {N : Int} {e : Edge} {r : List Edge} {l : List Int} {u v : Nat} {a b : Int} (hu : e.From = u) (hv : e.To = v) (ha : l[v]? = some a) (hb : l[u]? = some b) :
    dotF (fun q => cntB N r q) 0 (l.set v (a + b)) = dotF (fun q => cntB N (e :: r) q) 0 l := by
  rw [dotF_set _ b l 0 v a ha, Nat.zero_add]
  have h := dotF_add (fun q => cntB N r q) (cntB N r v) l 0 u b hb
  rw [Nat.zero_add] at h
  rw [← h]
  congr 1
  funext q
  rw [cntB, hu, hv]
theorem init_le {n : Nat} {z : Int} (h : z ∈ (List.replicate n (0 : Int)).set 0 (0 + 1)) : 0 ≤ z ∧ z ≤ (2 ^ 0 : Nat) := by
  rcases List.mem_or_eq_of_mem_set h with h | h
  · rw [List.eq_of_mem_replicate h]; decide
  · subst h; decide
theorem set_le {l : List Int} {v i : Nat} {a b : Int} (ha : 0 ≤ a ∧ a ≤ (2 ^ i : Nat)) (hb : 0 ≤ b ∧ b ≤ (2 ^ i : Nat)) (h : ∀ z ∈ l, 0 ≤ z ∧ z ≤ (2 ^ i : Nat)) : ∀ z ∈ l.set v (a + b), 0 ≤ z ∧ z ≤ (2 ^ (i + 1) : Nat) := fun z hz => by
  have e : 2 ^ (i + 1) = 2 ^ i + 2 ^ i := by rw [Nat.pow_succ]; omega
  rw [e]
  rcases List.mem_or_eq_of_mem_set hz with h1 | h1
  · have := h z h1; omega
  · subst h1; omega
theorem pow_20 {i : Nat} (h : i ≤ 20) : (2 ^ i : Nat) ≤ 1048576 := Nat.pow_le_pow_right (n := 2) (by omega) h
set_option maxRecDepth 100000 in
theorem count_c (x : Lat) (hx : okX x = true) (hE : x.Edges.length ≤ 20) (a3 : Option Addr) (c3 : Nat) (μ : Mem) (w : World) (hμ : Imm μ w) (hl : Sl μ a3 c3 x.Edges) :
    Calls Try.prog 26 #[.agg #[.int .i64 x.N, .slice a3 x.Edges.length c3]] w (RetS w (.int .i64 (cntB x.N x.Edges 0))) := by
  obtain ⟨⟨hN0, hN1, _⟩, hed, _⟩ := okX_edges hx
  obtain ⟨N, hN⟩ : ∃ N : Nat, x.N = N := ⟨x.N.toNat, by omega⟩
  obtain ⟨T, hT⟩ : ∃ T, T = cntB x.N x.Edges 0 := ⟨_, rfl⟩
  rw [← hT]
  have hS := St.start w μ hμ
  refine calls_start 43 [.agg #[.int .i64 x.N, .slice a3 x.Edges.length c3]] Try.func26 rfl Try.ntmps26 rfl rfl ?_
  refine CW.seq fun K1 hK1 => ?_
  refine CW.region [0, 1] rfl ?_
  refine LW.hv rfl rfl rfl rfl (Hv.boxS hS rfl rfl) fun v w1 ⟨b1, hv, hb1, hS⟩ => ?_
  subst hv
  refine LW.ex rfl rfl rfl rfl (Ex.assign rfl) hS.rd ?_
  refine LW.nil fun aa ha => hK1 _ _ _ ?_ aa ha
  refine CW.seq fun K2 hK2 => ?_
  refine CW.region [0, 1, 2, 3, 4] rfl ?_
  refine LW.ex rfl rfl rfl rfl (Ex.fieldO 0 Try.underlying38 rfl rfl ti3 rfl) hS.rd ?_
  refine LW.ex rfl rfl rfl rfl (Ex.load1 ti3 rfl rfl (by first | exact obT rfl | exact Rd.imm ‹_› | exact slT ‹_›)) hS.rd ?_
  refine LW.ex rfl rfl rfl rfl (Ex.add (r := ((N + 1 : Nat) : Int)) rfl rfl (by rw [w64 (by omega) (by omega)]; omega)) hS.rd ?_
  refine LW.hv rfl rfl rfl rfl (Hv.makeSlice Try.underlying31 ti3 hS rfl rfl rfl rfl (by omega) (by unfold maxLen; omega)) fun v w8 ⟨b8, hv, hb8, hS⟩ => ?_
  subst hv
  rw [made_ints] at hS
  refine LW.ex rfl rfl rfl rfl (Ex.assign rfl) hS.rd ?_
  refine LW.nil fun aa ha => hK2 _ _ _ ?_ aa ha
  refine CW.seq fun K3 hK3 => ?_
  have hb2 : 0 + 0 * 1 < ((List.replicate (N + 1) (0 : Int)).map fun x => Value.int .i64 x).length := by simp
  refine CW.region [0, 1, 2] rfl ?_
  refine LW.ex rfl rfl rfl rfl (Ex.move rfl) hS.rd ?_
  refine LW.ex rfl rfl rfl rfl (Ex.indexSl (j := 0) Try.underlying31 ti3 rfl rfl rfl (by omega)) hS.rd ?_
  refine LW.hu rfl rfl rfl (Hv.storeSl (k := 0) ti3 hS rfl rfl rfl rfl (by first | assumption | (simp; done) | omega | exact Nat.zero_lt_succ _)) fun _ w_2 hS => ?_
  dsimp only [List.set] at hS
  rw [show ((List.replicate (N + 1) (0 : Int)).map fun x => Value.int .i64 x).set (0 + 0 * 1) (Value.int .i64 1) = ((List.replicate (N + 1) (0 : Int)).set 0 (0 + 1)).map fun x => Value.int .i64 x by rw [List.map_set]; rfl] at hS
  refine LW.nil fun aa ha => hK3 _ _ _ ?_ aa ha
  refine CW.seq fun K4 hK4 => ?_
  refine CW.seq fun K5 hK5 => ?_
  refine CW.region [0] rfl ?_
  refine LW.ex rfl rfl rfl rfl (Ex.assign rfl) hS.rd ?_
  refine LW.nil fun aa ha => hK5 _ _ _ ?_ aa ha
  refine CW.block ?_
  refine CW.loop (fun qq frm wl4 => ∃ (i : Nat) (at_ : List Int), i ≤ x.Edges.length ∧ at_.length = N + 1 ∧ qq = x.Edges.length - i ∧ frm = [(1, .pointer (some ⟨b1, 0, none⟩)), (3, .slice (some ⟨b8, 0, none⟩) (N + 1) (N + 1)), (4, .int .i64 i)] ∧ St w wl4 μ [Own.sl (some ⟨b8, 0, none⟩) (N + 1) (N + 1) 3 1 (at_.map fun x => Value.int .i64 x), Own.obj b1 [.int .i64 x.N, .slice a3 x.Edges.length c3] 38] ∧ (dotF (fun q => cntB x.N (x.Edges.drop i) q) 0 at_ = T) ∧ (∀ z ∈ at_, 0 ≤ z ∧ z ≤ (2 ^ i : Nat))) _ ⟨0, (List.replicate (N + 1) 0).set 0 (0 + 1), (by first | omega | (simp; done) | (simp; omega)), (by first | omega | (simp; done) | (simp; omega)), rfl, rfl, hS, by rw [dotF_set _ 1 _ 0 0 0 (by simp), dotF_zero, List.drop_zero, hT]; simp, fun z hz => init_le hz⟩ ⟨rfl, rfl, rfl, trivial⟩ ?_
  clear hS
  rintro qq frm wl4 ⟨i, at_, hi, hal, hq, rfl, hS, hd, hb⟩
  refine CW.seq fun K6 hK6 => ?_
  refine CW.seq fun K7 hK7 => ?_
  refine CW.region [0, 1, 2, 3, 4] rfl ?_
  refine LW.ex rfl rfl rfl rfl (Ex.move rfl) hS.rd ?_
  refine LW.ex rfl rfl rfl rfl (Ex.fieldO 1 Try.underlying38 rfl rfl ti36 rfl) hS.rd ?_
  refine LW.ex rfl rfl rfl rfl (Ex.load1 ti36 rfl rfl (by first | exact obT rfl | exact Rd.imm ‹_› | exact slT ‹_›)) hS.rd ?_
  refine LW.ex rfl rfl rfl rfl (Ex.lenSl rfl Try.underlying36 rfl) hS.rd ?_
  refine LW.ex rfl rfl rfl rfl (Ex.lss rfl rfl rfl) hS.rd ?_
  refine LW.splitB (fun h4_4 => ?_) (fun h4_4 => ?_)
  · have h4_4 := of_decide_eq_true h4_4
    refine LW.nil fun aa ha => hK7 _ _ _ ?_ aa ha
    refine CW.yes rfl ?_
    refine CW.skip fun aa ha => hK6 _ _ _ ?_ aa ha
    refine CW.seq fun K8 hK8 => ?_
    refine CW.block ?_
    have hSl := hS
    have hi2 : i < x.Edges.length := by omega
    obtain ⟨bl, ol, rfl, k0, k1, k2, k3⟩ := hl.at hi2
    have hS := hSl
    have he := hed _ (List.getElem_mem hi2)
    have hdr := drop_cons hi2
    obtain ⟨e, hee⟩ : ∃ e, e = x.Edges[i] := ⟨_, rfl⟩
    rw [← hee] at k0 k1 k2 k3 he hdr
    obtain ⟨u, hu⟩ : ∃ u : Nat, e.From = u := ⟨e.From.toNat, by omega⟩
    obtain ⟨v, hv⟩ : ∃ v : Nat, e.To = v := ⟨e.To.toNat, by omega⟩
    rw [hu] at k0
    rw [hv] at k1
    have hul : u < at_.length := by omega
    have hvl : v < at_.length := by omega
    obtain ⟨a, hat⟩ : ∃ a, at_[v]? = some a := ⟨_, List.getElem?_eq_getElem hvl⟩
    obtain ⟨b, hbt⟩ : ∃ b, at_[u]? = some b := ⟨_, List.getElem?_eq_getElem hul⟩
    have hP := pow_20 (show i ≤ 20 by omega)
    have ha1 := hb a (List.mem_of_getElem? hat)
    have hb1 := hb b (List.mem_of_getElem? hbt)
    have g0 : (at_.map fun x => Value.int .i64 x)[v]? = some (.int .i64 a) := by rw [List.getElem?_map, hat]; rfl
    have g1 : (at_.map fun x => Value.int .i64 x)[u]? = some (.int .i64 b) := by rw [List.getElem?_map, hbt]; rfl
    have hb20 : 0 + v * 1 < (at_.map fun x => Value.int .i64 x).length := by rw [List.length_map]; omega
    have hst := cnt_step (N := x.N) (r := x.Edges.drop (i + 1)) hu hv hat hbt
    rw [← hdr, hd] at hst
    have hS := hS.drew
    refine CW.draw 20 (.ex 0 <| .ex 1 <| .ex 2 <| .ex 3 <| .ex 4 <| .ex 5 <| .ex 6 <| .ex 7 <| .ex 8 <| .ex 9 <| .ex 10 <| .ex 11 <| .ex 12 <| .ex 13 <| .ex 14 <| .ex 15 <| .ex 16 <| .ex 17 <| .ex 18 <| .ex 19 <| .done) [20] (Rd _ _) mixed (by kernel_rfl) rfl rfl hS.rd ?_
    refine PW.ex rfl rfl rfl rfl (Ex.move rfl) ?_
    refine PW.ex rfl rfl rfl rfl (Ex.fieldO 1 Try.underlying38 rfl rfl ti36 rfl) ?_
    refine PW.ex rfl rfl rfl rfl (Ex.load1 ti36 rfl rfl (by first | exact obT rfl | exact Rd.imm ‹_› | exact slT ‹_›)) ?_
    refine PW.ex rfl rfl rfl rfl (Ex.move rfl) ?_
    refine PW.ex rfl rfl rfl rfl (Ex.indexSl Try.underlying36 ti43 rfl rfl rfl (by omega)) ?_
    refine PW.ex rfl rfl rfl rfl (Ex.fieldO 1 Try.underlying43 rfl rfl ti3 rfl) ?_
    refine PW.ex rfl rfl rfl rfl (Ex.load1 ti3 rfl rfl (by first | exact obT rfl | exact Rd.imm ‹_› | exact slT ‹_›)) ?_
    refine PW.ex rfl rfl rfl rfl (Ex.indexSl Try.underlying31 ti3 rfl rfl rfl (by omega)) ?_
    refine PW.ex rfl rfl rfl rfl (Ex.load1 ti3 rfl rfl (slT (v := .int .i64 a) (by rw [Nat.zero_add, Nat.mul_one]; exact g0))) ?_
    refine PW.ex rfl rfl rfl rfl (Ex.move rfl) ?_
    refine PW.ex rfl rfl rfl rfl (Ex.fieldO 1 Try.underlying38 rfl rfl ti36 rfl) ?_
    refine PW.ex rfl rfl rfl rfl (Ex.load1 ti36 rfl rfl (by first | exact obT rfl | exact Rd.imm ‹_› | exact slT ‹_›)) ?_
    refine PW.ex rfl rfl rfl rfl (Ex.move rfl) ?_
    refine PW.ex rfl rfl rfl rfl (Ex.indexSl Try.underlying36 ti43 rfl rfl rfl (by omega)) ?_
    refine PW.ex rfl rfl rfl rfl (Ex.fieldO 0 Try.underlying43 rfl rfl ti3 rfl) ?_
    refine PW.ex rfl rfl rfl rfl (Ex.load1 ti3 rfl rfl (by first | exact obT rfl | exact Rd.imm ‹_› | exact slT ‹_›)) ?_
    refine PW.ex rfl rfl rfl rfl (Ex.indexSl Try.underlying31 ti3 rfl rfl rfl (by omega)) ?_
    refine PW.ex rfl rfl rfl rfl (Ex.load1 ti3 rfl rfl (slT (v := .int .i64 b) (by rw [Nat.zero_add, Nat.mul_one]; exact g1))) ?_
    refine PW.ex rfl rfl rfl rfl (Ex.add rfl rfl (w64 (by omega) (by omega))) ?_
    refine PW.ex rfl rfl rfl rfl (Ex.indexSl Try.underlying31 ti3 rfl rfl rfl (by omega)) ?_
    refine PW.nil ?_
    refine LW.hu rfl rfl rfl (Hv.storeSl (k := 0) ti3 hS rfl rfl rfl rfl (by first | assumption | (simp; done) | omega | exact Nat.zero_lt_succ _)) fun _ w_20 hS => ?_
    dsimp only [List.set] at hS
    rw [show (at_.map fun x => Value.int .i64 x).set (0 + v * 1) (Value.int .i64 (a + b)) = (at_.set v (a + b)).map fun x => Value.int .i64 x by rw [List.map_set, Nat.zero_add, Nat.mul_one]] at hS
    refine LW.nil fun aa ha => hK8 _ _ _ ?_ aa ha
    refine CW.region [0, 1, 2] rfl ?_
    refine LW.ex rfl rfl rfl rfl (Ex.move rfl) hS.rd ?_
    refine LW.ex rfl rfl rfl rfl (Ex.add rfl rfl (by first | exact inc64 (by omega) | exact addN (by omega) | exact w64 (by omega) (by omega))) hS.rd ?_
    refine LW.ex rfl rfl rfl rfl (Ex.assign rfl) hS.rd ?_
    refine LW.nil fun aa ha => ?_
    refine ⟨_, _, ?m4, ⟨i + 1, at_.set v (a + b), (by first | omega | (simp; done) | (simp; omega)), (by first | omega | (simp; done) | (simp; omega)), rfl, rfl, hS, hst, set_le ha1 hb1 hb⟩, ha.sub ⟨rfl, rfl, rfl, trivial⟩⟩
    case m4 => omega
  · have h4_4 := of_decide_eq_false h4_4
    refine LW.nil fun aa ha => hK7 _ _ _ ?_ aa ha
    refine CW.no rfl ?_
    refine CW.exit fun aa ha => hK4 _ _ _ ?_ aa ha
    refine CW.seq fun K9 hK9 => ?_
    rw [hN] at hS
    have hgN : at_[N]? = some T := by
      rw [List.drop_of_length_le (by omega)] at hd
      have hNl : N < at_.length := by omega
      obtain ⟨z, hz⟩ : ∃ z, at_[N]? = some z := ⟨at_[N], List.getElem?_eq_getElem hNl⟩
      have h := dotF_add (fun _ => 0) 1 at_ 0 N z hz
      rw [dotF_null, Nat.zero_add] at h
      rw [hz, ← hd, ← show z = dotF (fun q : Nat => cntB x.N [] q) 0 at_ by rw [show (fun q : Nat => cntB x.N [] q) = fun q : Nat => 0 + if (q : Int) = (N : Int) then (1 : Int) else 0 by funext q; rw [cntB, hN]; omega, h]; omega]
    have g0 : (at_.map fun x => Value.int .i64 x)[N]? = some (.int .i64 T) := by rw [List.getElem?_map, hgN]; rfl
    refine CW.region [0, 1, 2, 3, 4, 5] rfl ?_
    refine LW.ex rfl rfl rfl rfl (Ex.move rfl) hS.rd ?_
    refine LW.ex rfl rfl rfl rfl (Ex.fieldO 0 Try.underlying38 rfl rfl ti3 rfl) hS.rd ?_
    refine LW.ex rfl rfl rfl rfl (Ex.load1 ti3 rfl rfl (by first | exact obT rfl | exact Rd.imm ‹_› | exact slT ‹_›)) hS.rd ?_
    refine LW.ex rfl rfl rfl rfl (Ex.indexSl Try.underlying31 ti3 rfl rfl rfl (by omega)) hS.rd ?_
    refine LW.ex rfl rfl rfl rfl (Ex.load1 ti3 rfl rfl (slT (v := .int .i64 T) (by rw [Nat.zero_add, Nat.mul_one]; exact g0))) hS.rd ?_
    refine LW.ex rfl rfl rfl rfl (Ex.assign rfl) hS.rd ?_
    refine LW.nil fun aa ha => hK9 _ _ _ ?_ aa ha
    refine CW.ret fun aa ha => ?_
    refine ret_one ha Try.results26 rfl ?_
    exact hS.retS
end Go.Proofs.Ytgnpjhellmfhoaa

/-
  Context: the number of ways from a place is the sum over the edges that leave it (plain Lean).
-/
namespace Go.Proofs.Ytgnpjhellmfhoaa
open Go.RowKit Sy

theorem cntB_skip {N : Int} {e : Edge} {r : List Edge} {v : Int} (h : e.From < v) : cntB N (e :: r) v = cntB N r v := by
  rw [cntB, if_neg (by omega), Int.add_zero]
theorem cntB_sum {N : Int} : ∀ {es : List Edge} {q : Int}, es.Pairwise (fun a b => a.From ≤ b.From) → (∀ e ∈ es, e.From < e.To) → cntB N es q = (if q = N then 1 else 0) + ((es.filter fun e => decide (e.From = q)).map fun e => cntB N es e.To).sum
  | [], q, _, _ => by simp [cntB]
  | e :: r, q, h1, h2 => by
    rw [List.pairwise_cons] at h1
    have he := h2 e (List.mem_cons_self ..)
    have ih := cntB_sum (N := N) (es := r) (q := q) h1.2 fun y hy => h2 y (List.mem_cons_of_mem _ hy)
    have hr : (r.filter fun e => decide (e.From = q)).map (fun y => cntB N (e :: r) y.To) = (r.filter fun e => decide (e.From = q)).map fun y => cntB N r y.To :=
      List.map_congr_left fun y hy => by
        have hy2 := (List.mem_filter.1 hy).1
        have a1 := h1.1 y hy2
        have a2 := h2 y (List.mem_cons_of_mem _ hy2)
        exact cntB_skip (by omega)
    rw [cntB, ih]
    by_cases hq : q = e.From
    · rw [if_pos hq, List.filter_cons_of_pos (by simp [hq]), List.map_cons, List.sum_cons, hr, cntB_skip he]; omega
    · rw [if_neg hq, List.filter_cons_of_neg (by simpa using fun e => hq e.symm), hr]; omega
end Go.Proofs.Ytgnpjhellmfhoaa

/-
  Context: all ways of a graph, and how many they are (plain Lean).
-/
namespace Go.Proofs.Ytgnpjhellmfhoaa
open Go.RowKit Sy

/-- The ways from a node to the last one, as lists of links. -/
def waysL (g : Grf) : Nat → Nat → List (List Int)
  | 0, _ => []
  | f + 1, q => if (q : Int) = g.N - 1 then [[]] else (outTo g g.Links.length q).flatMap fun (i : Nat) => (waysL g f (lkAt g i).To.toNat).map fun l => (i : Int) :: l
theorem waysL_seg {g : Grf} (hg : GOk g) : ∀ (f q : Nat) (ms : List Int), ms ∈ waysL g f q → ∃ d, Seg g q ms (g.N - 1) d
  | 0, q, ms, h => by cases h
  | f + 1, q, ms, h => by
    rw [waysL] at h
    split at h
    · rename_i hq
      obtain rfl := List.mem_singleton.1 h
      exact ⟨0, by rw [hq]; exact Seg.nil _⟩
    · obtain ⟨i, hi, h⟩ := List.mem_flatMap.1 h
      obtain ⟨l, hl, rfl⟩ := List.mem_map.1 h
      obtain ⟨hi1, hi2⟩ := outTo_mem hi
      have hk := hg.lk _ (lkAt_mem hi1)
      obtain ⟨d, hd⟩ := waysL_seg hg f _ l hl
      exact ⟨_, Seg.cons i hi1 hi2 (by rw [show (lkAt g i).To = ((lkAt g i).To.toNat : Int) by omega]; exact hd)⟩
theorem seg_waysL {g : Grf} (hg : GOk g) {p e d : Int} {ms : List Int} (h : Seg g p ms e d) : e = g.N - 1 → ∀ (f q : Nat), p = q → g.N.toNat < f + q + 1 → (q : Int) < g.N → ms ∈ waysL g f q := by
  induction h with
  | nil p =>
    intro he f q hq hf hn
    obtain ⟨f', rfl⟩ : ∃ f', f = f' + 1 := ⟨f - 1, by omega⟩
    rw [waysL, if_pos (by omega)]
    exact List.mem_singleton.2 rfl
  | cons i hi hf2 hs ih =>
    intro he f q hq hf hn
    have hk := hg.lk _ (lkAt_mem hi)
    obtain ⟨f', rfl⟩ : ∃ f', f = f' + 1 := ⟨f - 1, by omega⟩
    rw [waysL, if_neg (by omega)]
    refine List.mem_flatMap.2 ⟨i, outTo_of hi (by omega), List.mem_map.2 ⟨_, ih he f' (lkAt g i).To.toNat (by omega) (by omega) (by omega), rfl⟩⟩
theorem waysL_nodup (g : Grf) : ∀ (f q : Nat), (waysL g f q).Nodup
  | 0, _ => List.nodup_nil
  | f + 1, q => by
    rw [waysL]
    split
    · simp
    · unfold List.Nodup
      rw [List.pairwise_flatMap]
      refine ⟨fun i _ => ?_, ?_⟩
      · rw [List.pairwise_map]
        exact (waysL_nodup g f _).imp fun {a b} h e => h (List.cons.inj e).2
      · have hp : (outTo g g.Links.length q).Pairwise (· < ·) := List.Pairwise.filter _ List.pairwise_lt_range
        refine hp.imp fun {i j} hij => fun y hy z hz e => ?_
        obtain ⟨a, _, rfl⟩ := List.mem_map.1 hy
        obtain ⟨b, _, rfl⟩ := List.mem_map.1 hz
        have := (List.cons.inj e).1
        omega
theorem nodup_len {α : Type} [DecidableEq α] : ∀ {l l' : List α}, l.Nodup → (∀ x ∈ l, x ∈ l') → l.length ≤ l'.length
  | [], _, _, _ => Nat.zero_le _
  | x :: r, l', hn, h => by
    rw [List.nodup_cons] at hn
    have hx := h x (List.mem_cons_self ..)
    have h1 := nodup_len (l := r) (l' := l'.erase x) hn.2 fun y hy => (List.mem_erase_of_ne (fun e => hn.1 (by rw [← e]; exact hy))).2 (h y (List.mem_cons_of_mem _ hy))
    have h2 := List.length_erase_of_mem hx
    have h3 := List.length_pos_of_mem hx
    rw [List.length_cons]; omega
/-- At the list's end: as many answers as ways, or as many as were asked for. -/
theorem SInv.count {g : Grf} (hg : GOk g) {R : List Int} {H : List PartV} {A : List Cand} {k : Nat} (h : SInv g R H A) (hk : A.length ≤ k) (he : H = [] ∨ A.length = k) : A.length = min (waysL g g.N.toNat 0).length k := by
  have hn := hg.n1
  have hnd : (A.map (·.Links)).Nodup := by
    have han := h.an
    rw [List.pairwise_append] at han
    exact han.1.imp fun {a b} hab e => hab.1 (by rw [e]; exact List.prefix_refl _)
  have h1 := nodup_len hnd (l' := waysL g g.N.toNat 0) fun y hy => by
    obtain ⟨a, ha, rfl⟩ := List.mem_map.1 hy
    exact seg_waysL hg (h.pa a ha).seg rfl _ 0 rfl (by omega) (by omega)
  rw [List.length_map] at h1
  rcases he with he | he
  · have h2 := nodup_len (waysL_nodup g g.N.toNat 0) (l' := A.map (·.Links)) fun y hy => by
      obtain ⟨d, hd⟩ := waysL_seg hg _ _ _ hy
      rcases h.co y _ (by have := Path.app hd Path.nil; exact this) with ⟨a, ha, e⟩ | ⟨x, hx, _⟩
      · exact List.mem_map.2 ⟨a, ha, e⟩
      · rw [he] at hx; cases hx
    rw [List.length_map] at h2
    omega
  · omega

/-! ### How many -/
theorem filter_at {α β : Type} (f : Nat → α) (p : α → Bool) (G : α → β) (n : Nat) : ((List.range n).filter fun i => p (f i)).map (fun i => G (f i)) = (((List.range n).map f).filter p).map G := by
  rw [List.filter_map, List.map_map]; rfl
theorem links_range (g : Grf) : (List.range g.Links.length).map (fun (i : Nat) => lkAt g i) = g.Links :=
  List.ext_getElem (by simp) fun i h1 h2 => by rw [List.getElem_map, List.getElem_range]; exact lkAt_nat h2
theorem edges_range (x : Lat) : (List.range x.Edges.length).map (edAt x) = x.Edges :=
  List.ext_getElem (by simp) fun i h1 h2 => by rw [List.getElem_map, List.getElem_range]; exact edAt_of h2
theorem links_from (x : Lat) (m : Mdl) (L : List I2) (q : Nat) : ∀ n, n ≤ L.length → (linksTo x m L n).filter (fun k => decide (k.From = (q : Int))) = if q < n then linksOf x m L q (L[q]?.getD ⟨0, 0⟩) else []
  | 0, _ => by simp [linksTo]
  | n + 1, h => by
    have hall : ∀ k ∈ linksOf x m L n L[n], k.From = n := fun k hk => by
      unfold linksOf at hk
      obtain ⟨i, _, rfl⟩ := List.mem_map.1 hk
      rfl
    rw [linksTo_succ x m L (by omega), List.filter_append, links_from x m L q n (by omega)]
    rcases Nat.lt_trichotomy q n with h1 | h1 | h1
    · rw [if_pos h1, if_pos (by omega), List.filter_eq_nil_iff.2 fun k hk => by simp [hall k hk]; omega, List.append_nil]
    · subst h1
      rw [if_neg (by omega), if_pos (by omega), List.nil_append, List.filter_eq_self.2 fun k hk => by simp [hall k hk], List.getElem?_eq_getElem (by omega), Option.getD_some]
    · rw [if_neg (by omega), if_neg (by omega), List.nil_append, List.filter_eq_nil_iff.2 fun k hk => by simp [hall k hk]; omega]
/-- What is summed over the links of a node is summed over the edges from its place. -/
theorem out_edges {x : Lat} {m : Mdl} {p : Int} {q : Nat} {z : I2} (hz : (nodesL x m.Words.length p)[q]? = some z) (G : Int → Int) :
    (outTo (graphR x m p) (graphR x m p).Links.length q).map (fun (i : Nat) => G (lkAt (graphR x m p) i).To) = ((List.range x.Edges.length).filter fun i => decide ((edAt x i).From = z.a)).map fun i => G (toN (nodesL x m.Words.length p) x (edAt x i) : Nat) := by
  obtain ⟨hq, _⟩ := List.getElem?_eq_some_iff.1 hz
  have h1 := filter_at (fun (i : Nat) => lkAt (graphR x m p) i) (fun k => decide (k.From = (q : Int))) (fun k => G k.To) (graphR x m p).Links.length
  rw [links_range] at h1
  unfold outTo
  rw [h1]
  show ((linksTo x m (nodesL x m.Words.length p) (nodesL x m.Words.length p).length).filter _).map _ = _
  rw [links_from x m _ q _ (Nat.le_refl _), if_pos hq, hz, Option.getD_some]
  unfold linksOf
  rw [List.map_map]
  rfl
theorem foldN_sum {g : Grf} {h : List Int} : ∀ (ls : List Nat) (a : Int), 0 ≤ a → (∀ i ∈ ls, 0 ≤ (h[(lkAt g i).To.toNat]?).getD 0) → a + (ls.map fun (i : Nat) => (h[(lkAt g i).To.toNat]?).getD 0).sum ≤ 1000000000 → ls.foldl (stepN g h) a = a + (ls.map fun (i : Nat) => (h[(lkAt g i).To.toNat]?).getD 0).sum
  | [], a, _, _, _ => by simp
  | i :: r, a, h0, h1, h2 => by
    have h3 : 0 ≤ (r.map fun (i : Nat) => (h[(lkAt g i).To.toNat]?).getD 0).sum := by
      clear h2
      induction r with
      | nil => simp
      | cons j r ih =>
        have a1 := h1 j (by simp)
        have a2 := ih fun z hz => h1 z (by rcases List.mem_cons.1 hz with rfl | hz <;> simp [*])
        rw [List.map_cons, List.sum_cons]; omega
    have h4 := h1 i (List.mem_cons_self ..)
    rw [List.map_cons, List.sum_cons] at h2 ⊢
    rw [List.foldl_cons]
    have hs : stepN g h a i = a + (h[(lkAt g i).To.toNat]?).getD 0 := by unfold stepN; omega
    rw [hs, foldN_sum r _ (by omega) (fun z hz => h1 z (List.mem_cons_of_mem _ hz)) (by omega)]
    omega
theorem cntB_in (N : Int) : ∀ (es : List Edge) (q : Int), 0 ≤ cntB N es q ∧ cntB N es q ≤ (2 ^ es.length : Nat)
  | [], q => by rw [cntB]; split <;> simp
  | e :: r, q => by
    have h1 := cntB_in N r q
    have h2 := cntB_in N r e.To
    rw [cntB, List.length_cons, Nat.pow_succ]
    split <;> omega
theorem cntB_at {x : Lat} (hx : okX x = true) {q : Int} (h : q < x.N) : cntB x.N x.Edges q = (((List.range x.Edges.length).filter fun i => decide ((edAt x i).From = q)).map fun i => cntB x.N x.Edges (edAt x i).To).sum := by
  obtain ⟨_, hed, hso⟩ := okX_edges hx
  rw [cntB_sum (hso.imp fun {a b} h => by rw [edLess_iff] at h; omega) (fun e he => (hed e he).2.1), if_neg (by omega), Int.zero_add]
  have h1 := filter_at (edAt x) (fun e => decide (e.From = q)) (fun e => cntB x.N x.Edges e.To) x.Edges.length
  rw [edges_range] at h1
  rw [h1]
theorem cntB_end {x : Lat} (hx : okX x = true) : cntB x.N x.Edges x.N = 1 := by
  obtain ⟨_, hed, hso⟩ := okX_edges hx
  rw [cntB_sum (hso.imp fun {a b} h => by rw [edLess_iff] at h; omega) (fun e he => (hed e he).2.1), if_pos rfl, List.filter_eq_nil_iff.2 fun e he => by have := hed e he; simp; omega]
  rfl
/-- The place to which an edge leads. -/
theorem toN_place {x : Lat} {m : Mdl} {p : Int} (hm : MdlOk m) (hx : okX x = true) (hw : wordsIn x m.Words.length = true) (hp : -1 ≤ p ∧ p < m.Words.length) {q : Nat} {z : I2} (hz : (nodesL x m.Words.length p)[q]? = some z) {k : Nat} (hk : k < x.Edges.length) (hf : (edAt x k).From = z.a) :
    ∃ z', (nodesL x m.Words.length p)[toN (nodesL x m.Words.length p) x (edAt x k)]? = some z' ∧ z'.a = (edAt x k).To ∧ q < toN (nodesL x m.Words.length p) x (edAt x k) := by
  have hmem := link_of (x := x) (m := m) hz hk hf
  obtain ⟨z0, z', p1, p2, p3, p4, p5, p6, p7⟩ := link_place hm hx hw hp hmem
  obtain ⟨ed, g1, g2, g3, _⟩ := link_good hm hx hw hp hmem
  exact ⟨z', p2, p7, Int.ofNat_lt.1 g2⟩
theorem last_node {x : Lat} {m : Mdl} {p : Int} (hm : MdlOk m) (hx : okX x = true) (hp : -1 ≤ p ∧ p < m.Words.length) {q : Nat} {z : I2} (hz : (nodesL x m.Words.length p)[q]? = some z) : ((q : Int) = (graphR x m p).N - 1 ↔ z.a = x.N) ∧ z.a ≤ x.N := by
  have hsm := nodesL_small hp hm.n2 hx
  obtain ⟨hq1, hq2⟩ := List.getElem?_eq_some_iff.1 hz
  obtain ⟨⟨h1, _, _⟩, _, _⟩ := okX_edges hx
  by_cases h0 : 0 < x.N
  · have h2 := nodesL_last hx hm.n2 hp h0 hq1
    rw [hq2] at h2
    refine ⟨?_, ?_⟩
    · rw [h2]; unfold graphR; simp only; omega
    · have hmem : z ∈ nodesL x m.Words.length p := List.mem_of_getElem? hz
      unfold nodesL at hmem
      rcases List.mem_cons.1 hmem with rfl | hmem
      · simp only; omega
      · rcases List.mem_append.1 hmem with hmem | hmem
        · obtain ⟨q', w', a1, a2, a3, a4, rfl⟩ := midR_mem.1 hmem
          simp only; omega
        · rw [if_pos h0] at hmem
          obtain rfl := List.mem_singleton.1 hmem
          simp
  · have e0 : x.N = 0 := by omega
    have : nodesL x m.Words.length p = [⟨0, p⟩] := by unfold nodesL midR; simp [e0]
    have hl : (graphR x m p).N = 1 := by unfold graphR; rw [this]; rfl
    rw [this] at hz hq1
    have hq0 : q = 0 := by simpa using hq1
    subst hq0
    have : z = ⟨0, p⟩ := by simpa using hz.symm
    rw [this, e0, hl]; simp
theorem pow_14 {n : Nat} (h : n ≤ 13) : (2 ^ n : Nat) ≤ 8192 := Nat.pow_le_pow_right (n := 2) (by omega) h
/-- Number counts what the reference counts. -/
theorem num_at {x : Lat} {m : Mdl} {p : Int} (hm : MdlOk m) (hx : okX x = true) (hw : wordsIn x m.Words.length = true) (hp : -1 ≤ p ∧ p < m.Words.length) (hE : x.Edges.length ≤ 13) {h : List Int} (hr : NumFrom (graphR x m p) (graphR x m p).N.toNat 0 h) :
    ∀ (f q : Nat) (z : I2), (nodesL x m.Words.length p).length ≤ f + q → (nodesL x m.Words.length p)[q]? = some z → h[q]? = some (cntB x.N x.Edges z.a)
  | 0, q, z, hf, hz => by
    obtain ⟨hq1, _⟩ := List.getElem?_eq_some_iff.1 hz
    omega
  | f + 1, q, z, hf, hz => by
    obtain ⟨hq1, hq2⟩ := List.getElem?_eq_some_iff.1 hz
    obtain ⟨hl1, hl2⟩ := last_node hm hx hp hz
    have hN : (graphR x m p).N = ((nodesL x m.Words.length p).length : Int) := rfl
    by_cases hq : (q : Int) = (graphR x m p).N - 1
    · have h2 := hr.2.1
      rw [hl1.1 hq, cntB_end hx, ← h2]
      congr 1; omega
    · have hlt : z.a < x.N := by
        have := fun e => hq (hl1.2 e)
        omega
      rw [hr.2.2.1 q (Nat.zero_le _) (by omega)]
      congr 1
      have hsum : (outTo (graphR x m p) (graphR x m p).Links.length q).map (fun (i : Nat) => (h[(lkAt (graphR x m p) i).To.toNat]?).getD 0) = ((List.range x.Edges.length).filter fun i => decide ((edAt x i).From = z.a)).map fun i => cntB x.N x.Edges (edAt x i).To := by
        rw [out_edges hz fun t => (h[t.toNat]?).getD 0]
        refine List.map_congr_left fun k hk => ?_
        rw [List.mem_filter, List.mem_range, decide_eq_true_eq] at hk
        obtain ⟨z', a1, a2, a3⟩ := toN_place hm hx hw hp hz hk.1 hk.2
        rw [Int.toNat_natCast, num_at hm hx hw hp hE hr f _ z' (by omega) a1, Option.getD_some, a2]
      have hb := cntB_in x.N x.Edges z.a
      have hb2 := pow_14 hE
      unfold foldN
      rw [foldN_sum _ 0 (by omega) (fun i hi => ?_) (by rw [hsum, ← cntB_at hx hlt]; omega), hsum, ← cntB_at hx hlt, Int.zero_add]
      cases he : h[(lkAt (graphR x m p) i).To.toNat]? with
      | none => simp
      | some v => exact (hr.1 v (List.mem_of_getElem? he)).1
theorem waysL_len {x : Lat} {m : Mdl} {p : Int} (hm : MdlOk m) (hx : okX x = true) (hw : wordsIn x m.Words.length = true) (hp : -1 ≤ p ∧ p < m.Words.length) :
    ∀ (f q : Nat) (z : I2), (nodesL x m.Words.length p).length ≤ f + q → (nodesL x m.Words.length p)[q]? = some z → ((waysL (graphR x m p) f q).length : Int) = cntB x.N x.Edges z.a
  | 0, q, z, hf, hz => by
    obtain ⟨hq1, _⟩ := List.getElem?_eq_some_iff.1 hz
    omega
  | f + 1, q, z, hf, hz => by
    obtain ⟨hl1, hl2⟩ := last_node hm hx hp hz
    rw [waysL]
    by_cases hq : (q : Int) = (graphR x m p).N - 1
    · rw [if_pos hq, hl1.1 hq, cntB_end hx]; rfl
    · have hlt : z.a < x.N := by
        have := fun e => hq (hl1.2 e)
        omega
      rw [if_neg hq, List.length_flatMap, cntB_at hx hlt]
      have hc : ∀ l : List Nat, ((l.map fun (i : Nat) => ((waysL (graphR x m p) f (lkAt (graphR x m p) i).To.toNat).map fun t => (i : Int) :: t).length).sum : Int) = (l.map fun (i : Nat) => ((waysL (graphR x m p) f (lkAt (graphR x m p) i).To.toNat).length : Int)).sum := fun l => by
        induction l with
        | nil => rfl
        | cons j r ih => rw [List.map_cons, List.sum_cons, List.map_cons, List.sum_cons, List.length_map, ← ih]; simp
      rw [hc, out_edges hz fun t => ((waysL (graphR x m p) f t.toNat).length : Int)]
      congr 1
      refine List.map_congr_left fun k hk => ?_
      rw [List.mem_filter, List.mem_range, decide_eq_true_eq] at hk
      obtain ⟨z', a1, a2, a3⟩ := toN_place hm hx hw hp hz hk.1 hk.2
      rw [Int.toNat_natCast, waysL_len hm hx hw hp f _ z' (by omega) a1, a2]
end Go.Proofs.Ytgnpjhellmfhoaa

/-
  Context: the walk of ContextWays.
-/
namespace Go.Proofs.Ytgnpjhellmfhoaa
open Go.RowKit Sy

/-- A path is told by its labels. -/
theorem seg_labels {g : Grf} (hs : g.Links.Pairwise linkLt) {p q d : Int} {ms : List Int} (h : Seg g p ms q d) : ∀ {q' d' : Int} {ms' : List Int}, Seg g p ms' q' d' → ms.map (lbl g) = ms'.map (lbl g) → ms = ms' := by
  induction h with
  | nil p =>
    intro q' d' ms' h' e
    cases ms' with
    | nil => rfl
    | cons a r => cases e
  | cons i hi hf h ih =>
    intro q' d' ms' h' e
    cases h' with
    | nil => cases e
    | cons j hj hjf h2 =>
      rw [List.map_cons, List.map_cons] at e
      obtain ⟨e1, e2⟩ := List.cons.inj e
      have e1' : (lkAt g i).Label = (lkAt g j).Label := e1
      have hij : i = j := by
        rcases Nat.lt_trichotomy i j with h3 | h3 | h3
        · have := List.pairwise_iff_getElem.1 hs i j hi hj h3
          rw [← lkAt_nat hi, ← lkAt_nat hj] at this
          unfold linkLt at this; omega
        · exact h3
        · have := List.pairwise_iff_getElem.1 hs j i hj hi h3
          rw [← lkAt_nat hi, ← lkAt_nat hj] at this
          unfold linkLt at this; omega
      subst hij
      rw [ih h2 e2]
set_option maxRecDepth 100000 in
set_option maxHeartbeats 4000000 in
theorem law6_c (l : List B4) (y : Raw) (q : B2) (adl r0 r1 r2 : Option Addr) (cl d0 d1 d2 : Nat) (μ : Mem) (w : World) (hμ : Imm μ w) (sl : Sl μ adl cl l) (h0 : Sl μ r0 d0 y.Words) (h1 : Sl μ r1 d1 y.Counts) (h2 : Sl μ r2 d2 y.Uses) :
    Calls Try.prog 8 #[.slice adl l.length cl, .agg #[.slice r0 y.Words.length d0, .slice r1 y.Counts.length d1, .slice r2 y.Uses.length d2, .int .u8 y.Back.toNat], b2V q] w (RetS w (.bool true)) := by
  obtain ⟨m, hm⟩ : ∃ m, m = madeM y := ⟨_, rfl⟩
  have hmok : MdlOk m := by rw [hm]; exact madeM_ok y
  have hmw : ∀ s ∈ m.Words, s.size ≤ 9223372036854775807 := by rw [hm]; exact words_s y
  obtain ⟨hW1, hW2, hW3, hW4⟩ := madeM_words y
  rw [← hm] at hW1 hW2 hW3 hW4
  obtain ⟨x, hx⟩ : ∃ x, x = madeX l q.a m.Words.length := ⟨_, rfl⟩
  obtain ⟨x1, x2, x3, x4, x5⟩ := madeX_ok l q.a (n := m.Words.length) (by omega) (by omega)
  rw [← hx] at x1 x2 x3 x4 x5
  have hsmall := ends_s x1
  have hqb := q.b.toNat_lt
  have hqm := Nat.mod_lt q.b.toNat (show 0 < m.Words.length + 1 by omega)
  obtain ⟨pv, hpv⟩ : ∃ pv : Int, pv = ((q.b.toNat % (m.Words.length + 1) : Nat) : Int) - 1 := ⟨_, rfl⟩
  have hpv2 : -1 ≤ pv ∧ pv < m.Words.length := by omega
  have hcost : ∀ e ∈ x.Edges, e.Cost ≤ 31 := by rw [hx]; exact madeX_cost l q.a (by omega)
  obtain ⟨hG1, hG2, hg, hW⟩ := law_graph hmok x1 x2 hpv2 hcost x3 x4.2
  obtain ⟨B, hB⟩ : ∃ B, B = buildR x m pv := ⟨_, rfl⟩
  rw [← hB] at hG1 hG2
  rw [← hG1] at hg hW
  have hE20 : x.Edges.length ≤ 20 := by omega
  have hT1 := cntB_in x.N x.Edges 0
  have hT2 := pow_14 x3
  have hLn : ((waysL B.G B.G.N.toNat 0).length : Int) = cntB x.N x.Edges 0 := by
    rw [hG1]
    exact waysL_len hmok x1 x2 hpv2 _ 0 ⟨0, pv⟩ (by show _ ≤ Int.toNat ((nodesL x m.Words.length pv).length : Int) + 0; omega) rfl
  have hNum : ∀ h, NumFrom B.G B.G.N.toNat 0 h → h[0]? = some (cntB x.N x.Edges 0) := fun h hr => by
    rw [hG1] at hr
    exact num_at hmok x1 x2 hpv2 x3 hr _ 0 ⟨0, pv⟩ (Nat.le_refl _) rfl
  have hso : B.G.Links.Pairwise linkLt := by rw [hG1]; exact links_sorted _ _ _ _
  have hlab : ∀ k ∈ B.G.Links, 0 ≤ k.Label ∧ k.Label < x.Edges.length := fun k hk => by
    rw [hG1] at hk
    obtain ⟨ed, g1, g2, g3, g4, g5, _⟩ := link_good hmok x1 x2 hpv2 hk
    exact ⟨g4, g5⟩
  have hway : ∀ ls c, Path B.G ls (B.G.N - 1) c → costR x m pv (ls.map (lbl B.G)) = (c, true) := fun ls c hp => by
    rw [hG1] at hp ⊢
    obtain ⟨es, e1, e2, e3⟩ := path_way hmok x1 x2 hpv2 hp.seg rfl 0 ⟨0, pv⟩ rfl rfl
    rw [e1, e3]; exact costW hmok x1 x2 hpv2 e2
  have hn2 := hg.n2
  have hS := St.start w μ hμ
  refine calls_start 164 [.slice adl l.length cl, .agg #[.slice r0 y.Words.length d0, .slice r1 y.Counts.length d1, .slice r2 y.Uses.length d2, .int .u8 y.Back.toNat], b2V q] Try.func8 rfl Try.ntmps8 rfl rfl ?_
  refine CW.seq fun K1 hK1 => ?_
  refine CW.region [0, 1, 2] rfl ?_
  refine LW.hv rfl rfl rfl rfl (Hv.boxS hS rfl rfl) fun v w4 ⟨b4, hv, hb4, hS⟩ => ?_
  subst hv
  refine LW.hv rfl rfl rfl rfl (Hv.boxS hS rfl rfl) fun v w5 ⟨b5, hv, hb5, hS⟩ => ?_
  subst hv
  refine LW.ex rfl rfl rfl rfl (Ex.assign rfl) hS.rd ?_
  refine LW.nil fun aa ha => hK1 _ _ _ ?_ aa ha
  refine CW.seq fun K2 hK2 => ?_
  refine CW.region [0, 1] rfl ?_
  refine LW.hv rfl rfl rfl rfl (Hv.callS hS rfl rfl rfl cb9 (sanity_c _)) fun v w21 ⟨hv, hS⟩ => ?_
  subst hv
  refine LW.ex rfl rfl rfl rfl (Ex.assign rfl) hS.rd ?_
  refine LW.nil fun aa ha => hK2 _ _ _ ?_ aa ha
  refine CW.seq fun K3 hK3 => ?_
  refine CW.region [0, 1, 2, 3] rfl ?_
  refine LW.ex rfl rfl rfl rfl (Ex.load4c ti27 rfl rfl (by first | exact obT rfl | exact Rd.imm ‹_› | exact slT ‹_›) (by first | exact obT rfl | exact Rd.imm ‹_› | exact slT ‹_›) (by first | exact obT rfl | exact Rd.imm ‹_› | exact slT ‹_›) (by first | exact obT rfl | exact Rd.imm ‹_› | exact slT ‹_›)) hS.rd ?_
  refine LW.hv rfl rfl rfl rfl (Hv.callV hS rfl rfl rfl cb10 (madeM_c y _ _ _ _ _ _ μ _ hS.imm h0 h1 h2)) fun v w23 ⟨μ23, hv23, hm23, hS⟩ => ?_
  obtain ⟨a0, c0, a1, c1, a2, c2, hv, hm0, hm1, hm2⟩ := hv23
  subst hv
  rw [← hm] at hm0 hm1 hm2 ⊢
  have sl := sl.mono hm23
  refine LW.hv rfl rfl rfl rfl (Hv.alloc ti34 hS) fun v w8 ⟨b8, hv, hb8, hS⟩ => ?_
  subst hv
  refine LW.hu rfl rfl rfl (Hv.storeN (k := 0) ti34 hS rfl rfl rfl rfl (by simp [Value.oneCell'])) fun _ w_3 hS => ?_
  dsimp only [List.set] at hS
  refine LW.nil fun aa ha => hK3 _ _ _ ?_ aa ha
  refine CW.seq fun K4 hK4 => ?_
  have hJr3 : ∀ (wj : World) (b9 : Nat) (ax : Option Addr) (cx : Nat), St w wj μ23 [Own.sl ax x.Edges.length cx 43 4 (x.Edges.flatMap edgeL), Own.obj b9 [.int .i64 x.N, .slice ax x.Edges.length cx] 38, Own.obj b8 [.slice a0 m.Words.length c0, .slice a1 m.Counts.length c1, .slice a2 m.Pairs.length c2, .int .i64 m.Back] 34, Own.obj b5 (b2L q) 62, Own.obj b4 [.slice r0 y.Words.length d0, .slice r1 y.Counts.length d1, .slice r2 y.Uses.length d2, .int .u8 y.Back.toNat] 27] → KW K4 164 [(7, .bool true), (8, .pointer (some ⟨b8, 0, none⟩)), (9, .pointer (some ⟨b9, 0, none⟩)), (10, .int .i64 pv)] wj := by
    intro wj b9 ax cx hS 
    refine hK4 _ _ _ ?_
    refine CW.seq fun K5 hK5 => ?_
    obtain ⟨bs, μ2, hm22, hS, hφ⟩ := hS.shut 0 rfl
    dsimp only [List.eraseIdx] at hS
    have hx2 : Sl μ2 ax cx x.Edges := Sl.of_own hφ (edgeReps _ _) rfl
    have hm0 := hm0.mono hm22
    have hm1 := hm1.mono hm22
    have hm2 := hm2.mono hm22
    refine CW.region [0, 1, 2, 3, 4, 5] rfl ?_
    refine LW.ex rfl rfl rfl rfl (Ex.load2c ti38 rfl rfl (by first | exact obT rfl | exact Rd.imm ‹_› | exact slT ‹_›) (by first | exact obT rfl | exact Rd.imm ‹_› | exact slT ‹_›)) hS.rd ?_
    refine LW.ex rfl rfl rfl rfl (Ex.load4c ti34 rfl rfl (by first | exact obT rfl | exact Rd.imm ‹_› | exact slT ‹_›) (by first | exact obT rfl | exact Rd.imm ‹_› | exact slT ‹_›) (by first | exact obT rfl | exact Rd.imm ‹_› | exact slT ‹_›) (by first | exact obT rfl | exact Rd.imm ‹_› | exact slT ‹_›)) hS.rd ?_
    refine LW.ex rfl rfl rfl rfl (Ex.move rfl) hS.rd ?_
    refine LW.hv rfl rfl rfl rfl (Hv.callV hS rfl rfl rfl cb13 (lbuild_c x m pv hmw hsmall (by omega) _ _ _ _ _ _ _ _ _ _ hS.imm hx2 hm0 hm1 hm2)) fun v w43 ⟨μ43, hv43, hm43, hS⟩ => ?_
    obtain ⟨p0, q0, p1, q1, hv, hs0, hs1⟩ := hv43
    subst hv
    rw [← hB] at hs0 hs1 ⊢
    have hx2 := hx2.mono hm43
    have hm0 := hm0.mono hm43
    have hm1 := hm1.mono hm43
    have hm2 := hm2.mono hm43
    refine LW.hv rfl rfl rfl rfl (Hv.alloc ti49 hS) fun v w11 ⟨b11, hv, hb11, hS⟩ => ?_
    subst hv
    refine LW.hu rfl rfl rfl (Hv.storeN (k := 0) ti49 hS rfl rfl rfl rfl (by simp [Value.oneCell'])) fun _ w_5 hS => ?_
    dsimp only [List.set] at hS
    refine LW.nil fun aa ha => hK5 _ _ _ ?_ aa ha
    refine CW.seq fun K6 hK6 => ?_
    refine CW.region [0, 1, 2, 3, 4, 5, 6, 7] rfl ?_
    refine LW.ex rfl rfl rfl rfl (Ex.fieldO 0 Try.underlying49 rfl rfl ti46 rfl) hS.rd ?_
    refine LW.ex rfl rfl rfl rfl (Ex.load2c ti46 rfl rfl (by first | exact obT rfl | exact Rd.imm ‹_› | exact slT ‹_›) (by first | exact obT rfl | exact Rd.imm ‹_› | exact slT ‹_›)) hS.rd ?_
    refine LW.hv rfl rfl rfl rfl (Hv.callV hS rfl rfl rfl cb24 (list_c B.G hg hW 50 (Nat.le_refl _) _ _ _ _ hS.imm hs0)) fun v w47 ⟨μ47, hv47, hm47, hS⟩ => ?_
    obtain ⟨R, H, A, adA, cA, hRl, hR, hI, hend, hAk, hv, hsA⟩ := hv47
    subst hv
    have hx2 := hx2.mono hm47
    have hs0 := hs0.mono hm47
    have hm0 := hm0.mono hm47
    have hm1 := hm1.mono hm47
    have hm2 := hm2.mono hm47
    refine LW.ex rfl rfl rfl rfl (Ex.move rfl) hS.rd ?_
    refine LW.ex rfl rfl rfl rfl (Ex.extract rfl rfl) hS.rd ?_
    refine LW.ex rfl rfl rfl rfl (Ex.extract rfl rfl) hS.rd ?_
    refine LW.ex rfl rfl rfl rfl (Ex.assign rfl) hS.rd ?_
    refine LW.ex rfl rfl rfl rfl (Ex.assign rfl) hS.rd ?_
    refine LW.nil fun aa ha => hK6 _ _ _ ?_ aa ha
    refine CW.seq fun K7 hK7 => ?_
    refine CW.seq fun K8 hK8 => ?_
    have hcount := hI.count hg hAk hend
    have hS := hS.drew
    refine CW.draw 23 (.ex 0 <| .ex 1 <| .ex 2 <| .ex 3 <| .ex 4 <| .ex 5 <| .ex 6 <| .ex 7 <| .ex 8 <| .ex 9 <| .ex 10 <| .one 11 <| .ex 12 <| .ex 13 <| .ex 14 <| .ex 15 <| .ex 16 <| .ex 17 <| .ex 19 <| .one 18 <| .one 20 <| .ex 21 <| .ex 22 <| .done) [] (Rd _ _) mixed (by kernel_rfl) rfl rfl hS.rd ?_
    refine PW.ex rfl rfl rfl rfl (Ex.fieldO 3 Try.underlying49 rfl rfl ti47 rfl) ?_
    refine PW.ex rfl rfl rfl rfl (Ex.load1 ti47 rfl rfl (by first | exact obT rfl | exact Rd.imm ‹_› | exact slT ‹_›)) ?_
    refine PW.ex rfl rfl rfl rfl (Ex.neq rfl rfl rfl) ?_
    refine PW.splitB (fun h6_2 => ?_) (fun h6_2 => ?_)
    · have h6_2 := of_decide_eq_true h6_2
      omega
    · have h6_2 := of_decide_eq_false h6_2
      refine PW.ex rfl rfl rfl rfl (Ex.move rfl) ?_
      refine PW.ex rfl rfl rfl rfl (Ex.move rfl) ?_
      refine PW.ex rfl rfl rfl rfl (Ex.neq rfl rfl rfl) ?_
      refine PW.splitB (fun h6_5 => ?_) (fun h6_5 => ?_)
      · have h6_5 := of_decide_eq_true h6_5
        exact absurd rfl h6_5
      · have h6_5 := of_decide_eq_false h6_5
        refine PW.ex rfl rfl rfl rfl (by first | exact Ex.pick_yes rfl rfl | exact Ex.pick_no rfl rfl) ?_
        refine PW.ex rfl rfl rfl rfl (Ex.move rfl) ?_
        refine PW.ex rfl rfl rfl rfl (Ex.move rfl) ?_
        refine PW.ex rfl rfl rfl rfl (Ex.lenSl rfl Try.underlying76 rfl) ?_
        refine PW.ex rfl rfl rfl rfl (Ex.load2c ti38 rfl rfl (by first | exact obT rfl | exact Rd.imm ‹_› | exact slT ‹_›) (by first | exact obT rfl | exact Rd.imm ‹_› | exact slT ‹_›)) ?_
        refine PW.hv rfl rfl rfl rfl (Hv.callS hS rfl rfl rfl cb26 (count_c x x1 hE20 _ _ _ _ hS.imm hx2)) (fun _ _ h => h.2.rd) fun v w61 ⟨hv, hS⟩ => ?_
        subst hv
        refine PW.ex rfl rfl rfl rfl (Ex.min2 rfl rfl rfl) ?_
        refine PW.ex rfl rfl rfl rfl (Ex.neq rfl rfl rfl) ?_
        refine PW.splitB (fun h6_13 => ?_) (fun h6_13 => ?_)
        · have h6_13 := of_decide_eq_true h6_13
          omega
        · have h6_13 := of_decide_eq_false h6_13
          refine PW.ex rfl rfl rfl rfl (by first | exact Ex.pick_yes rfl rfl | exact Ex.pick_no rfl rfl) ?_
          refine PW.ex rfl rfl rfl rfl (Ex.move rfl) ?_
          refine PW.ex rfl rfl rfl rfl (Ex.fieldO 0 Try.underlying49 rfl rfl ti46 rfl) ?_
          refine PW.ex rfl rfl rfl rfl (Ex.load2c ti46 rfl rfl (by first | exact obT rfl | exact Rd.imm ‹_› | exact slT ‹_›) (by first | exact obT rfl | exact Rd.imm ‹_› | exact slT ‹_›)) ?_
          refine PW.ex rfl rfl rfl rfl (Ex.load2c ti38 rfl rfl (by first | exact obT rfl | exact Rd.imm ‹_› | exact slT ‹_›) (by first | exact obT rfl | exact Rd.imm ‹_› | exact slT ‹_›)) ?_
          refine PW.hv rfl rfl rfl rfl (Hv.callV hS rfl rfl rfl cb27 (number_c B.G hg _ _ _ _ hS.imm hs0)) (fun _ _ ⟨_, _, hm, h⟩ => Rd.le hm h.rd) fun v w68 ⟨μ68, hv68, hm68, hS⟩ => ?_
          obtain ⟨hh, zz, hhl, hnum, hz0, hv⟩ := hv68
          subst hv
          have hzz := hNum hh hnum
          rw [hz0] at hzz
          obtain rfl := Option.some.inj hzz
          refine PW.hv rfl rfl rfl rfl (Hv.callS hS rfl rfl rfl cb26 (count_c x x1 hE20 _ _ _ _ hS.imm (by first | exact hx2 | exact hx2.mono hm68))) (fun _ _ h => Rd.le hm68 (h.2.rd)) fun v w70 ⟨hv, hS⟩ => ?_
          subst hv
          refine PW.ex rfl rfl rfl rfl (Ex.neq rfl rfl rfl) ?_
          refine PW.splitB (fun h6_21 => ?_) (fun h6_21 => ?_)
          · have h6_21 := of_decide_eq_true h6_21
            exact absurd rfl h6_21
          · have h6_21 := of_decide_eq_false h6_21
            refine PW.ex rfl rfl rfl rfl (by first | exact Ex.pick_yes rfl rfl | exact Ex.pick_no rfl rfl) ?_
            refine PW.nil ?_
            refine LW.nil fun aa ha => hK8 _ _ _ ?_ aa ha
            refine CW.no rfl ?_
            refine CW.skip fun aa ha => hK7 _ _ _ ?_ aa ha
            refine CW.seq fun K9 hK9 => ?_
            refine CW.seq fun K10 hK10 => ?_
            have hS := st_le hm68 hS
            refine CW.region [0] rfl ?_
            refine LW.ex rfl rfl rfl rfl (Ex.assign rfl) hS.rd ?_
            refine LW.nil fun aa ha => hK10 _ _ _ ?_ aa ha
            refine CW.block ?_
            refine CW.loop (fun qq frm wl9 => ∃ (j : Nat), j ≤ A.length ∧ qq = A.length - j ∧ frm = [(7, .bool true), (8, .pointer (some ⟨b8, 0, none⟩)), (9, .pointer (some ⟨b9, 0, none⟩)), (10, .int .i64 pv), (11, .pointer (some ⟨b11, 0, none⟩)), (12, .slice adA A.length cA), (14, .int .i64 j)] ∧ St w wl9 μ47 [Own.obj b11 [.int .i64 B.G.N, .slice p0 B.G.Links.length q0, .slice p1 B.Last.length q1, .int .i64 B.E] 49, Own.obj b9 [.int .i64 x.N, .slice ax x.Edges.length cx] 38, Own.obj b8 [.slice a0 m.Words.length c0, .slice a1 m.Counts.length c1, .slice a2 m.Pairs.length c2, .int .i64 m.Back] 34, Own.obj b5 (b2L q) 62, Own.obj b4 [.slice r0 y.Words.length d0, .slice r1 y.Counts.length d1, .slice r2 y.Uses.length d2, .int .u8 y.Back.toNat] 27]) _ ⟨0, (by first | omega | (simp; done) | (simp; omega)), rfl, rfl, hS⟩ ⟨rfl, rfl, rfl, rfl, rfl, rfl, rfl, trivial⟩ ?_
            clear hS
            rintro qq frm wl9 ⟨j, hj, hq, rfl, hS⟩
            refine CW.seq fun K11 hK11 => ?_
            refine CW.seq fun K12 hK12 => ?_
            refine CW.region [0, 1, 2, 3] rfl ?_
            refine LW.ex rfl rfl rfl rfl (Ex.move rfl) hS.rd ?_
            refine LW.ex rfl rfl rfl rfl (Ex.move rfl) hS.rd ?_
            refine LW.ex rfl rfl rfl rfl (Ex.lenSl rfl Try.underlying76 rfl) hS.rd ?_
            refine LW.ex rfl rfl rfl rfl (Ex.lss rfl rfl rfl) hS.rd ?_
            refine LW.splitB (fun h9_3 => ?_) (fun h9_3 => ?_)
            · have h9_3 := of_decide_eq_true h9_3
              refine LW.nil fun aa ha => hK12 _ _ _ ?_ aa ha
              refine CW.yes rfl ?_
              refine CW.skip fun aa ha => hK11 _ _ _ ?_ aa ha
              refine CW.seq fun K13 hK13 => ?_
              refine CW.block ?_
              refine CW.seq fun K14 hK14 => ?_
              have hj2 : j < A.length := by omega
              have hSl := hS
              obtain ⟨bA, oA, rfl, ⟨adj, cj, f0, f1⟩, f2⟩ := hsA.at hj2
              have hS := hSl
              have hpj := hI.pa _ (List.getElem_mem hj2)
              have hlj := seg_links hpj.seg
              have hnj := seg_len hg hpj.seg
              have hCj := hway _ _ hpj
              obtain ⟨a, hae⟩ : ∃ a, a = A[j] := ⟨_, rfl⟩
              rw [← hae] at f0 f1 f2 hlj hnj hCj hpj
              have hS := hS.drew
              refine CW.draw 8 (.ex 0 <| .ex 1 <| .ex 2 <| .ex 3 <| .ex 4 <| .ex 5 <| .one 6 <| .ex 7 <| .done) [] (Rd _ _) mixed (by kernel_rfl) rfl rfl hS.rd ?_
              refine PW.ex rfl rfl rfl rfl (Ex.fieldO 0 Try.underlying49 rfl rfl ti46 rfl) ?_
              refine PW.ex rfl rfl rfl rfl (Ex.load2c ti46 rfl rfl (by first | exact obT rfl | exact Rd.imm ‹_› | exact slT ‹_›) (by first | exact obT rfl | exact Rd.imm ‹_› | exact slT ‹_›)) ?_
              refine PW.ex rfl rfl rfl rfl (Ex.move rfl) ?_
              refine PW.ex rfl rfl rfl rfl (Ex.move rfl) ?_
              refine PW.ex rfl rfl rfl rfl (Ex.indexSl Try.underlying76 ti58 rfl rfl rfl (by omega)) ?_
              refine PW.ex rfl rfl rfl rfl (Ex.load2c ti58 rfl rfl (by first | exact obT rfl | exact Rd.imm ‹_› | exact slT ‹_›) (by first | exact obT rfl | exact Rd.imm ‹_› | exact slT ‹_›)) ?_
              refine PW.hv rfl rfl rfl rfl (Hv.callV hS rfl rfl rfl cb25 (labels_c B.G a.Links a.Cost hlj (by omega) _ _ _ _ _ _ hS.imm hs0 f1)) (fun _ _ ⟨_, _, hm, h⟩ => Rd.le hm h.rd) fun v w85 ⟨μ85, hv85, hm85, hS⟩ => ?_
              obtain ⟨adE, cE, hv, hsE⟩ := hv85
              subst hv
              have hx2 := hx2.mono hm85
              have hs0 := hs0.mono hm85
              have hsA := hsA.mono hm85
              have hm0 := hm0.mono hm85
              have hm1 := hm1.mono hm85
              have hm2 := hm2.mono hm85
              have f0 := hm85.cell f0
              have f1 := f1.mono hm85
              have f2 := hm85.cell f2
              refine PW.ex rfl rfl rfl rfl (Ex.assign rfl) ?_
              refine PW.nil ?_
              refine LW.nil fun aa ha => hK14 _ _ _ ?_ aa ha
              refine CW.seq fun K15 hK15 => ?_
              refine CW.region [0, 1, 2, 3, 4, 5, 6, 7, 8, 9] rfl ?_
              refine LW.ex rfl rfl rfl rfl (Ex.load2c ti38 rfl rfl (by first | exact obT rfl | exact Rd.imm ‹_› | exact slT ‹_›) (by first | exact obT rfl | exact Rd.imm ‹_› | exact slT ‹_›)) hS.rd ?_
              refine LW.ex rfl rfl rfl rfl (Ex.load4c ti34 rfl rfl (by first | exact obT rfl | exact Rd.imm ‹_› | exact slT ‹_›) (by first | exact obT rfl | exact Rd.imm ‹_› | exact slT ‹_›) (by first | exact obT rfl | exact Rd.imm ‹_› | exact slT ‹_›) (by first | exact obT rfl | exact Rd.imm ‹_› | exact slT ‹_›)) hS.rd ?_
              refine LW.ex rfl rfl rfl rfl (Ex.move rfl) hS.rd ?_
              refine LW.ex rfl rfl rfl rfl (Ex.move rfl) hS.rd ?_
              refine LW.hv rfl rfl rfl rfl (Hv.callS hS rfl rfl rfl cb15 (ccostW x m pv (a.Links.map (lbl B.G)) a.Cost hCj hmw hsmall (by rw [List.length_map]; omega) _ _ _ _ _ _ _ _ _ _ μ85 _ hS.imm hx2 hm0 hm1 hm2 hsE)) fun v w91 ⟨hv, hS⟩ => ?_
              subst hv
              refine LW.ex rfl rfl rfl rfl (Ex.move rfl) hS.rd ?_
              refine LW.ex rfl rfl rfl rfl (Ex.extract rfl rfl) hS.rd ?_
              refine LW.ex rfl rfl rfl rfl (Ex.extract rfl rfl) hS.rd ?_
              refine LW.ex rfl rfl rfl rfl (Ex.assign rfl) hS.rd ?_
              refine LW.ex rfl rfl rfl rfl (Ex.assign rfl) hS.rd ?_
              refine LW.nil fun aa ha => hK15 _ _ _ ?_ aa ha
              refine CW.seq fun K16 hK16 => ?_
              refine CW.seq fun K17 hK17 => ?_
              refine CW.region [0, 1, 2, 3, 4, 5, 6, 7, 8, 9, 10, 11, 12, 13, 14, 15, 16, 17, 18, 19, 20, 21] rfl ?_
              refine LW.ex rfl rfl rfl rfl (Ex.move rfl) hS.rd ?_
              refine LW.ex rfl rfl rfl rfl (Ex.not rfl rfl) hS.rd ?_
              refine LW.ex rfl rfl rfl rfl (Ex.move rfl) hS.rd ?_
              refine LW.ex rfl rfl rfl rfl (Ex.move rfl) hS.rd ?_
              refine LW.ex rfl rfl rfl rfl (Ex.move rfl) hS.rd ?_
              refine LW.ex rfl rfl rfl rfl (Ex.move rfl) hS.rd ?_
              refine LW.ex rfl rfl rfl rfl (Ex.indexSl Try.underlying76 ti58 rfl rfl rfl (by omega)) hS.rd ?_
              refine LW.ex rfl rfl rfl rfl (Ex.fieldO 1 Try.underlying58 rfl rfl ti3 rfl) hS.rd ?_
              refine LW.ex rfl rfl rfl rfl (Ex.load1 ti3 rfl rfl (by first | exact obT rfl | exact Rd.imm ‹_› | exact slT ‹_›)) hS.rd ?_
              refine LW.ex rfl rfl rfl rfl (Ex.neq rfl rfl rfl) hS.rd ?_
              refine LW.splitB (fun h13_9 => ?_) (fun h13_9 => ?_)
              · have h13_9 := of_decide_eq_true h13_9
                exact absurd rfl h13_9
              · have h13_9 := of_decide_eq_false h13_9
                refine LW.ex rfl rfl rfl rfl (by first | exact Ex.pick_yes rfl rfl | exact Ex.pick_no rfl rfl) hS.rd ?_
                refine LW.ex rfl rfl rfl rfl (Ex.move rfl) hS.rd ?_
                refine LW.ex rfl rfl rfl rfl (Ex.move rfl) hS.rd ?_
                refine LW.ex rfl rfl rfl rfl (Ex.lenSl rfl Try.underlying31 rfl) hS.rd ?_
                refine LW.ex rfl rfl rfl rfl (Ex.move rfl) hS.rd ?_
                refine LW.ex rfl rfl rfl rfl (Ex.move rfl) hS.rd ?_
                refine LW.ex rfl rfl rfl rfl (Ex.indexSl Try.underlying76 ti58 rfl rfl rfl (by omega)) hS.rd ?_
                refine LW.ex rfl rfl rfl rfl (Ex.fieldO 0 Try.underlying58 rfl rfl ti31 rfl) hS.rd ?_
                refine LW.ex rfl rfl rfl rfl (Ex.load1 ti31 rfl rfl (by first | exact obT rfl | exact Rd.imm ‹_› | exact slT ‹_›)) hS.rd ?_
                refine LW.ex rfl rfl rfl rfl (Ex.lenSl rfl Try.underlying31 rfl) hS.rd ?_
                refine LW.ex rfl rfl rfl rfl (Ex.neq rfl rfl rfl) hS.rd ?_
                refine LW.splitB (fun h13_20 => ?_) (fun h13_20 => ?_)
                · have h13_20 := of_decide_eq_true h13_20
                  exact (h13_20 (by rw [List.length_map])).elim
                · have h13_20 := of_decide_eq_false h13_20
                  refine LW.ex rfl rfl rfl rfl (by first | exact Ex.pick_yes rfl rfl | exact Ex.pick_no rfl rfl) hS.rd ?_
                  refine LW.nil fun aa ha => hK17 _ _ _ ?_ aa ha
                  refine CW.no rfl ?_
                  refine CW.skip fun aa ha => hK16 _ _ _ ?_ aa ha
                  refine CW.seq fun K18 hK18 => ?_
                  have hS := hS.drew
                  refine CW.draw 9 (.ex 0 <| .ex 1 <| .ex 2 <| .ex 3 <| .ex 4 <| .ex 5 <| .ex 6 <| .one 7 <| .ex 8 <| .done) [] (Rd _ _) mixed (by kernel_rfl) rfl rfl hS.rd ?_
                  refine PW.ex rfl rfl rfl rfl (Ex.load2c ti38 rfl rfl (by first | exact obT rfl | exact Rd.imm ‹_› | exact slT ‹_›) (by first | exact obT rfl | exact Rd.imm ‹_› | exact slT ‹_›)) ?_
                  refine PW.ex rfl rfl rfl rfl (Ex.fieldO 0 Try.underlying49 rfl rfl ti46 rfl) ?_
                  refine PW.ex rfl rfl rfl rfl (Ex.load2c ti46 rfl rfl (by first | exact obT rfl | exact Rd.imm ‹_› | exact slT ‹_›) (by first | exact obT rfl | exact Rd.imm ‹_› | exact slT ‹_›)) ?_
                  refine PW.ex rfl rfl rfl rfl (Ex.move rfl) ?_
                  refine PW.ex rfl rfl rfl rfl (Ex.move rfl) ?_
                  refine PW.ex rfl rfl rfl rfl (Ex.indexSl Try.underlying76 ti58 rfl rfl rfl (by omega)) ?_
                  refine PW.ex rfl rfl rfl rfl (Ex.load2c ti58 rfl rfl (by first | exact obT rfl | exact Rd.imm ‹_› | exact slT ‹_›) (by first | exact obT rfl | exact Rd.imm ‹_› | exact slT ‹_›)) ?_
                  refine PW.hv rfl rfl rfl rfl (Hv.callV hS rfl rfl rfl cb19 (cwords_c x B.G a.Links a.Cost ⟨hlj, hlab⟩ (by omega) _ _ _ _ _ _ _ _ hS.imm hx2 hs0 f1)) (fun _ _ ⟨_, _, hm, h⟩ => Rd.le hm h.rd) fun v w123 ⟨μ123, hv123, hm123, hS⟩ => ?_
                  obtain ⟨adD, cD, hv, hsD⟩ := hv123
                  subst hv
                  have hx2 := hx2.mono hm123
                  have hs0 := hs0.mono hm123
                  have hsA := hsA.mono hm123
                  have hsE := hsE.mono hm123
                  refine PW.ex rfl rfl rfl rfl (Ex.assign rfl) ?_
                  refine PW.nil ?_
                  refine LW.nil fun aa ha => hK18 _ _ _ ?_ aa ha
                  refine CW.seq fun K19 hK19 => ?_
                  refine CW.seq fun K20 hK20 => ?_
                  refine CW.region [0, 1, 2, 3, 4] rfl ?_
                  refine LW.ex rfl rfl rfl rfl (Ex.move rfl) hS.rd ?_
                  refine LW.ex rfl rfl rfl rfl (Ex.lenSl rfl Try.underlying31 rfl) hS.rd ?_
                  refine LW.ex rfl rfl rfl rfl (Ex.move rfl) hS.rd ?_
                  refine LW.ex rfl rfl rfl rfl (Ex.lenSl rfl Try.underlying31 rfl) hS.rd ?_
                  refine LW.ex rfl rfl rfl rfl (Ex.neq rfl rfl rfl) hS.rd ?_
                  refine LW.splitB (fun h16_4 => ?_) (fun h16_4 => ?_)
                  · have h16_4 := of_decide_eq_true h16_4
                    exact (h16_4 (by rw [List.length_map, List.length_map])).elim
                  · have h16_4 := of_decide_eq_false h16_4
                    refine LW.nil fun aa ha => hK20 _ _ _ ?_ aa ha
                    refine CW.no rfl ?_
                    refine CW.skip fun aa ha => hK19 _ _ _ ?_ aa ha
                    refine CW.seq fun K21 hK21 => ?_
                    refine CW.seq fun K22 hK22 => ?_
                    refine CW.region [0] rfl ?_
                    refine LW.ex rfl rfl rfl rfl (Ex.assign rfl) hS.rd ?_
                    refine LW.nil fun aa ha => hK22 _ _ _ ?_ aa ha
                    refine CW.block ?_
                    refine CW.loop (fun qq frm wl19 => ∃ (i2 : Nat), i2 ≤ a.Links.length ∧ qq = a.Links.length - i2 ∧ frm = [(7, .bool true), (8, .pointer (some ⟨b8, 0, none⟩)), (9, .pointer (some ⟨b9, 0, none⟩)), (10, .int .i64 pv), (11, .pointer (some ⟨b11, 0, none⟩)), (12, .slice (some ⟨bA, oA, none⟩) A.length cA), (14, .int .i64 j), (15, .slice adE (a.Links.map (lbl B.G)).length cE), (18, .slice adD (a.Links.map (wordAt x B.G)).length cD), (19, .int .i64 i2)] ∧ St w wl19 μ123 [Own.obj b11 [.int .i64 B.G.N, .slice p0 B.G.Links.length q0, .slice p1 B.Last.length q1, .int .i64 B.E] 49, Own.obj b9 [.int .i64 x.N, .slice ax x.Edges.length cx] 38, Own.obj b8 [.slice a0 m.Words.length c0, .slice a1 m.Counts.length c1, .slice a2 m.Pairs.length c2, .int .i64 m.Back] 34, Own.obj b5 (b2L q) 62, Own.obj b4 [.slice r0 y.Words.length d0, .slice r1 y.Counts.length d1, .slice r2 y.Uses.length d2, .int .u8 y.Back.toNat] 27]) _ ⟨0, (by first | omega | (simp; done) | (simp; omega)), rfl, rfl, hS⟩ ⟨rfl, rfl, rfl, rfl, rfl, rfl, rfl, rfl, rfl, rfl, trivial⟩ ?_
                    clear hS
                    rintro qq frm wl19 ⟨i2, hi2, hq, rfl, hS⟩
                    refine CW.seq fun K23 hK23 => ?_
                    refine CW.seq fun K24 hK24 => ?_
                    refine CW.region [0, 1, 2, 3] rfl ?_
                    refine LW.ex rfl rfl rfl rfl (Ex.move rfl) hS.rd ?_
                    refine LW.ex rfl rfl rfl rfl (Ex.move rfl) hS.rd ?_
                    refine LW.ex rfl rfl rfl rfl (Ex.lenSl rfl Try.underlying31 rfl) hS.rd ?_
                    refine LW.ex rfl rfl rfl rfl (Ex.lss rfl rfl rfl) hS.rd ?_
                    refine LW.splitB (fun h19_3 => ?_) (fun h19_3 => ?_)
                    · have h19_3 := of_decide_eq_true h19_3
                      refine LW.nil fun aa ha => hK24 _ _ _ ?_ aa ha
                      refine CW.yes rfl ?_
                      refine CW.skip fun aa ha => hK23 _ _ _ ?_ aa ha
                      refine CW.seq fun K25 hK25 => ?_
                      refine CW.block ?_
                      refine CW.seq fun K26 hK26 => ?_
                      rw [List.length_map] at h19_3
                      have hi3 : i2 < a.Links.length := by omega
                      have hSl := hS
                      obtain ⟨bD, oD, rfl, kD⟩ := hsD.at (i := i2) (by rw [List.length_map]; exact hi3)
                      obtain ⟨bE, oE, rfl, kE⟩ := hsE.at (i := i2) (by rw [List.length_map]; exact hi3)
                      rw [List.getElem_map] at kD kE
                      have hli := hlj _ (List.getElem_mem hi3)
                      have hlb := hlab _ (lkAt_mem (g := B.G) (i := a.Links[i2].toNat) (by omega))
                      rw [show ((a.Links[i2].toNat : Nat) : Int) = a.Links[i2] by omega] at hlb
                      obtain ⟨e, he⟩ : ∃ e : Nat, (lkAt B.G a.Links[i2]).Label = e := ⟨(lkAt B.G a.Links[i2]).Label.toNat, by omega⟩
                      have he2 : e < x.Edges.length := by omega
                      rw [show lbl B.G a.Links[i2] = (e : Int) from he] at kE
                      rw [show wordAt x B.G a.Links[i2] = x.Edges[e].Word by unfold wordAt; rw [he, Int.toNat_natCast, edAt_of he2]] at kD
                      obtain ⟨bl, ol, rfl, k0, k1, k2, k3⟩ := hx2.at he2
                      have hS := hSl
                      have hS := hS.drew
                      refine CW.draw 14 (.ex 0 <| .ex 1 <| .ex 2 <| .ex 3 <| .ex 4 <| .ex 5 <| .ex 6 <| .ex 7 <| .ex 8 <| .ex 9 <| .ex 10 <| .ex 11 <| .ex 12 <| .ex 13 <| .done) [] (Rd _ _) mixed (by kernel_rfl) rfl rfl hS.rd ?_
                      refine PW.ex rfl rfl rfl rfl (Ex.move rfl) ?_
                      refine PW.ex rfl rfl rfl rfl (Ex.move rfl) ?_
                      refine PW.ex rfl rfl rfl rfl (Ex.indexSl Try.underlying31 ti3 rfl rfl rfl (by omega)) ?_
                      refine PW.ex rfl rfl rfl rfl (Ex.load1 ti3 rfl rfl (by first | exact obT rfl | exact Rd.imm ‹_› | exact slT ‹_›)) ?_
                      refine PW.ex rfl rfl rfl rfl (Ex.fieldO 1 Try.underlying38 rfl rfl ti36 rfl) ?_
                      refine PW.ex rfl rfl rfl rfl (Ex.load1 ti36 rfl rfl (by first | exact obT rfl | exact Rd.imm ‹_› | exact slT ‹_›)) ?_
                      refine PW.ex rfl rfl rfl rfl (Ex.move rfl) ?_
                      refine PW.ex rfl rfl rfl rfl (Ex.move rfl) ?_
                      refine PW.ex rfl rfl rfl rfl (Ex.indexSl Try.underlying31 ti3 rfl rfl rfl (by omega)) ?_
                      refine PW.ex rfl rfl rfl rfl (Ex.load1 ti3 rfl rfl (by first | exact obT rfl | exact Rd.imm ‹_› | exact slT ‹_›)) ?_
                      refine PW.ex rfl rfl rfl rfl (Ex.indexSl Try.underlying36 ti43 rfl rfl rfl (by omega)) ?_
                      refine PW.ex rfl rfl rfl rfl (Ex.fieldO 2 Try.underlying43 rfl rfl ti3 rfl) ?_
                      refine PW.ex rfl rfl rfl rfl (Ex.load1 ti3 rfl rfl (by first | exact obT rfl | exact Rd.imm ‹_› | exact slT ‹_›)) ?_
                      refine PW.ex rfl rfl rfl rfl (Ex.neq rfl rfl rfl) ?_
                      refine PW.splitB (fun h21_13 => ?_) (fun h21_13 => ?_)
                      · have h21_13 := of_decide_eq_true h21_13
                        exact absurd rfl h21_13
                      · have h21_13 := of_decide_eq_false h21_13
                        refine PW.nil ?_
                        refine LW.nil fun aa ha => hK26 _ _ _ ?_ aa ha
                        refine CW.no rfl ?_
                        refine CW.skip fun aa ha => hK25 _ _ _ ?_ aa ha
                        refine CW.region [0, 1, 2] rfl ?_
                        refine LW.ex rfl rfl rfl rfl (Ex.move rfl) hS.rd ?_
                        refine LW.ex rfl rfl rfl rfl (Ex.add rfl rfl (by first | exact inc64 (by omega) | exact addN (by omega) | exact w64 (by omega) (by omega))) hS.rd ?_
                        refine LW.ex rfl rfl rfl rfl (Ex.assign rfl) hS.rd ?_
                        refine LW.nil fun aa ha => ?_
                        refine ⟨_, _, ?m19, ⟨i2 + 1, (by first | omega | (simp; done) | (simp; omega)), rfl, rfl, hS⟩, ha.sub ⟨rfl, rfl, rfl, rfl, rfl, rfl, rfl, rfl, rfl, rfl, trivial⟩⟩
                        case m19 => omega
                    · have h19_3 := of_decide_eq_false h19_3
                      refine LW.nil fun aa ha => hK24 _ _ _ ?_ aa ha
                      refine CW.no rfl ?_
                      refine CW.exit fun aa ha => hK21 _ _ _ ?_ aa ha
                      refine CW.seq fun K27 hK27 => ?_
                      refine CW.region [0] rfl ?_
                      refine LW.ex rfl rfl rfl rfl (Ex.assign rfl) hS.rd ?_
                      refine LW.nil fun aa ha => hK27 _ _ _ ?_ aa ha
                      refine CW.block ?_
                      refine CW.loop (fun qq frm wl24 => ∃ (i4 : Nat), i4 ≤ j ∧ qq = j - i4 ∧ frm = [(7, .bool true), (8, .pointer (some ⟨b8, 0, none⟩)), (9, .pointer (some ⟨b9, 0, none⟩)), (10, .int .i64 pv), (11, .pointer (some ⟨b11, 0, none⟩)), (12, .slice (some ⟨bA, oA, none⟩) A.length cA), (14, .int .i64 j), (15, .slice adE (a.Links.map (lbl B.G)).length cE), (20, .int .i64 i4)] ∧ St w wl24 μ123 [Own.obj b11 [.int .i64 B.G.N, .slice p0 B.G.Links.length q0, .slice p1 B.Last.length q1, .int .i64 B.E] 49, Own.obj b9 [.int .i64 x.N, .slice ax x.Edges.length cx] 38, Own.obj b8 [.slice a0 m.Words.length c0, .slice a1 m.Counts.length c1, .slice a2 m.Pairs.length c2, .int .i64 m.Back] 34, Own.obj b5 (b2L q) 62, Own.obj b4 [.slice r0 y.Words.length d0, .slice r1 y.Counts.length d1, .slice r2 y.Uses.length d2, .int .u8 y.Back.toNat] 27]) _ ⟨0, (by first | omega | (simp; done) | (simp; omega)), rfl, rfl, hS⟩ ⟨rfl, rfl, rfl, rfl, rfl, rfl, rfl, rfl, rfl, trivial⟩ ?_
                      clear hS
                      rintro qq frm wl24 ⟨i4, hi4, hq, rfl, hS⟩
                      refine CW.seq fun K28 hK28 => ?_
                      refine CW.seq fun K29 hK29 => ?_
                      refine CW.region [0, 1, 2] rfl ?_
                      refine LW.ex rfl rfl rfl rfl (Ex.move rfl) hS.rd ?_
                      refine LW.ex rfl rfl rfl rfl (Ex.move rfl) hS.rd ?_
                      refine LW.ex rfl rfl rfl rfl (Ex.lss rfl rfl rfl) hS.rd ?_
                      refine LW.splitB (fun h24_2 => ?_) (fun h24_2 => ?_)
                      · have h24_2 := of_decide_eq_true h24_2
                        refine LW.nil fun aa ha => hK29 _ _ _ ?_ aa ha
                        refine CW.yes rfl ?_
                        refine CW.skip fun aa ha => hK28 _ _ _ ?_ aa ha
                        refine CW.seq fun K30 hK30 => ?_
                        refine CW.block ?_
                        refine CW.seq fun K31 hK31 => ?_
                        have hi5 : i4 < j := by omega
                        have hi6 : i4 < A.length := by omega
                        obtain ⟨_, _, eA, ⟨adq, cq, g0, g1⟩, g2⟩ := hsA.at hi6
                        cases eA
                        have hpq := hI.pa _ (List.getElem_mem hi6)
                        have hlq := seg_links hpq.seg
                        have hnq := seg_len hg hpq.seg
                        have hdf := hI.differ hi6 hj2 hi5
                        obtain ⟨a', hae'⟩ : ∃ a, a = A[i4] := ⟨_, rfl⟩
                        rw [← hae'] at g0 g1 g2 hlq hnq hpq hdf
                        rw [← hae] at hdf
                        have hS := hS.drew
                        refine CW.draw 9 (.ex 0 <| .ex 1 <| .ex 2 <| .ex 3 <| .ex 4 <| .ex 5 <| .ex 6 <| .one 7 <| .one 8 <| .done) [] (Rd _ _) mixed (by kernel_rfl) rfl rfl hS.rd ?_
                        refine PW.ex rfl rfl rfl rfl (Ex.move rfl) ?_
                        refine PW.ex rfl rfl rfl rfl (Ex.fieldO 0 Try.underlying49 rfl rfl ti46 rfl) ?_
                        refine PW.ex rfl rfl rfl rfl (Ex.load2c ti46 rfl rfl (by first | exact obT rfl | exact Rd.imm ‹_› | exact slT ‹_›) (by first | exact obT rfl | exact Rd.imm ‹_› | exact slT ‹_›)) ?_
                        refine PW.ex rfl rfl rfl rfl (Ex.move rfl) ?_
                        refine PW.ex rfl rfl rfl rfl (Ex.move rfl) ?_
                        refine PW.ex rfl rfl rfl rfl (Ex.indexSl Try.underlying76 ti58 rfl rfl rfl (by omega)) ?_
                        refine PW.ex rfl rfl rfl rfl (Ex.load2c ti58 rfl rfl (by first | exact obT rfl | exact Rd.imm ‹_› | exact slT ‹_›) (by first | exact obT rfl | exact Rd.imm ‹_› | exact slT ‹_›)) ?_
                        refine PW.hv rfl rfl rfl rfl (Hv.callV hS rfl rfl rfl cb25 (labels_c B.G a'.Links a'.Cost hlq (by omega) _ _ _ _ _ _ hS.imm hs0 g1)) (fun _ _ ⟨_, _, hm, h⟩ => Rd.le hm h.rd) fun v w161 ⟨μ161, hv161, hm161, hS⟩ => ?_
                        obtain ⟨adF, cF, hv, hsF⟩ := hv161
                        subst hv
                        refine PW.hv rfl rfl rfl rfl (Hv.callS hS rfl rfl rfl cb18 (ints_c (a.Links.map (lbl B.G)) (a'.Links.map (lbl B.G)) _ _ _ _ μ161 _ hS.imm (hsE.mono hm161) hsF)) (fun _ _ h => Rd.le hm161 (h.2.rd)) fun v w162 ⟨hv, hS⟩ => ?_
                        subst hv
                        refine PW.splitB (fun h26_8 => ?_) (fun h26_8 => ?_)
                        · exact (hdf (seg_labels hso hpq.seg hpj.seg (of_decide_eq_true h26_8).symm)).elim
                        · skip
                          refine PW.nil ?_
                          refine LW.nil fun aa ha => hK31 _ _ _ ?_ aa ha
                          refine CW.no rfl ?_
                          refine CW.skip fun aa ha => hK30 _ _ _ ?_ aa ha
                          refine CW.region [0, 1, 2] rfl ?_
                          refine LW.ex rfl rfl rfl rfl (Ex.move rfl) hS.rd ?_
                          refine LW.ex rfl rfl rfl rfl (Ex.add rfl rfl (by first | exact inc64 (by omega) | exact addN (by omega) | exact w64 (by omega) (by omega))) hS.rd ?_
                          refine LW.ex rfl rfl rfl rfl (Ex.assign rfl) hS.rd ?_
                          refine LW.nil fun aa ha => ?_
                          have hS := st_le hm161 hS
                          refine ⟨_, _, ?m24, ⟨i4 + 1, (by first | omega | (simp; done) | (simp; omega)), rfl, rfl, hS⟩, ha.sub ⟨rfl, rfl, rfl, rfl, rfl, rfl, rfl, rfl, rfl, trivial⟩⟩
                          case m24 => omega
                      · have h24_2 := of_decide_eq_false h24_2
                        refine LW.nil fun aa ha => hK29 _ _ _ ?_ aa ha
                        refine CW.no rfl ?_
                        refine CW.exit fun aa ha => hK13 _ _ _ ?_ aa ha
                        refine CW.region [0, 1, 2] rfl ?_
                        refine LW.ex rfl rfl rfl rfl (Ex.move rfl) hS.rd ?_
                        refine LW.ex rfl rfl rfl rfl (Ex.add rfl rfl (by first | exact inc64 (by omega) | exact addN (by omega) | exact w64 (by omega) (by omega))) hS.rd ?_
                        refine LW.ex rfl rfl rfl rfl (Ex.assign rfl) hS.rd ?_
                        refine LW.nil fun aa ha => ?_
                        have hS := st_le hm85 (st_le hm123 hS)
                        refine ⟨_, _, ?m9, ⟨j + 1, (by first | omega | (simp; done) | (simp; omega)), rfl, rfl, hS⟩, ha.sub ⟨rfl, rfl, rfl, rfl, rfl, rfl, rfl, trivial⟩⟩
                        case m9 => omega
            · have h9_3 := of_decide_eq_false h9_3
              refine LW.nil fun aa ha => hK12 _ _ _ ?_ aa ha
              refine CW.no rfl ?_
              refine CW.exit fun aa ha => hK9 _ _ _ ?_ aa ha
              refine CW.seq fun K32 hK32 => ?_
              refine CW.region [0, 1] rfl ?_
              refine LW.ex rfl rfl rfl rfl (Ex.move rfl) hS.rd ?_
              refine LW.ex rfl rfl rfl rfl (Ex.assign rfl) hS.rd ?_
              refine LW.nil fun aa ha => hK32 _ _ _ ?_ aa ha
              refine CW.ret fun aa ha => ?_
              refine ret_one ha Try.results8 rfl ?_
              exact hS.retS
  have hS := hS.drew
  refine CW.drawP 17 [7, 8, 9, 10, 11, 12, 13, 14, 15] (.ex 0 <| .ex 1 <| .ex 2 <| .ex 3 <| .ex 4 <| .ex 5 <| .pu 7 <| .pu 8 <| .pu 9 <| .pu 10 <| .pu 11 <| .pu 12 <| .pu 13 <| .pu 14 <| .pu 15 <| .two 6 (.one 16 <| .done) 16 (.one 6 <| .done)) [17, 18] (Rd _ _) (Rd _ _) mixed (by kernel_rfl) rfl rfl hS.rd hS.rd ?_
  refine QW.ex rfl rfl rfl rfl (Ex.move rfl) ?_
  refine QW.ex rfl rfl rfl rfl (Ex.indexArr (j := 0) Try.underlying62 ti5 rfl rfl rfl (by omega)) ?_
  refine QW.ex rfl rfl rfl rfl (Ex.load1 ti5 rfl rfl (by first | exact obT rfl | exact Rd.imm ‹_› | exact slT ‹_›)) ?_
  refine QW.ex rfl rfl rfl rfl (Ex.fieldO 0 Try.underlying34 rfl rfl ti30 rfl) ?_
  refine QW.ex rfl rfl rfl rfl (Ex.load1 ti30 rfl rfl (by first | exact obT rfl | exact Rd.imm ‹_› | exact slT ‹_›)) ?_
  refine QW.ex rfl rfl rfl rfl (Ex.lenSl rfl Try.underlying30 rfl) ?_
  refine QW.pu rfl rfl rfl rfl (Ex.indexArr (j := 1) Try.underlying62 ti5 rfl rfl rfl (by omega)) ?_
  refine QW.pu rfl rfl rfl rfl (Ex.load1 ti5 rfl rfl (by first | exact obT rfl | exact Rd.imm ‹_› | exact slT ‹_›)) ?_
  refine QW.pu rfl rfl rfl rfl (Ex.conv Try.underlying5 Try.underlying3 rfl (by first | exact w64 (by omega) (by omega) | exact wu8 (by omega) (by omega))) ?_
  refine QW.pu rfl rfl rfl rfl (Ex.fieldO 0 Try.underlying34 rfl rfl ti30 rfl) ?_
  refine QW.pu rfl rfl rfl rfl (Ex.load1 ti30 rfl rfl (by first | exact obT rfl | exact Rd.imm ‹_› | exact slT ‹_›)) ?_
  refine QW.pu rfl rfl rfl rfl (Ex.lenSl rfl Try.underlying30 rfl) ?_
  refine QW.pu rfl rfl rfl rfl (Ex.add (r := ((m.Words.length + 1 : Nat) : Int)) rfl rfl (by rw [w64 (by omega) (by omega)]; omega)) ?_
  refine QW.pu rfl rfl rfl rfl (Ex.rem (r := ((q.b.toNat % (m.Words.length + 1) : Nat) : Int)) rfl rfl (by omega) (remN _ _)) ?_
  refine QW.pu rfl rfl rfl rfl (Ex.sub (r := pv) rfl rfl (by rw [hpv]; exact w64 (by omega) (by omega))) ?_
  refine QW.two rfl rfl rfl rfl rfl rfl rfl rfl (Hv.callM rfl rfl rfl cb11 (madeX_m l q.a m.Words.length (by omega) (by omega) _ _ hS sl)) (fun _ _ ⟨_, _, _, h⟩ => h.rd.tail) (fun _ _ ⟨_, _, _, h⟩ => h.rd.tail) (Hv.alloc ti38 hS) (fun _ _ ⟨_, _, _, h⟩ => h.rd.tail) (fun _ _ ⟨_, _, _, h⟩ => h.rd.tail) (fun v w30 ⟨ax, cx, hv, hS⟩ => ?gA33) (fun v w9 ⟨b9, hv, hb9, hS⟩ => ?gB33)
  case gA33 =>
    skip
    subst hv
    rw [← hx] at hS ⊢
    refine QW.hv rfl rfl rfl rfl (Hv.alloc ti38 hS) (fun _ _ ⟨_, _, _, h⟩ => h.rd.tail.tail) (fun _ _ ⟨_, _, _, h⟩ => h.rd.tail.tail) fun v w9 ⟨b9, hv, hb9, hS⟩ => ?_
    subst hv
    refine QW.nil ?_
    first | (have hS := (hS : St w _ _ (Own.obj b9 _ _ :: _))) | (have hS := hS.swap)
    refine TW.hu rfl rfl rfl (Hv.storeN (k := 0) ti38 hS rfl rfl rfl rfl (by simp [Value.oneCell'])) (fun _ _ h => (h.rd.erase 0).tail) fun _ w_17 hS => ?_
    dsimp only [List.set] at hS
    refine TW.ex rfl rfl rfl rfl (Ex.assign rfl) hS.rd ?_
    refine TW.nil fun aa ha => ?_
    have hS := hS.swap
    refine hJr3 _ (b9) (ax) (cx) hS  aa (ha.sub ⟨rfl, rfl, rfl, rfl, trivial⟩)
  case gB33 =>
    skip
    subst hv
    refine QW.hv rfl rfl rfl rfl (Hv.callM rfl rfl rfl cb11 (madeX_m l q.a m.Words.length (by omega) (by omega) _ _ hS sl)) (fun _ _ ⟨_, _, _, h⟩ => h.rd.tail.tail) (fun _ _ ⟨_, _, _, h⟩ => h.rd.tail.tail) fun v w30 ⟨ax, cx, hv, hS⟩ => ?_
    subst hv
    rw [← hx] at hS ⊢
    refine QW.nil ?_
    first | (have hS := (hS : St w _ _ (Own.obj b9 _ _ :: _))) | (have hS := hS.swap)
    refine TW.hu rfl rfl rfl (Hv.storeN (k := 0) ti38 hS rfl rfl rfl rfl (by simp [Value.oneCell'])) (fun _ _ h => (h.rd.erase 0).tail) fun _ w_17 hS => ?_
    dsimp only [List.set] at hS
    refine TW.ex rfl rfl rfl rfl (Ex.assign rfl) hS.rd ?_
    refine TW.nil fun aa ha => ?_
    have hS := hS.swap
    refine hJr3 _ (b9) (ax) (cx) hS  aa (ha.sub ⟨rfl, rfl, rfl, rfl, trivial⟩)
end Go.Proofs.Ytgnpjhellmfhoaa

/-
  Data: structures, how they lie in memory, and how a statement's reader finds them.
-/
namespace Go.Proofs.Ytgnpjhellmfhoaa
open Go.RowKit Sy Go.ChangeShapes Go.WideShapes Go.ChangeAt
set_option maxRecDepth 100000

structure Q4 where
  a : UInt8
  b : UInt8
  c : UInt8
  d : UInt8
  deriving DecidableEq, Inhabited
instance : El Q4 := ⟨4, fun _ f x => f 0 = some (.int .u8 x.a.toNat) ∧ f 1 = some (.int .u8 x.b.toNat) ∧ f 2 = some (.int .u8 x.c.toNat) ∧ f 3 = some (.int .u8 x.d.toNat), fun _ hf h => ⟨hf _ _ h.1, hf _ _ h.2.1, hf _ _ h.2.2.1, hf _ _ h.2.2.2⟩⟩
end Go.Proofs.Ytgnpjhellmfhoaa
