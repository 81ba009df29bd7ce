import Derived.Test.YtgnpjhellmfhoaaB13

/-
  Context: the walk of the statement's fixed examples.
-/
namespace Go.Proofs.Ytgnpjhellmfhoaa
open Go.RowKit Sy

theorem cc_c (x : Lat) (p : Int) (es : List Int) (r : Int × Bool) (hr : costR x m0 p es = r) (hsm : ∀ e ∈ x.Edges, -1099511627776 ≤ e.To ∧ e.To ≤ 1099511627776) (hes : es.length ≤ 1000000)
    (a0 a1 a3 a4 : Option Addr) (c0 c1 c3 c4 : Nat) (μ : Mem) (w : World) (hμ : Imm μ w) (hxl : Sl μ a3 c3 x.Edges) (hm0 : Sl μ a0 c0 m0.Words) (hm1 : Sl μ a1 c1 m0.Counts) (hel : Sl μ a4 c4 es) :
    Calls Try.prog 15 #[.agg #[.int .i64 x.N, .slice a3 x.Edges.length c3], .agg #[.slice a0 3 c0, .slice a1 3 c1, .slice none 0 0, .int .i64 0], .int .i64 p, .slice a4 es.length c4] w (RetS w (.tuple #[.int .i64 r.1, .bool r.2])) := by
  rw [← hr]
  exact ccost_c x m0 p es m0_words hsm hes a0 a1 none a3 a4 c0 c1 0 c3 c4 μ w hμ hxl hm0 hm1 (Sl.nil _ _ _ (by simp [maxLen])) hel
theorem linksIn0 : LinksIn x0 bW.G [0, 2] := ⟨by decide, by decide⟩
set_option maxRecDepth 100000 in
set_option maxHeartbeats 2000000 in
theorem sanity_c (w : World) : Calls Try.prog 9 #[] w (RetS w (.bool true)) := by
  have hS := St.start w (fun _ => none) (fun _ _ h => by cases h)
  refine calls_start 132 [] Try.func9 rfl Try.ntmps9 rfl rfl ?_
  refine CW.seq fun K1 hK1 => ?_
  refine CW.region [0] rfl ?_
  refine LW.ex rfl rfl rfl rfl (Ex.assign rfl) hS.rd ?_
  refine LW.nil fun aa ha => hK1 _ _ _ ?_ aa ha
  refine CW.seq fun K2 hK2 => ?_
  refine CW.region [0, 1, 2, 3, 4, 5, 6] rfl ?_
  refine LW.ex rfl rfl rfl rfl (Ex.buildS st43 rfl rfl rfl) hS.rd ?_
  refine LW.ex rfl rfl rfl rfl (Ex.buildS st43 rfl rfl rfl) hS.rd ?_
  refine LW.ex rfl rfl rfl rfl (Ex.buildS st43 rfl rfl rfl) hS.rd ?_
  refine LW.hv rfl rfl rfl rfl (Hv.buildSl hS Try.underlying36 ti43 rfl rfl rfl rfl rfl rfl) fun v w19 ⟨b19, hv, hb19, hS⟩ => ?_
  subst hv
  obtain ⟨μ2, hm2, hS, hx2⟩ := hS.shutRow (k := 0) (xs := x0.Edges) rfl (edgeReps _ x0.Edges) (by decide)
  dsimp only [List.eraseIdx] at hS
  refine LW.ex rfl rfl rfl rfl (Ex.buildS st38 rfl rfl rfl) hS.rd ?_
  refine LW.hv rfl rfl rfl rfl (Hv.alloc ti38 hS) fun v w1 ⟨b1, hv, hb1, hS⟩ => ?_
  subst hv
  refine LW.hu rfl rfl rfl (Hv.storeN (k := 0) ti38 hS rfl rfl rfl rfl (by simp [Value.oneCell'])) fun _ w_6 hS => ?_
  dsimp only [List.set] at hS
  refine LW.nil fun aa ha => hK2 _ _ _ ?_ aa ha
  refine CW.seq fun K3 hK3 => ?_
  refine CW.region [0, 1, 2, 3, 4] rfl ?_
  refine LW.hv rfl rfl rfl rfl (Hv.buildSl hS Try.underlying30 ti9 rfl rfl rfl rfl rfl rfl) fun v w21 ⟨b21, hv, hb21, hS⟩ => ?_
  subst hv
  refine LW.hv rfl rfl rfl rfl (Hv.buildSl hS Try.underlying31 ti3 rfl rfl rfl rfl rfl rfl) fun v w22 ⟨b22, hv, hb22, hS⟩ => ?_
  subst hv
  obtain ⟨μ3, hm3, hS, hw3⟩ := hS.shutRow (k := 1) (xs := m0.Words) rfl (RepL.strs _ m0.Words) (by decide)
  dsimp only [List.eraseIdx] at hS
  obtain ⟨μ4, hm4, hS, hc4⟩ := hS.shutRow (k := 0) (xs := m0.Counts) rfl (RepL.ints _ m0.Counts) (by decide)
  dsimp only [List.eraseIdx] at hS
  have hx4 : Sl μ4 _ 3 x0.Edges := (hx2.mono hm3).mono hm4
  have hw4 : Sl μ4 _ 3 m0.Words := hw3.mono hm4
  refine LW.ex rfl rfl rfl rfl (Ex.buildS st34 rfl rfl rfl) hS.rd ?_
  refine LW.hv rfl rfl rfl rfl (Hv.alloc ti34 hS) fun v w2 ⟨b2, hv, hb2, hS⟩ => ?_
  subst hv
  refine LW.hu rfl rfl rfl (Hv.storeN (k := 0) ti34 hS rfl rfl rfl rfl (by simp [Value.oneCell'])) fun _ w_4 hS => ?_
  dsimp only [List.set] at hS
  refine LW.nil fun aa ha => hK3 _ _ _ ?_ aa ha
  refine CW.seq fun K4 hK4 => ?_
  have hJr3 : ∀ (wj : World) (b3 : Nat) (b4 : Nat) (p0 p1 p2 p3 : Option Addr) (q0 q1 q2 q3 : Nat) (μ5 : Mem), St w wj μ5 [Own.obj b4 [.int .i64 1, .slice p2 0 q2, .slice p3 1 q3, .int .i64 0] 49, Own.obj b3 [.int .i64 3, .slice p0 3 q0, .slice p1 3 q1, .int .i64 0] 49, Own.obj b2 [.slice (some ⟨b21, 0, none⟩) 3 3, .slice (some ⟨b22, 0, none⟩) 3 3, .slice none 0 0, .int .i64 0] 34, Own.obj b1 [.int .i64 2, .slice (some ⟨b19, 0, none⟩) 3 3] 38] → (Sl μ5 (some ⟨b19, 0, none⟩) 3 x0.Edges) → (Sl μ5 (some ⟨b21, 0, none⟩) 3 m0.Words) → (Sl μ5 (some ⟨b22, 0, none⟩) 3 m0.Counts) → (Sl μ5 p0 q0 bW.G.Links) → (Sl μ5 p1 q1 bW.Last) → (Sl μ5 p2 q2 ([] : List Link)) → (Sl μ5 p3 q3 [(2 : Int)]) → KW K4 132 [(1, .pointer (some ⟨b1, 0, none⟩)), (2, .pointer (some ⟨b2, 0, none⟩)), (3, .pointer (some ⟨b3, 0, none⟩)), (4, .pointer (some ⟨b4, 0, none⟩))] wj := by
    intro wj b3 b4 p0 p1 p2 p3 q0 q1 q2 q3 μ5 hS hx5 hw5 hc5 hs0 hs1 hs2 hs3
    refine hK4 _ _ _ ?_
    refine CW.seq fun K5 hK5 => ?_
    refine CW.region [0, 1, 2, 3, 4, 5, 6, 7, 8] rfl ?_
    refine LW.ex rfl rfl rfl rfl (Ex.buildS st66 rfl rfl rfl) hS.rd ?_
    refine LW.ex rfl rfl rfl rfl (Ex.buildS st66 rfl rfl rfl) hS.rd ?_
    refine LW.ex rfl rfl rfl rfl (Ex.buildS st66 rfl rfl rfl) hS.rd ?_
    refine LW.hv rfl rfl rfl rfl (Hv.buildSl hS Try.underlying44 ti66 rfl rfl rfl rfl rfl rfl) fun v w33 ⟨b33, hv, hb33, hS⟩ => ?_
    subst hv
    refine LW.ex rfl rfl rfl rfl (Ex.buildS st46 rfl rfl rfl) hS.rd ?_
    refine LW.hv rfl rfl rfl rfl (Hv.buildSl hS Try.underlying31 ti3 rfl rfl rfl rfl rfl rfl) fun v w35 ⟨b35, hv, hb35, hS⟩ => ?_
    subst hv
    obtain ⟨μ6, hm6, hS, hl6⟩ := hS.shutRow (k := 1) (xs := bW.G.Links) rfl (linkReps _ bW.G.Links) (by decide)
    dsimp only [List.eraseIdx] at hS
    obtain ⟨μ7, hm7, hS, ht7⟩ := hS.shutRow (k := 0) (xs := bW.Last) rfl (RepL.ints _ bW.Last) (by decide)
    dsimp only [List.eraseIdx] at hS
    have hx7 := (hx5.mono hm6).mono hm7
    have hw7 := (hw5.mono hm6).mono hm7
    have hc7 := (hc5.mono hm6).mono hm7
    have hs0 := (hs0.mono hm6).mono hm7
    have hs1 := (hs1.mono hm6).mono hm7
    have hs2 := (hs2.mono hm6).mono hm7
    have hs3 := (hs3.mono hm6).mono hm7
    have hl7 := hl6.mono hm7
    refine LW.ex rfl rfl rfl rfl (Ex.buildS st49 rfl rfl rfl) hS.rd ?_
    refine LW.hv rfl rfl rfl rfl (Hv.alloc ti49 hS) fun v w5 ⟨b5, hv, hb5, hS⟩ => ?_
    subst hv
    refine LW.hu rfl rfl rfl (Hv.storeN (k := 0) ti49 hS rfl rfl rfl rfl (by simp [Value.oneCell'])) fun _ w_8 hS => ?_
    dsimp only [List.set] at hS
    refine LW.nil fun aa ha => hK5 _ _ _ ?_ aa ha
    refine CW.seq fun K6 hK6 => ?_
    refine CW.region [0, 1, 2, 3, 4, 5, 6, 7, 8] rfl ?_
    refine LW.ex rfl rfl rfl rfl (Ex.load2c ti38 rfl rfl (by first | exact obT rfl | exact Rd.imm ‹_› | exact slT ‹_›) (by first | exact obT rfl | exact Rd.imm ‹_› | exact slT ‹_›)) hS.rd ?_
    refine LW.ex rfl rfl rfl rfl (Ex.load4c ti34 rfl rfl (by first | exact obT rfl | exact Rd.imm ‹_› | exact slT ‹_›) (by first | exact obT rfl | exact Rd.imm ‹_› | exact slT ‹_›) (by first | exact obT rfl | exact Rd.imm ‹_› | exact slT ‹_›) (by first | exact obT rfl | exact Rd.imm ‹_› | exact slT ‹_›)) hS.rd ?_
    refine LW.hv rfl rfl rfl rfl (Hv.buildSl hS Try.underlying31 ti3 rfl rfl rfl rfl rfl rfl) fun v w40 ⟨b40, hv, hb40, hS⟩ => ?_
    subst hv
    refine LW.hv rfl rfl rfl rfl (Hv.callS hS rfl rfl rfl cb15 (cc_c x0 (-1) [0, 2] (25, true) c0_eq x0_small (by decide) _ _ _ _ _ _ _ _ (memOf _) _ (imm_memOf _) (hx7.mono hS.imm.ext) (hw7.mono hS.imm.ext) (hc7.mono hS.imm.ext) (hS.lend_obj (k := 0) rfl (RepL.ints _ [0, 2]) (by decide)))) fun v w41 ⟨hv, hS⟩ => ?_
    subst hv
    refine LW.ex rfl rfl rfl rfl (Ex.move rfl) hS.rd ?_
    refine LW.ex rfl rfl rfl rfl (Ex.extract rfl rfl) hS.rd ?_
    refine LW.ex rfl rfl rfl rfl (Ex.extract rfl rfl) hS.rd ?_
    refine LW.ex rfl rfl rfl rfl (Ex.assign rfl) hS.rd ?_
    refine LW.ex rfl rfl rfl rfl (Ex.assign rfl) hS.rd ?_
    refine LW.nil fun aa ha => hK6 _ _ _ ?_ aa ha
    refine CW.seq fun K7 hK7 => ?_
    refine CW.region [0, 1, 2, 3, 4, 5, 6, 7, 8] rfl ?_
    refine LW.ex rfl rfl rfl rfl (Ex.load2c ti38 rfl rfl (by first | exact obT rfl | exact Rd.imm ‹_› | exact slT ‹_›) (by first | exact obT rfl | exact Rd.imm ‹_› | exact slT ‹_›)) hS.rd ?_
    refine LW.ex rfl rfl rfl rfl (Ex.load4c ti34 rfl rfl (by first | exact obT rfl | exact Rd.imm ‹_› | exact slT ‹_›) (by first | exact obT rfl | exact Rd.imm ‹_› | exact slT ‹_›) (by first | exact obT rfl | exact Rd.imm ‹_› | exact slT ‹_›) (by first | exact obT rfl | exact Rd.imm ‹_› | exact slT ‹_›)) hS.rd ?_
    refine LW.hv rfl rfl rfl rfl (Hv.buildSl hS Try.underlying31 ti3 rfl rfl rfl rfl rfl rfl) fun v w47 ⟨b47, hv, hb47, hS⟩ => ?_
    subst hv
    refine LW.hv rfl rfl rfl rfl (Hv.callS hS rfl rfl rfl cb15 (cc_c x0 (-1) [1] (14, true) c1_eq x0_small (by decide) _ _ _ _ _ _ _ _ (memOf _) _ (imm_memOf _) (hx7.mono hS.imm.ext) (hw7.mono hS.imm.ext) (hc7.mono hS.imm.ext) (hS.lend_obj (k := 0) rfl (RepL.ints _ [1]) (by decide)))) fun v w48 ⟨hv, hS⟩ => ?_
    subst hv
    refine LW.ex rfl rfl rfl rfl (Ex.move rfl) hS.rd ?_
    refine LW.ex rfl rfl rfl rfl (Ex.extract rfl rfl) hS.rd ?_
    refine LW.ex rfl rfl rfl rfl (Ex.extract rfl rfl) hS.rd ?_
    refine LW.ex rfl rfl rfl rfl (Ex.assign rfl) hS.rd ?_
    refine LW.ex rfl rfl rfl rfl (Ex.assign rfl) hS.rd ?_
    refine LW.nil fun aa ha => hK7 _ _ _ ?_ aa ha
    refine CW.seq fun K8 hK8 => ?_
    refine CW.region [0, 1, 2, 3, 4, 5, 6, 7, 8] rfl ?_
    refine LW.ex rfl rfl rfl rfl (Ex.load2c ti38 rfl rfl (by first | exact obT rfl | exact Rd.imm ‹_› | exact slT ‹_›) (by first | exact obT rfl | exact Rd.imm ‹_› | exact slT ‹_›)) hS.rd ?_
    refine LW.ex rfl rfl rfl rfl (Ex.load4c ti34 rfl rfl (by first | exact obT rfl | exact Rd.imm ‹_› | exact slT ‹_›) (by first | exact obT rfl | exact Rd.imm ‹_› | exact slT ‹_›) (by first | exact obT rfl | exact Rd.imm ‹_› | exact slT ‹_›) (by first | exact obT rfl | exact Rd.imm ‹_› | exact slT ‹_›)) hS.rd ?_
    refine LW.hv rfl rfl rfl rfl (Hv.buildSl hS Try.underlying31 ti3 rfl rfl rfl rfl rfl rfl) fun v w54 ⟨b54, hv, hb54, hS⟩ => ?_
    subst hv
    refine LW.hv rfl rfl rfl rfl (Hv.callS hS rfl rfl rfl cb15 (cc_c x0 (-1) [0] (0, false) c2_eq x0_small (by decide) _ _ _ _ _ _ _ _ (memOf _) _ (imm_memOf _) (hx7.mono hS.imm.ext) (hw7.mono hS.imm.ext) (hc7.mono hS.imm.ext) (hS.lend_obj (k := 0) rfl (RepL.ints _ [0]) (by decide)))) fun v w55 ⟨hv, hS⟩ => ?_
    subst hv
    refine LW.ex rfl rfl rfl rfl (Ex.move rfl) hS.rd ?_
    refine LW.ex rfl rfl rfl rfl (Ex.extract rfl rfl) hS.rd ?_
    refine LW.ex rfl rfl rfl rfl (Ex.extract rfl rfl) hS.rd ?_
    refine LW.ex rfl rfl rfl rfl (Ex.assign rfl) hS.rd ?_
    refine LW.ex rfl rfl rfl rfl (Ex.assign rfl) hS.rd ?_
    refine LW.nil fun aa ha => hK8 _ _ _ ?_ aa ha
    refine CW.seq fun K9 hK9 => ?_
    refine CW.region [0, 1, 2, 3, 4, 5, 6, 7] rfl ?_
    refine LW.ex rfl rfl rfl rfl (Ex.buildS st38 rfl rfl rfl) hS.rd ?_
    refine LW.ex rfl rfl rfl rfl (Ex.load4c ti34 rfl rfl (by first | exact obT rfl | exact Rd.imm ‹_› | exact slT ‹_›) (by first | exact obT rfl | exact Rd.imm ‹_› | exact slT ‹_›) (by first | exact obT rfl | exact Rd.imm ‹_› | exact slT ‹_›) (by first | exact obT rfl | exact Rd.imm ‹_› | exact slT ‹_›)) hS.rd ?_
    refine LW.hv rfl rfl rfl rfl (Hv.callS hS rfl rfl rfl cb15 (cc_c xE 2 [] (0, true) c3_eq (fun e he => by cases he) (by decide) _ _ _ _ _ _ _ _ _ _ hS.imm (Sl.nil _ _ _ (by simp [maxLen])) hw7 hc7 (Sl.nil _ _ _ (by simp [maxLen])))) fun v w61 ⟨hv, hS⟩ => ?_
    subst hv
    refine LW.ex rfl rfl rfl rfl (Ex.move rfl) hS.rd ?_
    refine LW.ex rfl rfl rfl rfl (Ex.extract rfl rfl) hS.rd ?_
    refine LW.ex rfl rfl rfl rfl (Ex.extract rfl rfl) hS.rd ?_
    refine LW.ex rfl rfl rfl rfl (Ex.assign rfl) hS.rd ?_
    refine LW.ex rfl rfl rfl rfl (Ex.assign rfl) hS.rd ?_
    refine LW.nil fun aa ha => hK9 _ _ _ ?_ aa ha
    refine CW.seq fun K10 hK10 => ?_
    refine CW.region [0, 1, 2, 3, 4, 5, 6, 7, 8, 9, 10, 11, 12, 13, 14, 15, 16, 17, 18, 19, 20, 21, 22, 23, 24, 25, 26, 27, 28, 29, 30, 31] rfl ?_
    refine LW.ex rfl rfl rfl rfl (Ex.load4c ti49 rfl rfl (by first | exact obT rfl | exact Rd.imm ‹_› | exact slT ‹_›) (by first | exact obT rfl | exact Rd.imm ‹_› | exact slT ‹_›) (by first | exact obT rfl | exact Rd.imm ‹_› | exact slT ‹_›) (by first | exact obT rfl | exact Rd.imm ‹_› | exact slT ‹_›)) hS.rd ?_
    refine LW.ex rfl rfl rfl rfl (Ex.load4c ti49 rfl rfl (by first | exact obT rfl | exact Rd.imm ‹_› | exact slT ‹_›) (by first | exact obT rfl | exact Rd.imm ‹_› | exact slT ‹_›) (by first | exact obT rfl | exact Rd.imm ‹_› | exact slT ‹_›) (by first | exact obT rfl | exact Rd.imm ‹_› | exact slT ‹_›)) hS.rd ?_
    refine LW.hv rfl rfl rfl rfl (Hv.callS hS rfl rfl rfl cb17 (sameB_c bW bW _ _ _ _ _ _ _ _ _ _ hS.imm hs0 hs1 hl7 ht7)) fun v w66 ⟨hv, hS⟩ => ?_
    subst hv
    refine LW.splitB (fun h9_2 => ?_) (fun h9_2 => ?_)
    · skip
      refine LW.ex rfl rfl rfl rfl (Ex.move rfl) hS.rd ?_
      refine LW.ex rfl rfl rfl rfl (Ex.load4c ti49 rfl rfl (by first | exact obT rfl | exact Rd.imm ‹_› | exact slT ‹_›) (by first | exact obT rfl | exact Rd.imm ‹_› | exact slT ‹_›) (by first | exact obT rfl | exact Rd.imm ‹_› | exact slT ‹_›) (by first | exact obT rfl | exact Rd.imm ‹_› | exact slT ‹_›)) hS.rd ?_
      refine LW.ex rfl rfl rfl rfl (Ex.buildS st46 rfl rfl rfl) hS.rd ?_
      refine LW.hv rfl rfl rfl rfl (Hv.buildSl hS Try.underlying31 ti3 rfl rfl rfl rfl rfl rfl) fun v w70 ⟨b70, hv, hb70, hS⟩ => ?_
      subst hv
      refine LW.ex rfl rfl rfl rfl (Ex.buildS st49 rfl rfl rfl) hS.rd ?_
      refine LW.hv rfl rfl rfl rfl (Hv.callS hS rfl rfl rfl cb17 (sameB_c ⟨⟨1, []⟩, [2], 0⟩ ⟨⟨1, []⟩, [2], 0⟩ _ _ _ _ _ _ _ _ (memOf _) _ (imm_memOf _) (hs2.mono hS.imm.ext) (hs3.mono hS.imm.ext) (Sl.nil _ _ _ (by simp [maxLen])) (hS.lend_obj (k := 0) rfl (RepL.ints _ [2]) (by decide)))) fun v w72 ⟨hv, hS⟩ => ?_
      subst hv
      refine LW.splitB (fun h9_8 => ?_) (fun h9_8 => ?_)
      · skip
        refine LW.ex rfl rfl rfl rfl (by first | exact Ex.pick_yes rfl rfl | exact Ex.pick_no rfl rfl) hS.rd ?_
        refine LW.ex rfl rfl rfl rfl (Ex.move rfl) hS.rd ?_
        refine LW.ex rfl rfl rfl rfl (Ex.load2c ti38 rfl rfl (by first | exact obT rfl | exact Rd.imm ‹_› | exact slT ‹_›) (by first | exact obT rfl | exact Rd.imm ‹_› | exact slT ‹_›)) hS.rd ?_
        refine LW.ex rfl rfl rfl rfl (Ex.load4c ti34 rfl rfl (by first | exact obT rfl | exact Rd.imm ‹_› | exact slT ‹_›) (by first | exact obT rfl | exact Rd.imm ‹_› | exact slT ‹_›) (by first | exact obT rfl | exact Rd.imm ‹_› | exact slT ‹_›) (by first | exact obT rfl | exact Rd.imm ‹_› | exact slT ‹_›)) hS.rd ?_
        refine LW.hv rfl rfl rfl rfl (Hv.callV hS rfl rfl rfl cb13 (lb3_c b19 _ _ _ _ _ _ hS.imm hx7 hw7 hc7)) fun v w77 ⟨μ77, hv77, hm77, hS⟩ => ?_
        obtain ⟨e0, d0, e1, d1, hv, _, _⟩ := hv77
        subst hv
        have hx8 := hx7.mono hm77
        have hw8 := hw7.mono hm77
        have hc8 := hc7.mono hm77
        refine LW.ex rfl rfl rfl rfl (Ex.fieldV Try.underlying49 rfl ti47 rfl rfl rfl) hS.rd ?_
        refine LW.ex rfl rfl rfl rfl (Ex.eql rfl rfl rfl) hS.rd ?_
        refine LW.splitB (fun h9_15 => ?_) (fun h9_15 => ?_)
        · have h9_15 := of_decide_eq_true h9_15
          refine LW.ex rfl rfl rfl rfl (by first | exact Ex.pick_yes rfl rfl | exact Ex.pick_no rfl rfl) hS.rd ?_
          refine LW.ex rfl rfl rfl rfl (Ex.move rfl) hS.rd ?_
          refine LW.ex rfl rfl rfl rfl (Ex.load2c ti38 rfl rfl (by first | exact obT rfl | exact Rd.imm ‹_› | exact slT ‹_›) (by first | exact obT rfl | exact Rd.imm ‹_› | exact slT ‹_›)) hS.rd ?_
          refine LW.ex rfl rfl rfl rfl (Ex.buildS st34 rfl rfl rfl) hS.rd ?_
          refine LW.hv rfl rfl rfl rfl (Hv.callV hS rfl rfl rfl cb13 (lbM_c b19 _ _ hS.imm hx8)) fun v w84 ⟨μ84, hv84, hm84, hS⟩ => ?_
          obtain ⟨e0, d0, e1, d1, hv, _, _⟩ := hv84
          subst hv
          have hx8 := hx8.mono hm84
          have hw8 := hw8.mono hm84
          have hc8 := hc8.mono hm84
          refine LW.ex rfl rfl rfl rfl (Ex.fieldV Try.underlying49 rfl ti47 rfl rfl rfl) hS.rd ?_
          refine LW.ex rfl rfl rfl rfl (Ex.eql rfl rfl rfl) hS.rd ?_
          refine LW.splitB (fun h9_22 => ?_) (fun h9_22 => ?_)
          · have h9_22 := of_decide_eq_true h9_22
            refine LW.ex rfl rfl rfl rfl (by first | exact Ex.pick_yes rfl rfl | exact Ex.pick_no rfl rfl) hS.rd ?_
            refine LW.ex rfl rfl rfl rfl (Ex.move rfl) hS.rd ?_
            refine LW.ex rfl rfl rfl rfl (Ex.buildS st38 rfl rfl rfl) hS.rd ?_
            refine LW.ex rfl rfl rfl rfl (Ex.load4c ti34 rfl rfl (by first | exact obT rfl | exact Rd.imm ‹_› | exact slT ‹_›) (by first | exact obT rfl | exact Rd.imm ‹_› | exact slT ‹_›) (by first | exact obT rfl | exact Rd.imm ‹_› | exact slT ‹_›) (by first | exact obT rfl | exact Rd.imm ‹_› | exact slT ‹_›)) hS.rd ?_
            refine LW.hv rfl rfl rfl rfl (Hv.callV hS rfl rfl rfl cb13 (lbB_c 0 _ _ _ _ _ _ hS.imm hw8 hc8)) fun v w91 ⟨μ91, hv91, hm91, hS⟩ => ?_
            obtain ⟨e0, d0, e1, d1, hv, _, _⟩ := hv91
            subst hv
            have hx8 := hx8.mono hm91
            refine LW.ex rfl rfl rfl rfl (Ex.fieldV Try.underlying49 rfl ti47 rfl rfl rfl) hS.rd ?_
            refine LW.ex rfl rfl rfl rfl (Ex.eql rfl rfl rfl) hS.rd ?_
            refine LW.splitB (fun h9_29 => ?_) (fun h9_29 => ?_)
            · have h9_29 := of_decide_eq_true h9_29
              refine LW.ex rfl rfl rfl rfl (by first | exact Ex.pick_yes rfl rfl | exact Ex.pick_no rfl rfl) hS.rd ?_
              refine LW.ex rfl rfl rfl rfl (Ex.assign rfl) hS.rd ?_
              refine LW.nil fun aa ha => hK10 _ _ _ ?_ aa ha
              refine CW.seq fun K11 hK11 => ?_
              refine CW.region [0, 1, 2, 3, 4, 5, 6, 7, 8, 9, 10, 11, 12, 13, 14, 15, 16, 17, 18, 19, 20, 21, 22, 23] rfl ?_
              refine LW.ex rfl rfl rfl rfl (Ex.move rfl) hS.rd ?_
              refine LW.ex rfl rfl rfl rfl (Ex.eql rfl rfl (decide_eq_true (by omega))) hS.rd ?_
              refine LW.ex rfl rfl rfl rfl (Ex.move rfl) hS.rd ?_
              refine LW.ex rfl rfl rfl rfl (Ex.move rfl) hS.rd ?_
              refine LW.ex rfl rfl rfl rfl (by first | exact Ex.pick_yes rfl rfl | exact Ex.pick_no rfl rfl) hS.rd ?_
              refine LW.ex rfl rfl rfl rfl (Ex.move rfl) hS.rd ?_
              refine LW.ex rfl rfl rfl rfl (Ex.move rfl) hS.rd ?_
              refine LW.ex rfl rfl rfl rfl (Ex.eql rfl rfl (decide_eq_true (by omega))) hS.rd ?_
              refine LW.ex rfl rfl rfl rfl (by first | exact Ex.pick_yes rfl rfl | exact Ex.pick_no rfl rfl) hS.rd ?_
              refine LW.ex rfl rfl rfl rfl (Ex.move rfl) hS.rd ?_
              refine LW.ex rfl rfl rfl rfl (Ex.move rfl) hS.rd ?_
              refine LW.ex rfl rfl rfl rfl (by first | exact Ex.pick_yes rfl rfl | exact Ex.pick_no rfl rfl) hS.rd ?_
              refine LW.ex rfl rfl rfl rfl (Ex.move rfl) hS.rd ?_
              refine LW.ex rfl rfl rfl rfl (Ex.move rfl) hS.rd ?_
              refine LW.ex rfl rfl rfl rfl (Ex.not rfl rfl) hS.rd ?_
              refine LW.ex rfl rfl rfl rfl (by first | exact Ex.pick_yes rfl rfl | exact Ex.pick_no rfl rfl) hS.rd ?_
              refine LW.ex rfl rfl rfl rfl (Ex.move rfl) hS.rd ?_
              refine LW.ex rfl rfl rfl rfl (Ex.move rfl) hS.rd ?_
              refine LW.ex rfl rfl rfl rfl (Ex.eql rfl rfl (decide_eq_true (by omega))) hS.rd ?_
              refine LW.ex rfl rfl rfl rfl (by first | exact Ex.pick_yes rfl rfl | exact Ex.pick_no rfl rfl) hS.rd ?_
              refine LW.ex rfl rfl rfl rfl (Ex.move rfl) hS.rd ?_
              refine LW.ex rfl rfl rfl rfl (Ex.move rfl) hS.rd ?_
              refine LW.ex rfl rfl rfl rfl (by first | exact Ex.pick_yes rfl rfl | exact Ex.pick_no rfl rfl) hS.rd ?_
              refine LW.ex rfl rfl rfl rfl (Ex.assign rfl) hS.rd ?_
              refine LW.nil fun aa ha => hK11 _ _ _ ?_ aa ha
              refine CW.seq fun K12 hK12 => ?_
              refine CW.region [0, 1, 2, 3, 4, 5, 6, 7, 8, 9, 10, 11, 12, 13, 14] rfl ?_
              refine LW.ex rfl rfl rfl rfl (Ex.move rfl) hS.rd ?_
              refine LW.ex rfl rfl rfl rfl (Ex.move rfl) hS.rd ?_
              refine LW.ex rfl rfl rfl rfl (Ex.move rfl) hS.rd ?_
              refine LW.ex rfl rfl rfl rfl (by first | exact Ex.pick_yes rfl rfl | exact Ex.pick_no rfl rfl) hS.rd ?_
              refine LW.ex rfl rfl rfl rfl (Ex.move rfl) hS.rd ?_
              refine LW.ex rfl rfl rfl rfl (Ex.load2c ti38 rfl rfl (by first | exact obT rfl | exact Rd.imm ‹_› | exact slT ‹_›) (by first | exact obT rfl | exact Rd.imm ‹_› | exact slT ‹_›)) hS.rd ?_
              refine LW.ex rfl rfl rfl rfl (Ex.fieldO 0 Try.underlying49 rfl rfl ti46 rfl) hS.rd ?_
              refine LW.ex rfl rfl rfl rfl (Ex.load2c ti46 rfl rfl (by first | exact obT rfl | exact Rd.imm ‹_› | exact slT ‹_›) (by first | exact obT rfl | exact Rd.imm ‹_› | exact slT ‹_›)) hS.rd ?_
              refine LW.hv rfl rfl rfl rfl (Hv.buildSl hS Try.underlying31 ti3 rfl rfl rfl rfl rfl rfl) fun v w126 ⟨b126, hv, hb126, hS⟩ => ?_
              subst hv
              obtain ⟨μ9, hm9, hS, hk9⟩ := hS.shutRow (k := 0) (xs := [(0 : Int), 2]) rfl (RepL.ints _ [0, 2]) (by decide)
              dsimp only [List.eraseIdx] at hS
              have hx9 := hx8.mono hm9
              refine LW.ex rfl rfl rfl rfl (Ex.buildS st58 rfl rfl rfl) hS.rd ?_
              refine LW.hv rfl rfl rfl rfl (Hv.callV hS rfl rfl rfl cb19 (cwords_c x0 bW.G [0, 2] 0 linksIn0 (by decide) _ _ _ _ _ _ _ _ hS.imm hx9 (((((hl7.mono hm77).mono hm84).mono hm91)).mono hm9) hk9)) fun v w128 ⟨μ128, hv128, hm128, hS⟩ => ?_
              obtain ⟨a128, c128, hv, hs128⟩ := hv128
              subst hv
              refine LW.hv rfl rfl rfl rfl (Hv.buildSl hS Try.underlying31 ti3 rfl rfl rfl rfl rfl rfl) fun v w129 ⟨b129, hv, hb129, hS⟩ => ?_
              subst hv
              refine LW.hv rfl rfl rfl rfl (Hv.callS hS rfl rfl rfl cb18 (ints_c [1, 2] [1, 2] _ _ _ _ (memOf _) _ (imm_memOf _) (hs128.mono hS.imm.ext) (hS.lend_obj (k := 0) rfl (RepL.ints _ [1, 2]) (by decide)))) fun v w130 ⟨hv, hS⟩ => ?_
              subst hv
              refine LW.ex rfl rfl rfl rfl (by first | exact Ex.pick_yes rfl rfl | exact Ex.pick_no rfl rfl) hS.rd ?_
              refine LW.ex rfl rfl rfl rfl (Ex.assign rfl) hS.rd ?_
              refine LW.nil fun aa ha => hK12 _ _ _ ?_ aa ha
              refine CW.ret fun aa ha => ?_
              refine ret_one ha Try.results9 rfl ?_
              exact hS.retB (by decide)
            · have h9_29 := of_decide_eq_false h9_29
              exact absurd rfl h9_29
          · have h9_22 := of_decide_eq_false h9_22
            exact absurd rfl h9_22
        · have h9_15 := of_decide_eq_false h9_15
          exact absurd rfl h9_15
      · rw [sameB_self] at h9_8; cases h9_8
    · rw [sameB_self] at h9_2; cases h9_2
  have hS := hS.drew
  refine CW.draw 8 (.ex 0 <| .ex 1 <| .ex 3 <| .ex 4 <| .three 2 (.three 5 (.two 6 (.one 7 <| .done) 7 (.one 6 <| .done)) 6 (.two 5 (.one 7 <| .done) 7 (.one 5 <| .done)) 7 (.two 5 (.one 6 <| .done) 6 (.one 5 <| .done))) 6 (.two 2 (.two 5 (.one 7 <| .done) 7 (.one 5 <| .done)) 7 (.one 2 <| .one 5 <| .done)) 7 (.two 2 (.two 5 (.one 6 <| .done) 6 (.one 5 <| .done)) 6 (.one 2 <| .one 5 <| .done))) [8, 9] (Rd _ _) mixed (by kernel_rfl) rfl rfl hS.rd ?_
  refine PW.ex rfl rfl rfl rfl (Ex.load2c ti38 rfl rfl (by first | exact obT rfl | exact Rd.imm ‹_› | exact slT ‹_›) (by first | exact obT rfl | exact Rd.imm ‹_› | exact slT ‹_›)) ?_
  refine PW.ex rfl rfl rfl rfl (Ex.load4c ti34 rfl rfl (by first | exact obT rfl | exact Rd.imm ‹_› | exact slT ‹_›) (by first | exact obT rfl | exact Rd.imm ‹_› | exact slT ‹_›) (by first | exact obT rfl | exact Rd.imm ‹_› | exact slT ‹_›) (by first | exact obT rfl | exact Rd.imm ‹_› | exact slT ‹_›)) ?_
  refine PW.ex rfl rfl rfl rfl (Ex.buildS st38 rfl rfl rfl) ?_
  refine PW.ex rfl rfl rfl rfl (Ex.load4c ti34 rfl rfl (by first | exact obT rfl | exact Rd.imm ‹_› | exact slT ‹_›) (by first | exact obT rfl | exact Rd.imm ‹_› | exact slT ‹_›) (by first | exact obT rfl | exact Rd.imm ‹_› | exact slT ‹_›) (by first | exact obT rfl | exact Rd.imm ‹_› | exact slT ‹_›)) ?_
  refine PW.three rfl rfl rfl rfl rfl rfl rfl rfl rfl rfl rfl rfl (Hv.callV hS rfl rfl rfl cb13 (lb0_c b19 _ _ _ _ _ _ hS.imm hx4 hw4 hc4)) (fun _ _ ⟨_, _, hm, h⟩ => Rd.le hm h.rd) (Hv.alloc ti49 hS) (fun _ _ ⟨_, _, _, h⟩ => h.rd.tail) (Hv.alloc ti49 hS) (fun _ _ ⟨_, _, _, h⟩ => h.rd.tail) (fun v w26 ⟨μ26, hv26, hm26, hS⟩ => ?gA13) (fun v w3 ⟨b3, hv, hb3, hS⟩ => ?gB13) (fun v w4 ⟨b4, hv, hb4, hS⟩ => ?gC13)
  case gA13 =>
    skip
    obtain ⟨p0, q0, p1, q1, hv, hs0, hs1⟩ := hv26
    subst hv
    have hx4 := hx4.mono hm26
    have hw4 := hw4.mono hm26
    have hc4 := hc4.mono hm26
    refine PW.three rfl rfl rfl rfl rfl rfl rfl rfl rfl rfl rfl rfl (Hv.callV hS rfl rfl rfl cb13 (lbE_c 0 _ _ _ _ _ _ hS.imm hw4 hc4)) (fun _ _ ⟨_, _, hm, h⟩ => Rd.le hm26 (Rd.le hm h.rd)) (Hv.alloc ti49 hS) (fun _ _ ⟨_, _, _, h⟩ => Rd.le hm26 (h.rd.tail)) (Hv.alloc ti49 hS) (fun _ _ ⟨_, _, _, h⟩ => Rd.le hm26 (h.rd.tail)) (fun v w29 ⟨μ29, hv29, hm29, hS⟩ => ?gA14) (fun v w3 ⟨b3, hv, hb3, hS⟩ => ?gB14) (fun v w4 ⟨b4, hv, hb4, hS⟩ => ?gC14)
    case gA14 =>
      skip
      obtain ⟨p2, q2, p3, q3, hv, hs2, hs3⟩ := hv29
      subst hv
      have hx4 := hx4.mono hm29
      have hw4 := hw4.mono hm29
      have hc4 := hc4.mono hm29
      have hs0 := hs0.mono hm29
      have hs1 := hs1.mono hm29
      refine PW.two rfl rfl rfl rfl rfl rfl rfl rfl (Hv.alloc ti49 hS) (fun _ _ ⟨_, _, _, h⟩ => Rd.le hm26 (Rd.le hm29 (h.rd.tail))) (Hv.alloc ti49 hS) (fun _ _ ⟨_, _, _, h⟩ => Rd.le hm26 (Rd.le hm29 (h.rd.tail))) (fun v w3 ⟨b3, hv, hb3, hS⟩ => ?gA15) (fun v w4 ⟨b4, hv, hb4, hS⟩ => ?gB15)
      case gA15 =>
        skip
        subst hv
        refine PW.hv rfl rfl rfl rfl (Hv.alloc ti49 hS) (fun _ _ ⟨_, _, _, h⟩ => Rd.le hm26 (Rd.le hm29 (h.rd.tail.tail))) fun v w4 ⟨b4, hv, hb4, hS⟩ => ?_
        subst hv
        refine PW.nil ?_
        first | (have hS := (hS : St w _ _ (Own.obj b4 _ _ :: _))) | (have hS := hS.swap)
        refine LW.hu rfl rfl rfl (Hv.storeN (k := 1) ti49 hS rfl rfl rfl rfl (by simp [Value.oneCell'])) fun _ w_8 hS => ?_
        dsimp only [List.set] at hS
        refine LW.hu rfl rfl rfl (Hv.storeN (k := 0) ti49 hS rfl rfl rfl rfl (by simp [Value.oneCell'])) fun _ w_9 hS => ?_
        dsimp only [List.set] at hS
        refine LW.nil fun aa ha => ?_
        refine hJr3 _ (b3) (b4) (p0) (p1) (p2) (p3) (q0) (q1) (q2) (q3) (μ29) hS (hx4) (hw4) (hc4) (hs0) (hs1) (hs2) (hs3) aa (ha.sub ⟨rfl, rfl, rfl, rfl, trivial⟩)
      case gB15 =>
        skip
        subst hv
        refine PW.hv rfl rfl rfl rfl (Hv.alloc ti49 hS) (fun _ _ ⟨_, _, _, h⟩ => Rd.le hm26 (Rd.le hm29 (h.rd.tail.tail))) fun v w3 ⟨b3, hv, hb3, hS⟩ => ?_
        subst hv
        refine PW.nil ?_
        first | (have hS := (hS : St w _ _ (Own.obj b4 _ _ :: _))) | (have hS := hS.swap)
        refine LW.hu rfl rfl rfl (Hv.storeN (k := 1) ti49 hS rfl rfl rfl rfl (by simp [Value.oneCell'])) fun _ w_8 hS => ?_
        dsimp only [List.set] at hS
        refine LW.hu rfl rfl rfl (Hv.storeN (k := 0) ti49 hS rfl rfl rfl rfl (by simp [Value.oneCell'])) fun _ w_9 hS => ?_
        dsimp only [List.set] at hS
        refine LW.nil fun aa ha => ?_
        refine hJr3 _ (b3) (b4) (p0) (p1) (p2) (p3) (q0) (q1) (q2) (q3) (μ29) hS (hx4) (hw4) (hc4) (hs0) (hs1) (hs2) (hs3) aa (ha.sub ⟨rfl, rfl, rfl, rfl, trivial⟩)
    case gB14 =>
      skip
      subst hv
      refine PW.two rfl rfl rfl rfl rfl rfl rfl rfl (Hv.callV hS rfl rfl rfl cb13 (lbE_c 0 _ _ _ _ _ _ hS.imm hw4 hc4)) (fun _ _ ⟨_, _, hm, h⟩ => Rd.le hm26 (Rd.le hm h.rd.tail)) (Hv.alloc ti49 hS) (fun _ _ ⟨_, _, _, h⟩ => Rd.le hm26 (h.rd.tail.tail)) (fun v w29 ⟨μ29, hv29, hm29, hS⟩ => ?gA16) (fun v w4 ⟨b4, hv, hb4, hS⟩ => ?gB16)
      case gA16 =>
        skip
        obtain ⟨p2, q2, p3, q3, hv, hs2, hs3⟩ := hv29
        subst hv
        have hx4 := hx4.mono hm29
        have hw4 := hw4.mono hm29
        have hc4 := hc4.mono hm29
        have hs0 := hs0.mono hm29
        have hs1 := hs1.mono hm29
        refine PW.hv rfl rfl rfl rfl (Hv.alloc ti49 hS) (fun _ _ ⟨_, _, _, h⟩ => Rd.le hm26 (Rd.le hm29 (h.rd.tail.tail))) fun v w4 ⟨b4, hv, hb4, hS⟩ => ?_
        subst hv
        refine PW.nil ?_
        first | (have hS := (hS : St w _ _ (Own.obj b4 _ _ :: _))) | (have hS := hS.swap)
        refine LW.hu rfl rfl rfl (Hv.storeN (k := 1) ti49 hS rfl rfl rfl rfl (by simp [Value.oneCell'])) fun _ w_8 hS => ?_
        dsimp only [List.set] at hS
        refine LW.hu rfl rfl rfl (Hv.storeN (k := 0) ti49 hS rfl rfl rfl rfl (by simp [Value.oneCell'])) fun _ w_9 hS => ?_
        dsimp only [List.set] at hS
        refine LW.nil fun aa ha => ?_
        refine hJr3 _ (b3) (b4) (p0) (p1) (p2) (p3) (q0) (q1) (q2) (q3) (μ29) hS (hx4) (hw4) (hc4) (hs0) (hs1) (hs2) (hs3) aa (ha.sub ⟨rfl, rfl, rfl, rfl, trivial⟩)
      case gB16 =>
        skip
        subst hv
        refine PW.hv rfl rfl rfl rfl (Hv.callV hS rfl rfl rfl cb13 (lbE_c 0 _ _ _ _ _ _ hS.imm hw4 hc4)) (fun _ _ ⟨_, _, hm, h⟩ => Rd.le hm26 (Rd.le hm h.rd.tail.tail)) fun v w29 ⟨μ29, hv29, hm29, hS⟩ => ?_
        obtain ⟨p2, q2, p3, q3, hv, hs2, hs3⟩ := hv29
        subst hv
        have hx4 := hx4.mono hm29
        have hw4 := hw4.mono hm29
        have hc4 := hc4.mono hm29
        have hs0 := hs0.mono hm29
        have hs1 := hs1.mono hm29
        refine PW.nil ?_
        first | (have hS := (hS : St w _ _ (Own.obj b4 _ _ :: _))) | (have hS := hS.swap)
        refine LW.hu rfl rfl rfl (Hv.storeN (k := 1) ti49 hS rfl rfl rfl rfl (by simp [Value.oneCell'])) fun _ w_8 hS => ?_
        dsimp only [List.set] at hS
        refine LW.hu rfl rfl rfl (Hv.storeN (k := 0) ti49 hS rfl rfl rfl rfl (by simp [Value.oneCell'])) fun _ w_9 hS => ?_
        dsimp only [List.set] at hS
        refine LW.nil fun aa ha => ?_
        refine hJr3 _ (b3) (b4) (p0) (p1) (p2) (p3) (q0) (q1) (q2) (q3) (μ29) hS (hx4) (hw4) (hc4) (hs0) (hs1) (hs2) (hs3) aa (ha.sub ⟨rfl, rfl, rfl, rfl, trivial⟩)
    case gC14 =>
      skip
      subst hv
      refine PW.two rfl rfl rfl rfl rfl rfl rfl rfl (Hv.callV hS rfl rfl rfl cb13 (lbE_c 0 _ _ _ _ _ _ hS.imm hw4 hc4)) (fun _ _ ⟨_, _, hm, h⟩ => Rd.le hm26 (Rd.le hm h.rd.tail)) (Hv.alloc ti49 hS) (fun _ _ ⟨_, _, _, h⟩ => Rd.le hm26 (h.rd.tail.tail)) (fun v w29 ⟨μ29, hv29, hm29, hS⟩ => ?gA17) (fun v w3 ⟨b3, hv, hb3, hS⟩ => ?gB17)
      case gA17 =>
        skip
        obtain ⟨p2, q2, p3, q3, hv, hs2, hs3⟩ := hv29
        subst hv
        have hx4 := hx4.mono hm29
        have hw4 := hw4.mono hm29
        have hc4 := hc4.mono hm29
        have hs0 := hs0.mono hm29
        have hs1 := hs1.mono hm29
        refine PW.hv rfl rfl rfl rfl (Hv.alloc ti49 hS) (fun _ _ ⟨_, _, _, h⟩ => Rd.le hm26 (Rd.le hm29 (h.rd.tail.tail))) fun v w3 ⟨b3, hv, hb3, hS⟩ => ?_
        subst hv
        refine PW.nil ?_
        first | (have hS := (hS : St w _ _ (Own.obj b4 _ _ :: _))) | (have hS := hS.swap)
        refine LW.hu rfl rfl rfl (Hv.storeN (k := 1) ti49 hS rfl rfl rfl rfl (by simp [Value.oneCell'])) fun _ w_8 hS => ?_
        dsimp only [List.set] at hS
        refine LW.hu rfl rfl rfl (Hv.storeN (k := 0) ti49 hS rfl rfl rfl rfl (by simp [Value.oneCell'])) fun _ w_9 hS => ?_
        dsimp only [List.set] at hS
        refine LW.nil fun aa ha => ?_
        refine hJr3 _ (b3) (b4) (p0) (p1) (p2) (p3) (q0) (q1) (q2) (q3) (μ29) hS (hx4) (hw4) (hc4) (hs0) (hs1) (hs2) (hs3) aa (ha.sub ⟨rfl, rfl, rfl, rfl, trivial⟩)
      case gB17 =>
        skip
        subst hv
        refine PW.hv rfl rfl rfl rfl (Hv.callV hS rfl rfl rfl cb13 (lbE_c 0 _ _ _ _ _ _ hS.imm hw4 hc4)) (fun _ _ ⟨_, _, hm, h⟩ => Rd.le hm26 (Rd.le hm h.rd.tail.tail)) fun v w29 ⟨μ29, hv29, hm29, hS⟩ => ?_
        obtain ⟨p2, q2, p3, q3, hv, hs2, hs3⟩ := hv29
        subst hv
        have hx4 := hx4.mono hm29
        have hw4 := hw4.mono hm29
        have hc4 := hc4.mono hm29
        have hs0 := hs0.mono hm29
        have hs1 := hs1.mono hm29
        refine PW.nil ?_
        first | (have hS := (hS : St w _ _ (Own.obj b4 _ _ :: _))) | (have hS := hS.swap)
        refine LW.hu rfl rfl rfl (Hv.storeN (k := 1) ti49 hS rfl rfl rfl rfl (by simp [Value.oneCell'])) fun _ w_8 hS => ?_
        dsimp only [List.set] at hS
        refine LW.hu rfl rfl rfl (Hv.storeN (k := 0) ti49 hS rfl rfl rfl rfl (by simp [Value.oneCell'])) fun _ w_9 hS => ?_
        dsimp only [List.set] at hS
        refine LW.nil fun aa ha => ?_
        refine hJr3 _ (b3) (b4) (p0) (p1) (p2) (p3) (q0) (q1) (q2) (q3) (μ29) hS (hx4) (hw4) (hc4) (hs0) (hs1) (hs2) (hs3) aa (ha.sub ⟨rfl, rfl, rfl, rfl, trivial⟩)
  case gB13 =>
    skip
    subst hv
    refine PW.two rfl rfl rfl rfl rfl rfl rfl rfl (Hv.callV hS rfl rfl rfl cb13 (lb0_c b19 _ _ _ _ _ _ hS.imm hx4 hw4 hc4)) (fun _ _ ⟨_, _, hm, h⟩ => Rd.le hm h.rd.tail) (Hv.alloc ti49 hS) (fun _ _ ⟨_, _, _, h⟩ => h.rd.tail.tail) (fun v w26 ⟨μ26, hv26, hm26, hS⟩ => ?gA18) (fun v w4 ⟨b4, hv, hb4, hS⟩ => ?gB18)
    case gA18 =>
      skip
      obtain ⟨p0, q0, p1, q1, hv, hs0, hs1⟩ := hv26
      subst hv
      have hx4 := hx4.mono hm26
      have hw4 := hw4.mono hm26
      have hc4 := hc4.mono hm26
      refine PW.two rfl rfl rfl rfl rfl rfl rfl rfl (Hv.callV hS rfl rfl rfl cb13 (lbE_c 0 _ _ _ _ _ _ hS.imm hw4 hc4)) (fun _ _ ⟨_, _, hm, h⟩ => Rd.le hm26 (Rd.le hm h.rd.tail)) (Hv.alloc ti49 hS) (fun _ _ ⟨_, _, _, h⟩ => Rd.le hm26 (h.rd.tail.tail)) (fun v w29 ⟨μ29, hv29, hm29, hS⟩ => ?gA19) (fun v w4 ⟨b4, hv, hb4, hS⟩ => ?gB19)
      case gA19 =>
        skip
        obtain ⟨p2, q2, p3, q3, hv, hs2, hs3⟩ := hv29
        subst hv
        have hx4 := hx4.mono hm29
        have hw4 := hw4.mono hm29
        have hc4 := hc4.mono hm29
        have hs0 := hs0.mono hm29
        have hs1 := hs1.mono hm29
        refine PW.hv rfl rfl rfl rfl (Hv.alloc ti49 hS) (fun _ _ ⟨_, _, _, h⟩ => Rd.le hm26 (Rd.le hm29 (h.rd.tail.tail))) fun v w4 ⟨b4, hv, hb4, hS⟩ => ?_
        subst hv
        refine PW.nil ?_
        first | (have hS := (hS : St w _ _ (Own.obj b4 _ _ :: _))) | (have hS := hS.swap)
        refine LW.hu rfl rfl rfl (Hv.storeN (k := 1) ti49 hS rfl rfl rfl rfl (by simp [Value.oneCell'])) fun _ w_8 hS => ?_
        dsimp only [List.set] at hS
        refine LW.hu rfl rfl rfl (Hv.storeN (k := 0) ti49 hS rfl rfl rfl rfl (by simp [Value.oneCell'])) fun _ w_9 hS => ?_
        dsimp only [List.set] at hS
        refine LW.nil fun aa ha => ?_
        refine hJr3 _ (b3) (b4) (p0) (p1) (p2) (p3) (q0) (q1) (q2) (q3) (μ29) hS (hx4) (hw4) (hc4) (hs0) (hs1) (hs2) (hs3) aa (ha.sub ⟨rfl, rfl, rfl, rfl, trivial⟩)
      case gB19 =>
        skip
        subst hv
        refine PW.hv rfl rfl rfl rfl (Hv.callV hS rfl rfl rfl cb13 (lbE_c 0 _ _ _ _ _ _ hS.imm hw4 hc4)) (fun _ _ ⟨_, _, hm, h⟩ => Rd.le hm26 (Rd.le hm h.rd.tail.tail)) fun v w29 ⟨μ29, hv29, hm29, hS⟩ => ?_
        obtain ⟨p2, q2, p3, q3, hv, hs2, hs3⟩ := hv29
        subst hv
        have hx4 := hx4.mono hm29
        have hw4 := hw4.mono hm29
        have hc4 := hc4.mono hm29
        have hs0 := hs0.mono hm29
        have hs1 := hs1.mono hm29
        refine PW.nil ?_
        first | (have hS := (hS : St w _ _ (Own.obj b4 _ _ :: _))) | (have hS := hS.swap)
        refine LW.hu rfl rfl rfl (Hv.storeN (k := 1) ti49 hS rfl rfl rfl rfl (by simp [Value.oneCell'])) fun _ w_8 hS => ?_
        dsimp only [List.set] at hS
        refine LW.hu rfl rfl rfl (Hv.storeN (k := 0) ti49 hS rfl rfl rfl rfl (by simp [Value.oneCell'])) fun _ w_9 hS => ?_
        dsimp only [List.set] at hS
        refine LW.nil fun aa ha => ?_
        refine hJr3 _ (b3) (b4) (p0) (p1) (p2) (p3) (q0) (q1) (q2) (q3) (μ29) hS (hx4) (hw4) (hc4) (hs0) (hs1) (hs2) (hs3) aa (ha.sub ⟨rfl, rfl, rfl, rfl, trivial⟩)
    case gB18 =>
      skip
      subst hv
      refine PW.hv rfl rfl rfl rfl (Hv.callV hS rfl rfl rfl cb13 (lb0_c b19 _ _ _ _ _ _ hS.imm hx4 hw4 hc4)) (fun _ _ ⟨_, _, hm, h⟩ => Rd.le hm h.rd.tail.tail) fun v w26 ⟨μ26, hv26, hm26, hS⟩ => ?_
      obtain ⟨p0, q0, p1, q1, hv, hs0, hs1⟩ := hv26
      subst hv
      have hx4 := hx4.mono hm26
      have hw4 := hw4.mono hm26
      have hc4 := hc4.mono hm26
      refine PW.hv rfl rfl rfl rfl (Hv.callV hS rfl rfl rfl cb13 (lbE_c 0 _ _ _ _ _ _ hS.imm hw4 hc4)) (fun _ _ ⟨_, _, hm, h⟩ => Rd.le hm26 (Rd.le hm h.rd.tail.tail)) fun v w29 ⟨μ29, hv29, hm29, hS⟩ => ?_
      obtain ⟨p2, q2, p3, q3, hv, hs2, hs3⟩ := hv29
      subst hv
      have hx4 := hx4.mono hm29
      have hw4 := hw4.mono hm29
      have hc4 := hc4.mono hm29
      have hs0 := hs0.mono hm29
      have hs1 := hs1.mono hm29
      refine PW.nil ?_
      first | (have hS := (hS : St w _ _ (Own.obj b4 _ _ :: _))) | (have hS := hS.swap)
      refine LW.hu rfl rfl rfl (Hv.storeN (k := 1) ti49 hS rfl rfl rfl rfl (by simp [Value.oneCell'])) fun _ w_8 hS => ?_
      dsimp only [List.set] at hS
      refine LW.hu rfl rfl rfl (Hv.storeN (k := 0) ti49 hS rfl rfl rfl rfl (by simp [Value.oneCell'])) fun _ w_9 hS => ?_
      dsimp only [List.set] at hS
      refine LW.nil fun aa ha => ?_
      refine hJr3 _ (b3) (b4) (p0) (p1) (p2) (p3) (q0) (q1) (q2) (q3) (μ29) hS (hx4) (hw4) (hc4) (hs0) (hs1) (hs2) (hs3) aa (ha.sub ⟨rfl, rfl, rfl, rfl, trivial⟩)
  case gC13 =>
    skip
    subst hv
    refine PW.two rfl rfl rfl rfl rfl rfl rfl rfl (Hv.callV hS rfl rfl rfl cb13 (lb0_c b19 _ _ _ _ _ _ hS.imm hx4 hw4 hc4)) (fun _ _ ⟨_, _, hm, h⟩ => Rd.le hm h.rd.tail) (Hv.alloc ti49 hS) (fun _ _ ⟨_, _, _, h⟩ => h.rd.tail.tail) (fun v w26 ⟨μ26, hv26, hm26, hS⟩ => ?gA20) (fun v w3 ⟨b3, hv, hb3, hS⟩ => ?gB20)
    case gA20 =>
      skip
      obtain ⟨p0, q0, p1, q1, hv, hs0, hs1⟩ := hv26
      subst hv
      have hx4 := hx4.mono hm26
      have hw4 := hw4.mono hm26
      have hc4 := hc4.mono hm26
      refine PW.two rfl rfl rfl rfl rfl rfl rfl rfl (Hv.callV hS rfl rfl rfl cb13 (lbE_c 0 _ _ _ _ _ _ hS.imm hw4 hc4)) (fun _ _ ⟨_, _, hm, h⟩ => Rd.le hm26 (Rd.le hm h.rd.tail)) (Hv.alloc ti49 hS) (fun _ _ ⟨_, _, _, h⟩ => Rd.le hm26 (h.rd.tail.tail)) (fun v w29 ⟨μ29, hv29, hm29, hS⟩ => ?gA21) (fun v w3 ⟨b3, hv, hb3, hS⟩ => ?gB21)
      case gA21 =>
        skip
        obtain ⟨p2, q2, p3, q3, hv, hs2, hs3⟩ := hv29
        subst hv
        have hx4 := hx4.mono hm29
        have hw4 := hw4.mono hm29
        have hc4 := hc4.mono hm29
        have hs0 := hs0.mono hm29
        have hs1 := hs1.mono hm29
        refine PW.hv rfl rfl rfl rfl (Hv.alloc ti49 hS) (fun _ _ ⟨_, _, _, h⟩ => Rd.le hm26 (Rd.le hm29 (h.rd.tail.tail))) fun v w3 ⟨b3, hv, hb3, hS⟩ => ?_
        subst hv
        refine PW.nil ?_
        first | (have hS := (hS : St w _ _ (Own.obj b4 _ _ :: _))) | (have hS := hS.swap)
        refine LW.hu rfl rfl rfl (Hv.storeN (k := 1) ti49 hS rfl rfl rfl rfl (by simp [Value.oneCell'])) fun _ w_8 hS => ?_
        dsimp only [List.set] at hS
        refine LW.hu rfl rfl rfl (Hv.storeN (k := 0) ti49 hS rfl rfl rfl rfl (by simp [Value.oneCell'])) fun _ w_9 hS => ?_
        dsimp only [List.set] at hS
        refine LW.nil fun aa ha => ?_
        refine hJr3 _ (b3) (b4) (p0) (p1) (p2) (p3) (q0) (q1) (q2) (q3) (μ29) hS (hx4) (hw4) (hc4) (hs0) (hs1) (hs2) (hs3) aa (ha.sub ⟨rfl, rfl, rfl, rfl, trivial⟩)
      case gB21 =>
        skip
        subst hv
        refine PW.hv rfl rfl rfl rfl (Hv.callV hS rfl rfl rfl cb13 (lbE_c 0 _ _ _ _ _ _ hS.imm hw4 hc4)) (fun _ _ ⟨_, _, hm, h⟩ => Rd.le hm26 (Rd.le hm h.rd.tail.tail)) fun v w29 ⟨μ29, hv29, hm29, hS⟩ => ?_
        obtain ⟨p2, q2, p3, q3, hv, hs2, hs3⟩ := hv29
        subst hv
        have hx4 := hx4.mono hm29
        have hw4 := hw4.mono hm29
        have hc4 := hc4.mono hm29
        have hs0 := hs0.mono hm29
        have hs1 := hs1.mono hm29
        refine PW.nil ?_
        first | (have hS := (hS : St w _ _ (Own.obj b4 _ _ :: _))) | (have hS := hS.swap)
        refine LW.hu rfl rfl rfl (Hv.storeN (k := 1) ti49 hS rfl rfl rfl rfl (by simp [Value.oneCell'])) fun _ w_8 hS => ?_
        dsimp only [List.set] at hS
        refine LW.hu rfl rfl rfl (Hv.storeN (k := 0) ti49 hS rfl rfl rfl rfl (by simp [Value.oneCell'])) fun _ w_9 hS => ?_
        dsimp only [List.set] at hS
        refine LW.nil fun aa ha => ?_
        refine hJr3 _ (b3) (b4) (p0) (p1) (p2) (p3) (q0) (q1) (q2) (q3) (μ29) hS (hx4) (hw4) (hc4) (hs0) (hs1) (hs2) (hs3) aa (ha.sub ⟨rfl, rfl, rfl, rfl, trivial⟩)
    case gB20 =>
      skip
      subst hv
      refine PW.hv rfl rfl rfl rfl (Hv.callV hS rfl rfl rfl cb13 (lb0_c b19 _ _ _ _ _ _ hS.imm hx4 hw4 hc4)) (fun _ _ ⟨_, _, hm, h⟩ => Rd.le hm h.rd.tail.tail) fun v w26 ⟨μ26, hv26, hm26, hS⟩ => ?_
      obtain ⟨p0, q0, p1, q1, hv, hs0, hs1⟩ := hv26
      subst hv
      have hx4 := hx4.mono hm26
      have hw4 := hw4.mono hm26
      have hc4 := hc4.mono hm26
      refine PW.hv rfl rfl rfl rfl (Hv.callV hS rfl rfl rfl cb13 (lbE_c 0 _ _ _ _ _ _ hS.imm hw4 hc4)) (fun _ _ ⟨_, _, hm, h⟩ => Rd.le hm26 (Rd.le hm h.rd.tail.tail)) fun v w29 ⟨μ29, hv29, hm29, hS⟩ => ?_
      obtain ⟨p2, q2, p3, q3, hv, hs2, hs3⟩ := hv29
      subst hv
      have hx4 := hx4.mono hm29
      have hw4 := hw4.mono hm29
      have hc4 := hc4.mono hm29
      have hs0 := hs0.mono hm29
      have hs1 := hs1.mono hm29
      refine PW.nil ?_
      first | (have hS := (hS : St w _ _ (Own.obj b4 _ _ :: _))) | (have hS := hS.swap)
      refine LW.hu rfl rfl rfl (Hv.storeN (k := 1) ti49 hS rfl rfl rfl rfl (by simp [Value.oneCell'])) fun _ w_8 hS => ?_
      dsimp only [List.set] at hS
      refine LW.hu rfl rfl rfl (Hv.storeN (k := 0) ti49 hS rfl rfl rfl rfl (by simp [Value.oneCell'])) fun _ w_9 hS => ?_
      dsimp only [List.set] at hS
      refine LW.nil fun aa ha => ?_
      refine hJr3 _ (b3) (b4) (p0) (p1) (p2) (p3) (q0) (q1) (q2) (q3) (μ29) hS (hx4) (hw4) (hc4) (hs0) (hs1) (hs2) (hs3) aa (ha.sub ⟨rfl, rfl, rfl, rfl, trivial⟩)
end Go.Proofs.Ytgnpjhellmfhoaa

/-
  Context: the nodes and links of a graph that is built.
-/
namespace Go.Proofs.Ytgnpjhellmfhoaa
open Go.RowKit Sy

/-- What holds of each link of a graph. -/
structure LinkGood (x : Lat) (L : List I2) (k : Link) (e : Edge) : Prop where
  f0 : 0 ≤ k.From
  ft : k.From < k.To
  tl : k.To < L.length
  l0 : 0 ≤ k.Label
  l1 : k.Label < x.Edges.length
  he : e = edAt x k.Label.toNat
  c : e.Cost ≤ k.Cost
  last : e.To = x.N ↔ k.To = (L.length : Int) - 1
  word : e.To < x.N → (L.map (·.b))[k.To.toNat]? = some e.Word
theorem zip_mem {L : List I2} {z : I2} {j n : Nat} (h : (z, j) ∈ L.zipIdx.take n) : ∃ hj : j < L.length, L[j] = z := by
  have h := List.mem_of_mem_take h
  obtain ⟨i, hi, he⟩ := List.getElem_of_mem h
  rw [List.getElem_zipIdx] at he
  simp only [Prod.mk.injEq] at he
  obtain ⟨e1, e2⟩ := he
  have hi2 : i < L.length := by rw [List.length_zipIdx] at hi; exact hi
  have : i = j := by omega
  subst this
  exact ⟨hi2, e1⟩
theorem pw_a {L : List I2} (hs : L.Pairwise ndLt) {i j : Nat} (hi : i < L.length) (hj : j < L.length) (h : L[i].a < L[j].a) : i < j := by
  rcases Nat.lt_trichotomy i j with h1 | h1 | h1
  · exact h1
  · subst h1; omega
  · have := List.pairwise_iff_getElem.1 hs j i hj hi h1
    unfold ndLt at this; omega
theorem link_good {x : Lat} {m : Mdl} {p : Int} (hm : MdlOk m) (hx : okX x = true) (hw : wordsIn x m.Words.length = true) (hp : -1 ≤ p ∧ p < m.Words.length) {k : Link}
    (hk : k ∈ linksTo x m (nodesL x m.Words.length p) (nodesL x m.Words.length p).length) : ∃ e, LinkGood x (nodesL x m.Words.length p) k e := by
  obtain ⟨L, hL⟩ : ∃ L, L = nodesL x m.Words.length p := ⟨_, rfl⟩
  have hst := nodesL_strict hx m.Words.length p
  unfold linksTo at hk
  obtain ⟨⟨z, nI⟩, hz, hk⟩ := List.mem_flatMap.1 hk
  obtain ⟨hn, hzn⟩ := zip_mem hz
  unfold linksOf at hk
  obtain ⟨i, hi, rfl⟩ := List.mem_map.1 hk
  rw [List.mem_filter, List.mem_range, decide_eq_true_eq] at hi
  obtain ⟨hi, hf⟩ := hi
  obtain ⟨_, hed, _⟩ := okX_edges hx
  have hei := hed _ (List.getElem_mem hi)
  have hpc := hm.pairC0 z.b (edAt x i).Word
  have h2 := hm.n2
  refine ⟨edAt x i, ?_⟩
  have hla := nodesL_last (n := m.Words.length) (p := p) hx h2 hp (by omega) hn
  simp only at hf hzn
  rw [edAt_of hi] at hf hpc ⊢
  by_cases ht : x.Edges[i].To < x.N
  · obtain ⟨j, hj, _, hj2, hj3⟩ := toN_at hx hw p hi ht
    have hlj := nodesL_last (n := m.Words.length) (p := p) hx h2 hp (by omega) hj
    have hlt : nI < j := pw_a hst hn hj (by rw [hzn, hj2]; simp only; omega)
    have hja : (nodesL x m.Words.length p)[j].a ≠ x.N := by rw [hj2]; simp only; omega
    unfold mkLink
    rw [edAt_of hi, hj3]
    refine ⟨?_, ?_, ?_, ?_, ?_, ?_, ?_, ?_, fun _ => ?_⟩ <;> simp only [Int.toNat_natCast]
    · omega
    · omega
    · omega
    · omega
    · omega
    · rw [edAt_of hi]
    · omega
    · have := mt hlj.2 hja
      constructor <;> intro h <;> omega
    · rw [List.getElem?_map, List.getElem?_eq_getElem hj, hj2]; rfl
  · have hti : toN (nodesL x m.Words.length p) x x.Edges[i] = (nodesL x m.Words.length p).length - 1 := by unfold toN; rw [if_neg ht]
    have hne : nI ≠ (nodesL x m.Words.length p).length - 1 := fun h => by
      have := hla.2 h
      rw [hzn] at this; omega
    unfold mkLink
    rw [edAt_of hi, hti]
    refine ⟨?_, ?_, ?_, ?_, ?_, ?_, ?_, ?_, fun h => absurd h ht⟩ <;> simp only [Int.toNat_natCast]
    · omega
    · omega
    · omega
    · omega
    · omega
    · rw [edAt_of hi]
    · omega
    · constructor <;> intro h <;> omega
def linkLt (a b : Link) : Prop := a.From < b.From ∨ a.From = b.From ∧ a.Label < b.Label
theorem links_sorted (x : Lat) (m : Mdl) (L : List I2) (n : Nat) : (linksTo x m L n).Pairwise linkLt := by
  unfold linksTo
  rw [List.pairwise_flatMap]
  refine ⟨fun z _ => ?_, ?_⟩
  · unfold linksOf
    rw [List.pairwise_map]
    refine (List.Pairwise.filter _ List.pairwise_lt_range).imp fun {a b} h => ?_
    exact Or.inr ⟨rfl, Int.ofNat_lt.2 h⟩
  · refine List.Pairwise.take ?_
    rw [List.pairwise_iff_getElem]
    intro i j hi hj hij a ha b hb
    rw [List.getElem_zipIdx] at ha hb
    unfold linksOf at ha hb
    obtain ⟨u, _, rfl⟩ := List.mem_map.1 ha
    obtain ⟨v, _, rfl⟩ := List.mem_map.1 hb
    unfold linkLt mkLink; simp only; omega
end Go.Proofs.Ytgnpjhellmfhoaa

/-
  Context: package best: the graph of a lattice is small (plain Lean).
-/
namespace Go.Proofs.Ytgnpjhellmfhoaa
open Go.RowKit Sy

/-- A link leads to a greater place. -/
theorem link_place {x : Lat} {m : Mdl} {p : Int} (hm : MdlOk m) (hx : okX x = true) (hw : wordsIn x m.Words.length = true) (hp : -1 ≤ p ∧ p < m.Words.length) {k : Link}
    (hk : k ∈ linksTo x m (nodesL x m.Words.length p) (nodesL x m.Words.length p).length) : ∃ z z', (nodesL x m.Words.length p)[k.From.toNat]? = some z ∧ (nodesL x m.Words.length p)[k.To.toNat]? = some z' ∧ z.a < z'.a ∧ z'.a ≤ x.N ∧ 0 ≤ z.a ∧ z.a = (edAt x k.Label.toNat).From ∧ z'.a = (edAt x k.Label.toNat).To := by
  unfold linksTo at hk
  obtain ⟨⟨z, nI⟩, hz, hk⟩ := List.mem_flatMap.1 hk
  obtain ⟨hn, hzn⟩ := zip_mem hz
  unfold linksOf at hk
  obtain ⟨i, hi, rfl⟩ := List.mem_map.1 hk
  rw [List.mem_filter, List.mem_range, decide_eq_true_eq] at hi
  obtain ⟨hi, hf⟩ := hi
  obtain ⟨_, hed, _⟩ := okX_edges hx
  have hei := hed _ (List.getElem_mem hi)
  simp only at hf hzn
  have h2 := hm.n2
  have e1 : (mkLink x m (nodesL x m.Words.length p) nI z i).From.toNat = nI := by unfold mkLink; simp only [Int.toNat_natCast]
  have e2 : (mkLink x m (nodesL x m.Words.length p) nI z i).To.toNat = toN (nodesL x m.Words.length p) x x.Edges[i] := by unfold mkLink; rw [edAt_of hi]; simp only [Int.toNat_natCast]
  have e3 : (mkLink x m (nodesL x m.Words.length p) nI z i).Label.toNat = i := by unfold mkLink; simp only [Int.toNat_natCast]
  rw [e1, e2, e3, edAt_of hi]
  rw [edAt_of hi] at hf
  by_cases ht : x.Edges[i].To < x.N
  · obtain ⟨j, hj, _, hj2, hj3⟩ := toN_at hx hw p hi ht
    exact ⟨z, _, by rw [List.getElem?_eq_getElem hn, hzn], by rw [hj3, List.getElem?_eq_getElem hj, hj2], by simp only; omega, by simp only; omega, by omega, by omega, rfl⟩
  · have hti : toN (nodesL x m.Words.length p) x x.Edges[i] = (nodesL x m.Words.length p).length - 1 := by unfold toN; rw [if_neg ht]
    have hl1 : (nodesL x m.Words.length p).length - 1 < (nodesL x m.Words.length p).length := by omega
    have hla := (nodesL_last (n := m.Words.length) (p := p) hx h2 hp (by omega) hl1).2 rfl
    exact ⟨z, _, by rw [List.getElem?_eq_getElem hn, hzn], by rw [hti, List.getElem?_eq_getElem hl1], by omega, by omega, by omega, by omega, by omega⟩
theorem rising_len : ∀ (l : List Int) (a n : Int), (∀ x ∈ l, a ≤ x ∧ x < n) → l.Pairwise (· < ·) → a ≤ n → (l.length : Int) ≤ n - a
  | [], a, n, _, _, h => by simp; omega
  | x :: r, a, n, h1, h2, h3 => by
    rw [List.pairwise_cons] at h2
    have hx := h1 x (List.mem_cons_self ..)
    have := rising_len r (x + 1) n (fun y hy => ⟨by have := h2.1 y hy; omega, (h1 y (List.mem_cons_of_mem _ hy)).2⟩) h2.2 (by omega)
    rw [List.length_cons]; omega
theorem outTo_few {g : Grf} {n : Nat} (hs : g.Links.Pairwise linkLt) (hl : ∀ k ∈ g.Links, 0 ≤ k.Label ∧ k.Label < n) (q : Nat) : (outTo g g.Links.length q).length ≤ n := by
  have h := rising_len ((outTo g g.Links.length q).map fun (i : Nat) => (lkAt g i).Label) 0 n (fun y hy => by
    obtain ⟨i, hi, rfl⟩ := List.mem_map.1 hy
    have := hl _ (lkAt_mem (outTo_mem hi).1); omega) (by
    rw [List.pairwise_map]
    have hp : (outTo g g.Links.length q).Pairwise (· < ·) := List.Pairwise.filter _ List.pairwise_lt_range
    refine hp.imp_of_mem fun {i j} hi hj hij => ?_
    obtain ⟨i1, i2⟩ := outTo_mem hi
    obtain ⟨j1, j2⟩ := outTo_mem hj
    have := List.pairwise_iff_getElem.1 hs i j i1 j1 hij
    rw [← lkAt_nat i1, ← lkAt_nat j1] at this
    unfold linkLt at this; omega) (by omega)
  rw [List.length_map] at h; omega
end Go.Proofs.Ytgnpjhellmfhoaa

/-
  Context: package best: the weight of the first node is bounded (plain Lean).
-/
namespace Go.Proofs.Ytgnpjhellmfhoaa
open Go.RowKit Sy

theorem sum_bound {α : Type} {F : α → Nat} {B : Nat} : ∀ {l : List α}, (∀ x ∈ l, F x ≤ B) → (l.map F).sum ≤ l.length * B
  | [], _ => by simp
  | x :: r, h => by
    have h1 := h x (List.mem_cons_self ..)
    have h2 := sum_bound (l := r) fun y hy => h y (List.mem_cons_of_mem _ hy)
    rw [List.map_cons, List.sum_cons, List.length_cons, Nat.add_mul, Nat.one_mul]; omega
theorem wt_bound {g : Grf} {L : List I2} {xN : Int} {n : Nat} (hg : GOk g) (hpl : ∀ k ∈ g.Links, ∃ z z', L[k.From.toNat]? = some z ∧ L[k.To.toNat]? = some z' ∧ z.a < z'.a ∧ z'.a ≤ xN) (hfew : ∀ q, (outTo g g.Links.length q).length ≤ n) :
    ∀ (f q : Nat) (z : I2), L[q]? = some z → wt g f q ≤ (n + 1) ^ (xN - z.a).toNat
  | 0, q, z, _ => Nat.pow_pos (by omega)
  | f + 1, q, z, hz => by
    rw [wt]
    have hp : 1 ≤ (n + 1) ^ (xN - z.a).toNat := Nat.pow_pos (by omega)
    cases ho : outTo g g.Links.length q with
    | nil => simpa using hp
    | cons i r =>
      have hmem : ∀ j ∈ outTo g g.Links.length q, ∃ z', L[(lkAt g j).To.toNat]? = some z' ∧ z.a < z'.a ∧ z'.a ≤ xN := fun j hj => by
        obtain ⟨hj1, hj2⟩ := outTo_mem hj
        obtain ⟨y, z', h1, h2, h3, h4⟩ := hpl _ (lkAt_mem hj1)
        rw [hj2, Int.toNat_natCast, hz] at h1
        obtain rfl := Option.some.inj h1
        exact ⟨z', h2, h3, h4⟩
      obtain ⟨z0, _, hz1, hz2⟩ := hmem i (by rw [ho]; exact List.mem_cons_self ..)
      obtain ⟨K, hK⟩ : ∃ K, (xN - z.a).toNat = K + 1 := ⟨(xN - z.a).toNat - 1, by omega⟩
      rw [← ho, hK, Nat.pow_succ]
      have hb := sum_bound (l := outTo g g.Links.length q) (F := fun (i : Nat) => wt g f (lkAt g i).To.toNat) (B := (n + 1) ^ K) fun j hj => by
        obtain ⟨z', h1, h2, h3⟩ := hmem j hj
        exact Nat.le_trans (wt_bound hg hpl hfew f _ z' h1) (Nat.pow_le_pow_right (by omega) (by omega))
      have h1 : 1 ≤ (n + 1) ^ K := Nat.pow_pos (by omega)
      have h2 := Nat.mul_le_mul_right ((n + 1) ^ K) (hfew q)
      have h3 : (n + 1) ^ K * (n + 1) = n * (n + 1) ^ K + (n + 1) ^ K := by rw [Nat.mul_comm, Nat.add_mul, Nat.one_mul]
      omega
theorem W_bound {g : Grf} {L : List I2} {xN : Int} (hg : GOk g) (hpl : ∀ k ∈ g.Links, ∃ z z', L[k.From.toNat]? = some z ∧ L[k.To.toNat]? = some z' ∧ z.a < z'.a ∧ z'.a ≤ xN) (hfew : ∀ q, (outTo g g.Links.length q).length ≤ 13) {z : I2} (h0 : L[0]? = some z) (hz : 0 ≤ z.a) (hN : xN ≤ 5) : W g 0 ≤ 537824 := by
  have h := wt_bound hg hpl hfew (g.N.toNat - 0) 0 z h0
  have h2 : (13 + 1) ^ (xN - z.a).toNat ≤ (13 + 1) ^ 5 := Nat.pow_le_pow_right (by omega) (by omega)
  have h3 : (13 + 1) ^ 5 = 537824 := by decide
  unfold W
  omega
end Go.Proofs.Ytgnpjhellmfhoaa

/-
  Context: package best takes the graph of the law's lattice (plain Lean).
-/
namespace Go.Proofs.Ytgnpjhellmfhoaa
open Go.RowKit Sy

theorem madeX_cost (ls : List B4) (places : UInt8) {n : Nat} (hn : 0 < n) : ∀ e ∈ (madeX ls places n).Edges, e.Cost ≤ 31 := by
  intro e he
  by_cases h0 : 0 < places.toNat % 6
  · have hE : (madeX ls places n).Edges = edgesTo (places.toNat % 6) n ls (min ls.length 8) := by unfold madeX; rw [if_pos h0]
    obtain ⟨_, h2, _⟩ := edgesTo_ok h0 hn ls (min ls.length 8) (by omega)
    rw [hE] at he
    have := h2 e he
    unfold edGood at this; omega
  · have hE : (madeX ls places n).Edges = [] := by unfold madeX; rw [if_neg h0]
    rw [hE] at he; cases he
theorem links_few (x : Lat) (m : Mdl) (L : List I2) (n : Nat) : (linksTo x m L n).length ≤ L.length * x.Edges.length := by
  unfold linksTo
  rw [List.length_flatMap]
  have h := sum_bound (l := L.zipIdx.take n) (F := fun p => (linksOf x m L p.2 p.1).length) (B := x.Edges.length) fun p _ => by
    unfold linksOf
    rw [List.length_map]
    exact Nat.le_trans (List.length_filter_le _ _) (by simp)
  refine Nat.le_trans h (Nat.mul_le_mul_right _ ?_)
  rw [List.length_take, List.length_zipIdx]; omega
theorem build_gok {x : Lat} {m : Mdl} {p : Int} (hm : MdlOk m) (hx : okX x = true) (hw : wordsIn x m.Words.length = true) (hp : -1 ≤ p ∧ p < m.Words.length) (hc : ∀ e ∈ x.Edges, e.Cost ≤ 31) (hE : x.Edges.length ≤ 13) : GOk (buildR x m p).G := by
  have e : buildR x m p = ⟨graphR x m p, (nodesL x m.Words.length p).map (·.b), 0⟩ := by
    unfold buildR; rw [if_pos (okM_yes hm), if_pos (fitsC_iff.2 ⟨hx, hp, hw⟩)]
  rw [e]
  have hl := nodesL_len hx hw p
  have h0 : 0 < (nodesL x m.Words.length p).length := by unfold nodesL; simp
  have hf := links_few x m (nodesL x m.Words.length p) (nodesL x m.Words.length p).length
  have hf2 : (nodesL x m.Words.length p).length * x.Edges.length ≤ 15 * 13 := Nat.mul_le_mul (by omega) hE
  refine ⟨by unfold graphR; simp only; omega, by unfold graphR; simp only; omega, by unfold graphR; simp only; omega, fun k hk => ?_⟩
  have hk' : k ∈ linksTo x m (nodesL x m.Words.length p) (nodesL x m.Words.length p).length := hk
  obtain ⟨ed, g1, g2, g3, g4, g5, _, _, _, _⟩ := link_good hm hx hw hp hk'
  have hcost : 0 ≤ k.Cost ∧ k.Cost ≤ 2031 := by
    unfold linksTo at hk'
    obtain ⟨⟨z, nI⟩, hz, hk'⟩ := List.mem_flatMap.1 hk'
    unfold linksOf at hk'
    obtain ⟨i, hi, rfl⟩ := List.mem_map.1 hk'
    have hi := List.mem_range.1 (List.mem_filter.1 hi).1
    obtain ⟨_, hed, _⟩ := okX_edges hx
    have a1 := hed _ (List.getElem_mem hi)
    have a2 := hc _ (List.getElem_mem hi)
    have a3 := hm.pairC0 z.b x.Edges[i].Word
    unfold mkLink
    rw [edAt_of hi]
    simp only; omega
  exact ⟨g1, g2, by unfold graphR; exact g3, g4, by omega, hcost.1, by omega⟩
theorem build_w {x : Lat} {m : Mdl} {p : Int} (hm : MdlOk m) (hx : okX x = true) (hw : wordsIn x m.Words.length = true) (hp : -1 ≤ p ∧ p < m.Words.length) (hc : ∀ e ∈ x.Edges, e.Cost ≤ 31) (hE : x.Edges.length ≤ 13) (hN : x.N ≤ 5) : W (buildR x m p).G 0 ≤ 537824 := by
  have hg := build_gok hm hx hw hp hc hE
  have e : buildR x m p = ⟨graphR x m p, (nodesL x m.Words.length p).map (·.b), 0⟩ := by
    unfold buildR; rw [if_pos (okM_yes hm), if_pos (fitsC_iff.2 ⟨hx, hp, hw⟩)]
  rw [e] at hg ⊢
  refine W_bound (L := nodesL x m.Words.length p) (xN := x.N) (z := ⟨0, p⟩) hg (fun k hk => ?_) (fun q => ?_) rfl (Int.le_refl _) hN
  · obtain ⟨z, z', a1, a2, a3, a4, _⟩ := link_place hm hx hw hp hk
    exact ⟨z, z', a1, a2, a3, a4⟩
  · exact Nat.le_trans (outTo_few (n := x.Edges.length) (links_sorted _ _ _ _) (fun k hk => by
      obtain ⟨ed, g1, g2, g3, g4, g5, _, _, _, _⟩ := link_good hm hx hw hp hk
      exact ⟨g4, g5⟩) q) hE
end Go.Proofs.Ytgnpjhellmfhoaa

/-
  Context: package best: what the answers say of any way (plain Lean).
-/
namespace Go.Proofs.Ytgnpjhellmfhoaa
open Go.RowKit Sy

/-- A way is an answer, or costs at least as much as each answer while parts are left. -/
theorem SInv.bound {g : Grf} (hg : GOk g) {R : List Int} (hl : R.length = g.N.toNat) (hr : RestFrom g g.N.toNat 0 R) {H : List PartV} {A : List Cand} (h : SInv g R H A) {P : List Int} {c : Int} (hP : Path g P (g.N - 1) c) :
    (∃ a ∈ A, a.Links = P ∧ a.Cost = c) ∨ (H ≠ [] ∧ ∀ a ∈ A, a.Cost ≤ c) := by
  rcases h.co P c hP with ⟨a, ha, e⟩ | ⟨x, hx, e⟩
  · have := h.pa a ha
    rw [e] at this
    exact .inl ⟨a, ha, e, (hP.det this).2⟩
  · refine .inr ⟨fun e => (by rw [e] at hx; cases hx), fun a ha => ?_⟩
    obtain ⟨hp, r, h1, h2, h3⟩ := h.ph x hx
    obtain ⟨ms, rfl⟩ := e
    obtain ⟨q, d1, d2, s1, s2, e3⟩ := Seg.split hP.seg
    obtain ⟨e1, e2⟩ := hp.seg.det s1
    rw [e1] at s2
    have a1 := rest_le hg hl hr s2 rfl r h1
    have a2 := h.le a ha x hx
    omega
/-- At the end of the list: no part is left, or there are as many answers as were asked for. -/
theorem SInv.best {g : Grf} (hg : GOk g) {R : List Int} (hl : R.length = g.N.toNat) (hr : RestFrom g g.N.toNat 0 R) {H : List PartV} {A : List Cand} {k : Nat} (h : SInv g R H A) (hk : 1 ≤ k) (he : H = [] ∨ A.length = k) {P : List Int} {c : Int} (hP : Path g P (g.N - 1) c) :
    0 < A.length ∧ (∀ h0 : 0 < A.length, A[0].Cost ≤ c) ∧ ((∃ a ∈ A, a.Links = P ∧ a.Cost = c) ∨ (A.length = k ∧ ∀ a ∈ A, a.Cost ≤ c)) := by
  have hb := h.bound hg hl hr hP
  have hb2 : (∃ a ∈ A, a.Links = P ∧ a.Cost = c) ∨ (A.length = k ∧ ∀ a ∈ A, a.Cost ≤ c) := by
    rcases hb with hb | ⟨h1, h2⟩
    · exact .inl hb
    · rcases he with he | he
      · exact absurd he h1
      · exact .inr ⟨he, h2⟩
  have hpos : 0 < A.length := by
    rcases hb2 with ⟨a, ha, _⟩ | ⟨h1, _⟩
    · exact List.length_pos_of_mem ha
    · omega
  refine ⟨hpos, fun h0 => ?_, hb2⟩
  rcases hb2 with ⟨a, ha, _, e⟩ | ⟨_, h2⟩
  · obtain ⟨j, hj, rfl⟩ := List.getElem_of_mem ha
    by_cases e0 : j = 0
    · subst e0; omega
    · have := List.pairwise_iff_getElem.1 h.so 0 j h0 hj (by omega)
      omega
  · exact h2 _ (List.getElem_mem h0)
/-- The start: one part that has no link yet. -/
theorem SInv.start {g : Grf} {R : List Int} (ad : Option Addr) (cp : Nat) {r : Int} (hr : R[0]? = some r) (hf : r < 1152921504606846976) : SInv g R [⟨ad, cp, [], 0, 0, r⟩] [] := by
  refine ⟨fun x hx => ?_, (fun a ha => by cases ha), List.Pairwise.nil, (fun a ha => by cases ha), ?_, fun ls c _ => .inr ⟨_, List.mem_singleton.2 rfl, List.nil_prefix⟩⟩
  · obtain rfl := List.mem_singleton.1 hx
    exact ⟨Path.nil, r, hr, hf, by simp only; omega⟩
  · exact List.pairwise_singleton ..
end Go.Proofs.Ytgnpjhellmfhoaa

/-
  Context: package best: what the walk of List needs: own objects in any order, a further link behind immutable links, answers.
-/
namespace Go.Proofs.Ytgnpjhellmfhoaa
open Go.RowKit Sy

theorem seps_perm {L L' : List Own} {h : Mem} (hp : L.Perm L') : ∀ {bs : List Nat}, Seps L bs h → ∃ bs', bs'.Perm bs ∧ Seps L' bs' h := by
  induction hp with
  | nil => intro bs hs; exact ⟨bs, List.Perm.refl _, hs⟩
  | cons a _ ih =>
    intro bs hs
    obtain ⟨b1, b2, e, h1, h2⟩ := hs
    obtain ⟨b3, p3, h3⟩ := ih h2
    exact ⟨b1 ++ b3, by rw [e]; exact List.Perm.append_left _ p3, b1, b3, rfl, h1, h3⟩
  | swap a b l =>
    intro bs hs
    obtain ⟨b1, b2, e, h1, b3, b4, e2, h2, h3⟩ := hs
    refine ⟨b3 ++ (b1 ++ b4), ?_, b3, b1 ++ b4, rfl, h2, b1, b4, rfl, h1, h3⟩
    rw [e, e2, ← List.append_assoc, ← List.append_assoc]
    exact List.Perm.append_right _ List.perm_append_comm
  | trans _ _ ih1 ih2 =>
    intro bs hs
    obtain ⟨b1, p1, h1⟩ := ih1 hs
    obtain ⟨b2, p2, h2⟩ := ih2 h1
    exact ⟨b2, p2.trans p1, h2⟩
theorem st_perm {w0 w : World} {μ : Mem} {L L' : List Own} (h : St w0 w μ L) (hp : L.Perm L') : St w0 w μ L' :=
  ⟨h.below, h.imm, let ⟨_, h1, h2, h3⟩ := h.own; let ⟨bs', p, h4⟩ := seps_perm hp h1; ⟨bs', h4, p.nodup_iff.2 h2, fun b hb => h3 b (p.mem_iff.1 hb)⟩⟩
theorem front_perm {α : Type} {e : α} : ∀ {L : List α} {k : Nat}, L[k]? = some e → L.Perm (e :: L.eraseIdx k)
  | [], _, h => by simp at h
  | a :: L, 0, h => by
    obtain rfl : a = e := by simpa using h
    exact List.Perm.refl _
  | a :: L, k + 1, h => by
    rw [List.eraseIdx_cons_succ]
    exact ((front_perm (by simpa using h)).cons a).trans (List.Perm.swap _ _ _)
theorem st_front {w0 w : World} {μ : Mem} {L : List Own} {e : Own} (h : St w0 w μ L) (k : Nat) (hk : L[k]? = some e) : St w0 w μ (e :: L.eraseIdx k) := by
  exact st_perm h (front_perm hk)
section
variable {P : Program} {S : World → Prop} {m : List (Nat × Value)} {t : TypeId} {x y y2 : Operand} {d : TypeDesc} {z : Value} {by_ sz : Nat}
/-- s[:i:j] -/
theorem slice3_ex {e : TypeId} {ad : Option Addr} {l c' i j : Nat} {k k2 : IntKind} {p q : Int} (ht : P.underlying t = some (.slice e)) (he : TI P e d z sz by_) (hx : ev m x = some (.slice ad l c')) (hy : ev m y = some (.int k p)) (hy2 : ev m y2 = some (.int k2 q)) (hp : p = (i : Int)) (hq : q = (j : Int)) (hi : i ≤ j) (hj : j ≤ c') :
    Ex P S m (.slice t x none (some y) (some y2)) (.slice ad i j) := fun ρ ha w _ o ho => by
  subst hp; subst hq
  have e1 : (Go.underlying t).run P w = .ok (.slice e) w := by simp [Go.underlying, program, Sem.run, ht, go_sem]
  have e2 := he.sizeOf w
  have e3 : (ad.map fun a => a.add (0 * sz)) = ad := by cases ad <;> simp [Addr.add]
  have h1 : (i : Int) ≤ (j : Int) := by omega
  have h2 : (j : Int) ≤ (c' : Int) := by omega
  have e4 : (Instr.sliceBound (.int k (i : Int)) j .slice3B).run P w = .ok i w := by simp [Instr.sliceBound, asIntOf, h1, go_sem]
  have e5 : (Instr.sliceBound (.int k2 (j : Int)) c' .slice3Acap).run P w = .ok j w := by simp [Instr.sliceBound, asIntOf, h2, go_sem]
  simp only [execOp, ho, ha _ _ hx, ha _ _ hy, ha _ _ hy2, Option.map_some, Option.map_none, Instr.sliceAt, Instr.slice, Instr.sliceBounds, Sem.run_bind, e1, Result.andThen_ok, Sem.run_pure, if_true, e4, e5, e2, e3, Nat.sub_zero, ite_self]
end
/-- append of one number to numbers in immutable memory that have no room. -/
theorem append_imm {P : Program} {m : List (Nat × Value)} {t E : TypeId} {x y : Operand} {w0 w : World} {μ : Mem} {L : List Own} {o' : Call} {d : TypeDesc} {z : Value} {by_ : Nat} {ad : Option Addr} {c0 g off c2 : Nat} {xs : List Int} {i : Int}
    (ho' : o' = { callee := .builtin .append, args := #[x, y], argTypes := #[t, t] }) (ht : P.underlying t = some (.slice E)) (hE : TI P E d z 1 by_) (hz : z.cells.size = 1)
    (hS : St w0 w μ L) (hs : Sl μ ad c0 xs) (hx : ev m x = some (.slice ad xs.length xs.length)) (hy : ev m y = some (.slice (some ⟨g, off, none⟩) 1 c2))
    (hv : w.cell? ⟨g, off, none⟩ = some (.int .i64 i)) (h63 : xs.length + 1 ≤ maxLen) (hb : (xs.length + 1) * by_ ≤ 140737488355328) :
    Hv P m (.call o') w (fun u w' => ∃ g' c', u = .slice (some ⟨g', 0, none⟩) (xs ++ [i]).length c' ∧ St w0 w' μ (Own.sl (some ⟨g', 0, none⟩) (xs ++ [i]).length c' E 1 ((xs ++ [i]).map fun z => Value.int .i64 z) :: L)) := by
  rw [show (xs ++ [i]).length = xs.length + 1 by simp]
  cases ad with
  | none =>
    have hx0 : xs = [] := by
      cases xs with
      | nil => rfl
      | cons a r => obtain ⟨b, o, e, _⟩ := hs.at (i := 0) (by simp); cases e
    subst hx0
    have hS := nil_sl E 1 hS
    refine (Hv.append (k := 0) (vs := [.int .i64 i]) ho' ht hE hz hS rfl hx hy rfl (fun j u hu => ?_) (by simp [Value.oneCell']) (by simpa using h63) (by simpa using hb)).mono fun u w' ⟨ad', c', hu, hS'⟩ => ?_
    · match j with
      | 0 => simp at hu; subst hu; exact hv
      | j + 1 => simp at hu
    · obtain ⟨g', rfl⟩ := hS'.sl_some 0 rfl (by omega)
      exact ⟨g', c', hu, hS'⟩
  | some a =>
    refine .of_run fun ρ ha op hop => ?_
    subst ho'
    obtain ⟨inf, hi, z1, z2, z3⟩ := hE.info
    have hsz : inf.size = 1 := z2
    have hby : inf.bytes = by_ := z3
    have holds : ∀ j v, (xs.map fun z => Value.int .i64 z)[j]? = some v → w.cell? (a.add j) = some v := fun j v hj => by
      rw [List.getElem?_map] at hj
      cases hj2 : xs[j]? with
      | none => rw [hj2] at hj; cases hj
      | some q =>
        rw [hj2] at hj
        obtain ⟨hl, hq⟩ := List.getElem?_eq_some_iff.1 hj2
        obtain ⟨b, o, e, hr⟩ := hs.at hl
        cases e
        have hadd : (⟨b, o, none⟩ : Addr).add j = ⟨b, o + j, none⟩ := by unfold Addr.add; split <;> simp_all
        have hr' : μ.cell b (o + j * 1 + 0) = some (.int .i64 xs[j]) := hr
        rw [Nat.mul_one, Nat.add_zero] at hr'
        rw [hadd, hS.imm.cell hr', hq]
        exact hj
    have hnew : ∀ j v, ([.int .i64 i] : List Value)[j]? = some v → w.cell? ((⟨g, off, none⟩ : Addr).add j) = some v := fun j v hj => by
      match j with
      | 0 =>
        simp at hj; subst hj
        have hadd : (⟨g, off, none⟩ : Addr).add 0 = ⟨g, off, none⟩ := by unfold Addr.add; split <;> simp_all
        rw [hadd]; exact hv
      | j + 1 => simp at hj
    have hfit := growslice_fits (need := xs.length + 1) (old := xs.length) (bytes := inf.bytes) (by omega) (by rw [hby]; exact hb)
    have hr := run_append_grow (P := P) (w := w) t op.type E inf z ht hi z1 a xs.length xs.length (xs.map fun z => Value.int .i64 z) (by rw [hsz, List.length_map, Nat.mul_one]) holds ⟨g, off, none⟩ 1 c2 [.int .i64 i] (by rw [hsz]; rfl) hnew (by omega) (by simp only [maxLen] at h63; omega) hfit
    have hge := grownCap_ge w (xs.length + 1) xs.length E
    have hcm : grownCap w (xs.length + 1) xs.length E ≤ maxLen := grownCap_le_maxLen w (xs.length + 1) xs.length E h63
    obtain ⟨C, hC⟩ : ∃ C, C = grownCap w (xs.length + 1) xs.length E := ⟨_, rfl⟩
    rw [← hC] at hr hge hcm
    obtain ⟨w', hw'⟩ : ∃ w', w' = w.drew.alloc (.cells ((xs.map fun z => Value.int .i64 z).toArray ++ [Value.int .i64 i].toArray ++ Builtin.zeroCells z.cells (C - (xs.length + 1))) E) := ⟨_, rfl⟩
    rw [← hw'] at hr
    refine ⟨.slice (some ⟨w.heap.size, 0, none⟩) (xs.length + 1) C, w', by simp only [execOp, hop, resolve, invoke, builtin, Sem.run_bind, Sem.run_pure, Result.andThen_ok, List.map_toArray, List.map_cons, List.map_nil, ha _ _ hx, ha _ _ hy, hr], w.heap.size, C, rfl, ?_⟩
    have h1 := hS.drew.alloc (((xs ++ [i]).map fun z => Value.int .i64 z) ++ (Builtin.zeroCells z.cells (C - (xs.length + 1))).toList) E
    have e : (((xs ++ [i]).map fun z => Value.int .i64 z) ++ (Builtin.zeroCells z.cells (C - (xs.length + 1))).toList).toArray = (xs.map fun z => Value.int .i64 z).toArray ++ [Value.int .i64 i].toArray ++ Builtin.zeroCells z.cells (C - (xs.length + 1)) := by
      apply Array.ext'; simp
    rw [e, ← hw'] at h1
    have h2 := h1.close_sl 0 rfl (xs.length + 1) C 1 hge hcm (by simp only [List.length_append, List.length_map, List.length_singleton, Array.length_toList, size_zeroCells, hz]; omega)
    dsimp only [List.set] at h2
    rw [List.take_left' (by rw [List.length_map, List.length_append, List.length_singleton, Nat.mul_one])] at h2
    exact h2

/-! ### Answers -/
def candL (x : PartV) : List Value := [.slice x.ad x.ls.length x.cp, .int .i64 x.cost]
def candOf (x : PartV) : Cand := ⟨x.ls, x.cost⟩
theorem candReps {μ : Mem} : ∀ As : List PartV, (∀ x ∈ As, Lain μ x) → RepL μ (As.flatMap candL) (As.map candOf)
  | [], _ => RepL.nil μ
  | x :: r, h => by
    have h1 : RepL μ (candL x) [candOf x] := (RepL.nil μ).snoc rfl ⟨⟨x.ad, x.cp, rfl, h x (List.mem_cons_self ..)⟩, rfl⟩
    exact h1.append (candReps r fun y hy => h y (List.mem_cons_of_mem _ hy))
theorem Lain.mono {n : Nat} {μ μ' : Mem} {x : PartV} (h : Lain μ x) (hm : Mem.ext n μ μ') : Lain μ' x := Sl.mono (μ := μ) (μ' := μ') h hm
/-- No part at the start: there is no way. -/
theorem SInv.start0 {g : Grf} (hg : GOk g) {R : List Int} (hl : R.length = g.N.toNat) (hr : RestFrom g g.N.toNat 0 R) {r : Int} (h0 : R[0]? = some r) (hf : ¬ r < 1152921504606846976) : SInv g R [] [] := by
  refine ⟨(fun x hx => by cases hx), (fun a ha => by cases ha), List.Pairwise.nil, (fun a ha => by cases ha), List.Pairwise.nil, fun ls c hc => ?_⟩
  have h1 := rest_le hg hl hr hc.seg rfl r h0
  have h2 := seg_cost hg hc.seg
  have h3 := hg.n2
  omega
theorem head_least {hs qs : List PartV} {x : PartV} {n : Nat} (hn : hs.length = n + 1) (hx : hs[0]? = some x) (h : hp hs.length (keyW hs)) (hp' : hs.Perm (x :: qs)) : ∀ y ∈ qs, x.whole ≤ y.whole := fun y hy => by
  have hm : y ∈ hs := hp'.mem_iff.2 (List.mem_cons_of_mem _ hy)
  obtain ⟨j, hj, rfl⟩ := List.getElem_of_mem hm
  have h1 := hp_min h j j (Nat.le_refl _) hj
  rw [key_at hx, key_at (List.getElem?_eq_getElem hj)] at h1
  exact h1
/-- What one list's kids weigh. -/
def wOut (g : Grf) (ls : List Nat) : Nat := (ls.map fun (i : Nat) => W g (lkAt g i).To.toNat).sum
theorem wOut_take {g : Grf} {ls : List Nat} {t : Nat} (h : t < ls.length) : wOut g (ls.take (t + 1)) = wOut g (ls.take t) + W g (lkAt g ls[t]).To.toNat := by
  unfold wOut
  rw [List.take_succ_eq_append_getElem h, List.map_append, List.sum_append_nat]; simp
theorem wOut_le {g : Grf} : ∀ (ls : List Nat) (t : Nat), wOut g (ls.take t) ≤ wOut g ls
  | [], t => by simp [wOut]
  | a :: r, 0 => by simp [wOut]
  | a :: r, t + 1 => by
    have := wOut_le (g := g) r t
    unfold wOut at *
    rw [List.take_succ_cons, List.map_cons, List.map_cons, List.sum_cons, List.sum_cons]; omega
/-- The parts put away so far. -/
structure Kids (g : Grf) (R : List Int) (x : PartV) (O : List Nat) (t : Nat) (ks : List PartV) : Prop where
  kid : ∀ k ∈ ks, ∃ i ∈ O.take t, Kid g R x i k
  ap : (ks.map (·.ls)).Pairwise apart
  all : ∀ i ∈ O.take t, (∃ r, R[(lkAt g i).To.toNat]? = some r ∧ r < 1152921504606846976) → ∃ k ∈ ks, k.ls = x.ls ++ [(i : Int)]
  ws : wsH g ks ≤ wOut g (O.take t)
theorem Kids.start (g : Grf) (R : List Int) (x : PartV) (O : List Nat) : Kids g R x O 0 [] :=
  ⟨(fun k hk => by cases hk), List.Pairwise.nil, (fun i hi => by simp at hi), by simp [wsH]⟩
theorem take_mem {O : List Nat} {t i : Nat} (ht : t < O.length) : i ∈ O.take (t + 1) ↔ i ∈ O.take t ∨ i = O[t] := by
  rw [List.take_succ_eq_append_getElem ht, List.mem_append, List.mem_singleton]
theorem Kids.skip {g : Grf} {R : List Int} {x : PartV} {O : List Nat} {t : Nat} {ks : List PartV} (h : Kids g R x O t ks) (ht : t < O.length) {r : Int} (hr : R[(lkAt g O[t]).To.toNat]? = some r) (hf : r = 1152921504606846976) : Kids g R x O (t + 1) ks := by
  refine ⟨fun k hk => ?_, h.ap, fun i hi hx => ?_, by rw [wOut_take ht]; have := h.ws; omega⟩
  · obtain ⟨i, hi, hk2⟩ := h.kid k hk
    exact ⟨i, (take_mem ht).2 (.inl hi), hk2⟩
  · rcases (take_mem ht).1 hi with hi | hi
    · exact h.all i hi hx
    · subst hi
      obtain ⟨r', h1, h2⟩ := hx
      rw [hr] at h1
      have := Option.some.inj h1
      omega
theorem Kids.put {g : Grf} {R : List Int} {x y : PartV} {O : List Nat} {t : Nat} {ks : List PartV} (h : Kids g R x O t ks) (ht : t < O.length) (hO : O.Pairwise (· < ·)) (hy : Kid g R x O[t] y) : Kids g R x O (t + 1) (y :: ks) := by
  refine ⟨fun k hk => ?_, ?_, fun i hi hx => ?_, ?_⟩
  · rcases List.mem_cons.1 hk with rfl | hk
    · exact ⟨_, (take_mem ht).2 (.inr rfl), hy⟩
    · obtain ⟨i, hi, hk2⟩ := h.kid k hk
      exact ⟨i, (take_mem ht).2 (.inl hi), hk2⟩
  · rw [List.map_cons, List.pairwise_cons]
    refine ⟨fun s hs => ?_, h.ap⟩
    obtain ⟨k, hk, rfl⟩ := List.mem_map.1 hs
    obtain ⟨i, hi, hk2⟩ := h.kid k hk
    rw [hy.ls, hk2.ls]
    obtain ⟨j, hj, rfl⟩ := List.getElem_of_mem hi
    have hj2 : j < t := by rw [List.length_take] at hj; omega
    rw [List.getElem_take]
    have := List.pairwise_iff_getElem.1 hO j t (by omega) ht hj2
    exact apart_kids (by omega)
  · rcases (take_mem ht).1 hi with hi | hi
    · obtain ⟨k, hk, e⟩ := h.all i hi hx
      exact ⟨k, List.mem_cons_of_mem _ hk, e⟩
    · subst hi
      exact ⟨y, List.mem_cons_self .., hy.ls⟩
  · rw [wsH_cons, wOut_take ht, hy.pos]
    have := h.ws; omega
theorem SInv.kids {g : Grf} (hg : GOk g) {R : List Int} (hl : R.length = g.N.toNat) (hr : RestFrom g g.N.toNat 0 R) {x : PartV} {H ks : List PartV} {A : List Cand} {q : Nat} {O : List Nat} {t : Nat} (h : SInv g R (x :: H) A) (hx : x.pos ≠ g.N - 1) (hq : x.pos = q) (hO : O = outTo g g.Links.length q) (hk : Kids g R x O t ks) (ht : ¬ t < O.length) : SInv g R (ks ++ H) A := by
  have e : O.take t = outTo g g.Links.length x.pos.toNat := by rw [List.take_of_length_le (by omega), hO, hq, Int.toNat_natCast]
  obtain ⟨k1, k2, k3, k4⟩ := hk
  rw [e] at k1 k3
  exact SInv.grow hg hl hr h hx k1 k2 k3
theorem Kids.weigh {g : Grf} (hg : GOk g) {R : List Int} {x : PartV} {ks : List PartV} {q : Nat} {O : List Nat} {t : Nat} (hq : x.pos = q) (hqn : q < g.N.toNat) (hO : O = outTo g g.Links.length q) (hk : Kids g R x O t ks) : wsH g ks < W g x.pos.toNat := by
  have h1 := hk.ws
  have h2 := wOut_le (g := g) O t
  have h3 := W_links hg hqn
  rw [hq, Int.toNat_natCast]
  have h4 : wOut g O = ((outTo g g.Links.length q).map fun (i : Nat) => W g (lkAt g i).To.toNat).sum := by unfold wOut; rw [hO]
  omega
theorem seg_pos {g : Grf} (hg : GOk g) {p q d : Int} {ms : List Int} (h : Seg g p ms q d) : 0 ≤ d := by
  induction h with
  | nil p => omega
  | cons i hi hf h2 ih =>
    have := hg.lk _ (lkAt_mem hi); omega
theorem seg_len {g : Grf} (hg : GOk g) {p q d : Int} {ms : List Int} (h : Seg g p ms q d) : (ms.length : Int) ≤ q - p := by
  induction h with
  | nil p => simp
  | cons i hi hf h2 ih =>
    have := hg.lk _ (lkAt_mem hi)
    rw [List.length_cons]; omega
theorem Path.app {g : Grf} {p q d : Int} {ms : List Int} (h : Seg g p ms q d) : ∀ {ls : List Int} {c : Int}, Path g ls p c → Path g (ls ++ ms) q (c + d) := by
  induction h with
  | nil p => intro ls c hp; rw [List.append_nil, Int.add_zero]; exact hp
  | cons i hi hf hs ih =>
    intro ls c hp
    have := ih (Path.snoc i hp hi hf)
    rw [List.append_assoc, Int.add_assoc] at this
    exact this
/-- What List answers. -/
def IsList (g : Grf) (k : Nat) (μ : Mem) (v : Value) : Prop := ∃ (R : List Int) (H : List PartV) (A : List Cand) (ad : Option Addr) (c : Nat), R.length = g.N.toNat ∧ RestFrom g g.N.toNat 0 R ∧ SInv g R H A ∧ (H = [] ∨ A.length = k) ∧ A.length ≤ k ∧ v = .tuple #[.slice ad A.length c, .int .i64 0] ∧ Sl μ ad c A
end Go.Proofs.Ytgnpjhellmfhoaa

/-
  Context: the walk of best.List.
-/
namespace Go.Proofs.Ytgnpjhellmfhoaa
open Go.RowKit Sy
theorem rd_skip {μ : Mem} {e a b : Own} {L : List Own} {w : World} (h : Rd μ (e :: a :: b :: L) w) : Rd μ (e :: L) w := (h.erase 1).erase 1
set_option maxRecDepth 100000 in
set_option maxHeartbeats 4000000 in
theorem list_c (g : Grf) (hg : GOk g) (hW : W g 0 ≤ 1000000) (k : Nat) (hk : k ≤ 50) (a4 : Option Addr) (c4 : Nat) (μ : Mem) (w : World) (hμ : Imm μ w) (hgl : Sl μ a4 c4 g.Links) :
    Calls Try.prog 24 #[.agg #[.int .i64 g.N, .slice a4 g.Links.length c4], .int .i64 k] w (RetV w μ (IsList g k)) := by
  have hgk := hg
  obtain ⟨n1, n2, nl, hlk⟩ := hgk
  have hoN : (outL g).length = g.N.toNat := by unfold outL; rw [List.length_map, List.length_range]
  have hS := St.start w μ hμ
  refine calls_start 116 [.agg #[.int .i64 g.N, .slice a4 g.Links.length c4], .int .i64 k] Try.func24 rfl Try.ntmps24 rfl rfl ?_
  refine CW.seq fun K1 hK1 => ?_
  refine CW.region [0, 1, 2] rfl ?_
  refine LW.hv rfl rfl rfl rfl (Hv.boxS hS rfl rfl) fun v w2 ⟨b2, hv, hb2, hS⟩ => ?_
  subst hv
  refine LW.ex rfl rfl rfl rfl (Ex.assign rfl) hS.rd ?_
  refine LW.ex rfl rfl rfl rfl (Ex.assign rfl) hS.rd ?_
  refine LW.nil fun aa ha => hK1 _ _ _ ?_ aa ha
  refine CW.seq fun K2 hK2 => ?_
  refine CW.seq fun K3 hK3 => ?_
  refine CW.region [0, 1, 2] rfl ?_
  refine LW.ex rfl rfl rfl rfl (Ex.load2c ti46 rfl rfl (by first | exact obT rfl | exact Rd.imm ‹_› | exact slT ‹_›) (by first | exact obT rfl | exact Rd.imm ‹_› | exact slT ‹_›)) hS.rd ?_
  refine LW.hv rfl rfl rfl rfl (Hv.callS hS rfl rfl rfl cb46 (bvalid_c g hg _ _ μ _ hS.imm hgl)) fun v w17 ⟨hv, hS⟩ => ?_
  subst hv
  refine LW.ex rfl rfl rfl rfl (Ex.not rfl rfl) hS.rd ?_
  refine LW.nil fun aa ha => hK3 _ _ _ ?_ aa ha
  refine CW.no rfl ?_
  refine CW.skip fun aa ha => hK2 _ _ _ ?_ aa ha
  refine CW.seq fun K4 hK4 => ?_
  refine CW.seq fun K5 hK5 => ?_
  refine CW.region [0, 1, 2, 3, 4, 5] rfl ?_
  refine LW.ex rfl rfl rfl rfl (Ex.move rfl) hS.rd ?_
  refine LW.ex rfl rfl rfl rfl (Ex.lss rfl rfl rfl) hS.rd ?_
  refine LW.splitB (fun h3_1 => ?_) (fun h3_1 => ?_)
  · have h3_1 := of_decide_eq_true h3_1
    omega
  · have h3_1 := of_decide_eq_false h3_1
    refine LW.ex rfl rfl rfl rfl (Ex.move rfl) hS.rd ?_
    refine LW.ex rfl rfl rfl rfl (Ex.move rfl) hS.rd ?_
    refine LW.ex rfl rfl rfl rfl (Ex.gtr rfl rfl rfl) hS.rd ?_
    refine LW.splitB (fun h3_4 => ?_) (fun h3_4 => ?_)
    · have h3_4 := of_decide_eq_true h3_4
      omega
    · have h3_4 := of_decide_eq_false h3_4
      refine LW.ex rfl rfl rfl rfl (by first | exact Ex.pick_yes rfl rfl | exact Ex.pick_no rfl rfl) hS.rd ?_
      refine LW.nil fun aa ha => hK5 _ _ _ ?_ aa ha
      refine CW.no rfl ?_
      refine CW.skip fun aa ha => hK4 _ _ _ ?_ aa ha
      refine CW.seq fun K6 hK6 => ?_
      have hsz5 := hS.below.size
      refine CW.region [0, 1, 2] rfl ?_
      refine LW.ex rfl rfl rfl rfl (Ex.load2c ti46 rfl rfl (by first | exact obT rfl | exact Rd.imm ‹_› | exact slT ‹_›) (by first | exact obT rfl | exact Rd.imm ‹_› | exact slT ‹_›)) hS.rd ?_
      refine LW.hv rfl rfl rfl rfl (Hv.callV hS rfl rfl rfl cb47 (out_c g hg _ _ μ _ hS.imm hgl)) fun v w26 ⟨μ26, hv26, hm26, hS⟩ => ?_
      obtain ⟨a5, c5, hv, hol⟩ := hv26
      subst hv
      have hgl := hgl.mono hm26
      refine LW.ex rfl rfl rfl rfl (Ex.assign rfl) hS.rd ?_
      refine LW.nil fun aa ha => hK6 _ _ _ ?_ aa ha
      refine CW.seq fun K7 hK7 => ?_
      have hsz6 := hS.below.size
      refine CW.region [0, 1, 2, 3] rfl ?_
      refine LW.ex rfl rfl rfl rfl (Ex.load2c ti46 rfl rfl (by first | exact obT rfl | exact Rd.imm ‹_› | exact slT ‹_›) (by first | exact obT rfl | exact Rd.imm ‹_› | exact slT ‹_›)) hS.rd ?_
      refine LW.ex rfl rfl rfl rfl (Ex.move rfl) hS.rd ?_
      refine LW.hv rfl rfl rfl rfl (Hv.callV hS rfl rfl rfl cb48 (least_c g hg _ _ _ _ μ26 _ hS.imm hgl hol)) fun v w29 ⟨μ29, hv29, hm29, hS⟩ => ?_
      obtain ⟨R, hRl, hR, a7, c7, hv, hrl⟩ := hv29
      subst hv
      have hgl := hgl.mono hm29
      have hol := hol.mono hm29
      refine LW.ex rfl rfl rfl rfl (Ex.assign rfl) hS.rd ?_
      refine LW.nil fun aa ha => hK7 _ _ _ ?_ aa ha
      refine CW.seq fun K8 hK8 => ?_
      have hM := (hm26.mono hsz5).trans (hm29.mono hsz6)
      have hSl := hS
      have hR0 : 0 < R.length := by omega
      obtain ⟨br, orr, rfl, kr0⟩ := hrl.at hR0
      obtain ⟨r0, hr0e⟩ : ∃ r0, r0 = R[0] := ⟨_, rfl⟩
      rw [← hr0e] at kr0
      have hr0 : R[0]? = some r0 := by rw [hr0e]; exact List.getElem?_eq_getElem hR0
      have hS := hSl
      refine CW.region [0, 1, 2] rfl ?_
      refine LW.ex rfl rfl rfl rfl (Ex.buildS st115 rfl rfl rfl) hS.rd ?_
      refine LW.hv rfl rfl rfl rfl (Hv.alloc ti115 hS) fun v w8 ⟨b8, hv, hb8, hS⟩ => ?_
      subst hv
      refine LW.hu rfl rfl rfl (Hv.storeN (k := 0) ti115 hS rfl rfl rfl rfl (by simp [Value.oneCell'])) fun _ w_2 hS => ?_
      dsimp only [List.set] at hS
      refine LW.nil fun aa ha => hK8 _ _ _ ?_ aa ha
      refine CW.seq fun K9 hK9 => ?_
      have hJ8 : ∀ (wj : World) (hs : List PartV) (adh : Option Addr) (ch : Nat), St w wj μ29 [Own.obj b8 [.slice adh hs.length ch, .func (.func 49) #[] #[]] 115, Own.sl adh hs.length ch 110 4 (hs.flatMap partL), Own.obj b2 [.int .i64 g.N, .slice a4 g.Links.length c4] 46] → (SInv g R hs []) → (hp hs.length (keyW hs)) → (∀ y ∈ hs, Lain μ29 y) → (wsH g hs ≤ W g 0) → KW K9 116 [(1, .int .i64 k), (2, .pointer (some ⟨b2, 0, none⟩)), (6, .slice a5 (outL g).length c5), (7, .slice (some ⟨br, orr, none⟩) R.length c7), (8, .pointer (some ⟨b8, 0, none⟩))] wj := by
        intro wj hs adh ch hS hI hH hl hw
        refine hK9 _ _ _ ?_
        refine CW.seq fun K10 hK10 => ?_
        refine CW.region [0] rfl ?_
        refine LW.ex rfl rfl rfl rfl (Ex.assign rfl) hS.rd ?_
        refine LW.nil fun aa ha => hK10 _ _ _ ?_ aa ha
        refine CW.seq fun K11 hK11 => ?_
        refine CW.block ?_
        have hS := nil_sl 58 2 hS
        have hS := st_front hS 2 rfl
        dsimp only [List.eraseIdx] at hS
        have hS := st_front hS 2 rfl
        dsimp only [List.eraseIdx] at hS
        have hgl0 := hgl
        have hol0 := hol
        have hrl0 := hrl
        refine CW.loop (fun qq frm wl11 => ∃ (hs As : List PartV) (adh ada : Option Addr) (ch ca na : Nat) (μL : Mem), na ≤ k ∧ qq = wsH g hs ∧ frm = [(1, .int .i64 k), (2, .pointer (some ⟨b2, 0, none⟩)), (6, .slice a5 (outL g).length c5), (7, .slice (some ⟨br, orr, none⟩) R.length c7), (8, .pointer (some ⟨b8, 0, none⟩)), (9, .slice ada na ca)] ∧ St w wl11 μL [Own.obj b8 [.slice adh hs.length ch, .func (.func 49) #[] #[]] 115, Own.sl adh hs.length ch 110 4 (hs.flatMap partL), Own.sl ada na ca 58 2 (As.flatMap candL), Own.obj b2 [.int .i64 g.N, .slice a4 g.Links.length c4] 46] ∧ (na = As.length) ∧ (SInv g R hs (As.map candOf)) ∧ (hp hs.length (keyW hs)) ∧ (∀ y ∈ hs, Lain μL y) ∧ (∀ y ∈ As, Lain μL y) ∧ (wsH g hs ≤ W g 0) ∧ (Mem.ext w.heap.size μ29 μL)) _ ⟨hs, [], adh, none, ch, 0, 0, μ29, (by first | omega | (simp; done) | (simp; omega)), rfl, rfl, hS, rfl, hI, hH, hl, (fun y hy => by cases hy), hw, Mem.ext.refl _ _⟩ ⟨rfl, rfl, rfl, rfl, rfl, rfl, trivial⟩ ?_
        clear hS
        rintro qq frm wl11 ⟨hs, As, adh, ada, ch, ca, na, μL, hnk, hq, rfl, hS, hna, hI, hH, hl, hlA, hw, hmL⟩
        have hgl := hgl0.mono hmL
        have hol := hol0.mono hmL
        have hrl := hrl0.mono hmL
        refine CW.seq fun K12 hK12 => ?_
        refine CW.seq fun K13 hK13 => ?_
        refine CW.region [0, 1, 2, 3, 4, 5, 6, 7, 8, 9] rfl ?_
        refine LW.ex rfl rfl rfl rfl (Ex.fieldO 0 Try.underlying115 rfl rfl ti113 rfl) hS.rd ?_
        refine LW.ex rfl rfl rfl rfl (Ex.load1 ti113 rfl rfl (by first | exact obT rfl | exact Rd.imm ‹_› | exact slT ‹_›)) hS.rd ?_
        refine LW.ex rfl rfl rfl rfl (Ex.lenSl rfl Try.underlying113 rfl) hS.rd ?_
        refine LW.ex rfl rfl rfl rfl (Ex.gtr rfl rfl rfl) hS.rd ?_
        refine LW.splitB (fun h11_3 => ?_) (fun h11_3 => ?_)
        · have h11_3 := of_decide_eq_true h11_3
          refine LW.ex rfl rfl rfl rfl (Ex.move rfl) hS.rd ?_
          refine LW.ex rfl rfl rfl rfl (Ex.move rfl) hS.rd ?_
          refine LW.ex rfl rfl rfl rfl (Ex.lenSl rfl Try.underlying76 rfl) hS.rd ?_
          refine LW.ex rfl rfl rfl rfl (Ex.move rfl) hS.rd ?_
          refine LW.ex rfl rfl rfl rfl (Ex.lss rfl rfl rfl) hS.rd ?_
          refine LW.splitB (fun h11_8 => ?_) (fun h11_8 => ?_)
          · have h11_8 := of_decide_eq_true h11_8
            refine LW.ex rfl rfl rfl rfl (by first | exact Ex.pick_yes rfl rfl | exact Ex.pick_no rfl rfl) hS.rd ?_
            refine LW.nil fun aa ha => hK13 _ _ _ ?_ aa ha
            refine CW.yes rfl ?_
            refine CW.skip fun aa ha => hK12 _ _ _ ?_ aa ha
            refine CW.block ?_
            refine CW.seq fun K14 hK14 => ?_
            obtain ⟨n, hn⟩ : ∃ n, hs.length = n + 1 := ⟨hs.length - 1, by omega⟩
            obtain ⟨x, hx⟩ : ∃ x, hs[0]? = some x := ⟨hs[0]'(by omega), List.getElem?_eq_getElem (by omega)⟩
            obtain ⟨l, hl0⟩ : ∃ l, hs[n]? = some l := ⟨hs[n]'(by omega), List.getElem?_eq_getElem (by omega)⟩
            have hlx := hl x (List.mem_of_getElem? hx)
            have hwl := wsH_len g hs
            have hmin : ∀ qs, hs.Perm (x :: qs) → ∀ y ∈ qs, x.whole ≤ y.whole := fun qs h => head_least hn hx hH h
            rw [hn] at hS hH
            refine CW.region [0, 1, 2] rfl ?_
            refine LW.hv rfl rfl rfl rfl (Hv.callM rfl rfl rfl cb52 (pop_m hs x l hn hx hl0 hS (by omega) hl)) fun v w50 ⟨qs, hv, hql, hqp, hqh, hS⟩ => ?_
            subst hv
            subst hql
            refine LW.hv rfl rfl rfl rfl (Hv.alloc ti110 hS) fun v w10 ⟨b10, hv, hb10, hS⟩ => ?_
            subst hv
            refine LW.hu rfl rfl rfl (Hv.storeN (k := 0) ti110 hS rfl rfl rfl rfl (by simp [Value.oneCell'])) fun _ w_2 hS => ?_
            dsimp only [List.set] at hS
            refine LW.nil fun aa ha => hK14 _ _ _ ?_ aa ha
            refine CW.seq fun K15 hK15 => ?_
            refine CW.seq fun K16 hK16 => ?_
            have hwp := wsH_perm (g := g) hqp
            rw [wsH_cons] at hwp
            have hIx := hI.perm hqp
            have hWp := W_pos g x.pos.toNat
            have hpx := (hIx.ph x (List.mem_cons_self ..)).path
            have hin := path_in hg hpx
            have hcost := seg_cost hg hpx.seg
            have hcost0 := seg_pos hg hpx.seg
            have hxlen := seg_len hg hpx.seg
            have hlq : ∀ y ∈ qs, Lain μL y := fun y hy => hl y (hqp.mem_iff.2 (List.mem_cons_of_mem _ hy))
            have hH2 := hqh hH
            have hmin2 := hmin qs hqp
            refine CW.region [0, 1, 2, 3, 4, 5] rfl ?_
            refine LW.ex rfl rfl rfl rfl (Ex.fieldO 1 Try.underlying110 rfl rfl ti3 rfl) hS.rd ?_
            refine LW.ex rfl rfl rfl rfl (Ex.load1 ti3 rfl rfl (by first | exact obT rfl | exact Rd.imm ‹_› | exact slT ‹_›)) hS.rd ?_
            refine LW.ex rfl rfl rfl rfl (Ex.fieldO 0 Try.underlying46 rfl rfl ti3 rfl) hS.rd ?_
            refine LW.ex rfl rfl rfl rfl (Ex.load1 ti3 rfl rfl (by first | exact obT rfl | exact Rd.imm ‹_› | exact slT ‹_›)) hS.rd ?_
            refine LW.ex rfl rfl rfl rfl (Ex.sub rfl rfl (w64 (by omega) (by omega))) hS.rd ?_
            refine LW.ex rfl rfl rfl rfl (Ex.eql rfl rfl rfl) hS.rd ?_
            refine LW.splitB (fun h13_5 => ?_) (fun h13_5 => ?_)
            · have h13_5 := of_decide_eq_true h13_5
              refine LW.nil fun aa ha => hK16 _ _ _ ?_ aa ha
              refine CW.yes rfl ?_
              refine CW.seq fun K17 hK17 => ?_
              refine CW.region [0, 1, 2, 3, 4, 5, 6, 7, 8] rfl ?_
              refine LW.ex rfl rfl rfl rfl (Ex.move rfl) hS.rd ?_
              refine LW.ex rfl rfl rfl rfl (Ex.fieldO 0 Try.underlying110 rfl rfl ti31 rfl) hS.rd ?_
              refine LW.ex rfl rfl rfl rfl (Ex.load1 ti31 rfl rfl (by first | exact obT rfl | exact Rd.imm ‹_› | exact slT ‹_›)) hS.rd ?_
              refine LW.ex rfl rfl rfl rfl (Ex.fieldO 2 Try.underlying110 rfl rfl ti3 rfl) hS.rd ?_
              refine LW.ex rfl rfl rfl rfl (Ex.load1 ti3 rfl rfl (by first | exact obT rfl | exact Rd.imm ‹_› | exact slT ‹_›)) hS.rd ?_
              refine LW.ex rfl rfl rfl rfl (Ex.buildS st58 rfl rfl rfl) hS.rd ?_
              refine LW.hv rfl rfl rfl rfl (Hv.buildSl hS Try.underlying76 ti58 rfl rfl rfl rfl rfl rfl) fun v w63 ⟨b63, hv, hb63, hS⟩ => ?_
              subst hv
              refine LW.hv rfl rfl rfl rfl (Hv.append (k := 4) rfl Try.underlying76 ti58 rfl hS rfl rfl rfl rfl (Rd.objAll (k := 0) rfl hS.rd) (by simp [Value.oneCell']) (by unfold maxLen; omega) (by omega)) fun v w64 ⟨ad64, c64, hv, hS⟩ => ?_
              subst hv
              dsimp only [List.set] at hS
              have hS := hS.drop 0 rfl
              dsimp only [List.eraseIdx] at hS
              rw [show As.flatMap candL ++ [Value.slice x.ad x.ls.length x.cp, .int .i64 x.cost] = (As ++ [x]).flatMap candL by rw [List.flatMap_append, List.flatMap_singleton]; rfl] at hS
              refine LW.ex rfl rfl rfl rfl (Ex.assign rfl) hS.rd ?_
              refine LW.nil fun aa ha => hK17 _ _ _ ?_ aa ha
              refine CW.exit fun aa ha => ?_
              have hS := hS.drop 0 rfl
              dsimp only [List.eraseIdx] at hS
              refine ⟨_, _, ?m11, ⟨qs, As ++ [x], adh, ad64, ch, c64, na + 1, μL, (by first | omega | (simp; done) | (simp; omega)), rfl, rfl, hS, by rw [List.length_append, hna]; rfl, by rw [List.map_append]; exact SInv.take hg hR hIx hmin2 h13_5, hH2, hlq, fun y hy => (List.mem_append.1 hy).elim (hlA y) fun h => by obtain rfl := List.mem_singleton.1 h; exact hlx, by omega, hmL⟩, ha.sub ⟨rfl, rfl, rfl, rfl, rfl, rfl, trivial⟩⟩
              case m11 => omega
            · have h13_5 := of_decide_eq_false h13_5
              refine LW.nil fun aa ha => hK16 _ _ _ ?_ aa ha
              refine CW.no rfl ?_
              refine CW.skip fun aa ha => hK15 _ _ _ ?_ aa ha
              refine CW.seq fun K18 hK18 => ?_
              obtain ⟨q, hxq⟩ : ∃ q : Nat, x.pos = q := ⟨x.pos.toNat, by omega⟩
              rw [hxq] at hS
              have hqn : q < g.N.toNat := by omega
              have hqo : q < (outL g).length := by omega
              have hSl := hS
              obtain ⟨bo, oo, rfl, ⟨ad9, c9, kq, hs9⟩⟩ := hol.at hqo
              have hS := hSl
              obtain ⟨O, hO⟩ : ∃ O, O = outTo g g.Links.length q := ⟨_, rfl⟩
              have hOl : O.length ≤ 20000 := by rw [hO]; exact Nat.le_trans (outTo_len _ _ _) nl
              have hOs : O.Pairwise (· < ·) := by rw [hO]; exact List.Pairwise.filter _ List.pairwise_lt_range
              have hel : (outL g)[q] = O.map fun (k : Nat) => (k : Int) := by simp only [outL, List.getElem_map, List.getElem_range, hO]
              rw [hel] at kq hs9
              rw [List.length_map] at kq
              refine CW.region [0, 1, 2, 3, 4, 5, 6] rfl ?_
              refine LW.ex rfl rfl rfl rfl (Ex.move rfl) hS.rd ?_
              refine LW.ex rfl rfl rfl rfl (Ex.fieldO 1 Try.underlying110 rfl rfl ti3 rfl) hS.rd ?_
              refine LW.ex rfl rfl rfl rfl (Ex.load1 ti3 rfl rfl (by first | exact obT rfl | exact Rd.imm ‹_› | exact slT ‹_›)) hS.rd ?_
              refine LW.ex rfl rfl rfl rfl (Ex.indexSl Try.underlying106 ti31 rfl rfl rfl (by omega)) hS.rd ?_
              refine LW.ex rfl rfl rfl rfl (Ex.load1 ti31 rfl rfl (by first | exact obT rfl | exact Rd.imm ‹_› | exact slT ‹_›)) hS.rd ?_
              refine LW.ex rfl rfl rfl rfl (Ex.lenSl rfl Try.underlying31 rfl) hS.rd ?_
              refine LW.ex rfl rfl rfl rfl (Ex.move rfl) hS.rd ?_
              refine LW.nil fun aa ha => hK18 _ _ _ ?_ aa ha
              refine CW.block ?_
              have hS := st_front hS 2 rfl
              dsimp only [List.eraseIdx] at hS
              have hS := st_front hS 2 rfl
              dsimp only [List.eraseIdx] at hS
              refine CW.loop (fun qq frm wl16 => ∃ (t : Nat) (ks qs2 : List PartV) (adh2 : Option Addr) (ch2 : Nat) (μM : Mem), t ≤ O.length ∧ qq = O.length - t ∧ frm = [(1, .int .i64 k), (2, .pointer (some ⟨b2, 0, none⟩)), (6, .slice (some ⟨bo, oo, none⟩) (outL g).length c5), (7, .slice (some ⟨br, orr, none⟩) R.length c7), (8, .pointer (some ⟨b8, 0, none⟩)), (9, .slice ada na ca), (10, .pointer (some ⟨b10, 0, none⟩)), (69, .slice ad9 O.length c9), (70, .int .i64 O.length), (71, .int .i64 t)] ∧ St w wl16 μM [Own.obj b8 [.slice adh2 qs2.length ch2, .func (.func 49) #[] #[]] 115, Own.sl adh2 qs2.length ch2 110 4 (qs2.flatMap partL), Own.obj b10 [.slice x.ad x.ls.length x.cp, .int .i64 q, .int .i64 x.cost, .int .i64 x.whole] 110, Own.sl ada na ca 58 2 (As.flatMap candL), Own.obj b2 [.int .i64 g.N, .slice a4 g.Links.length c4] 46] ∧ (qs2.Perm (ks ++ qs)) ∧ (Kids g R x O t ks) ∧ (hp qs2.length (keyW qs2)) ∧ (∀ y ∈ qs2, Lain μM y) ∧ (Mem.ext w.heap.size μL μM)) _ ⟨0, [], qs, adh, ch, μL, (by first | omega | (simp; done) | (simp; omega)), rfl, rfl, hS, List.Perm.refl _, Kids.start g R x O, hH2, hlq, Mem.ext.refl _ _⟩ ⟨rfl, rfl, rfl, rfl, rfl, rfl, rfl, rfl, rfl, rfl, trivial⟩ ?_
              clear hS
              rintro qq frm wl16 ⟨t, ks, qs2, adh2, ch2, μM, ht, hq, rfl, hS, hpm, hK, hH3, hl2, hmM⟩
              have hgl := hgl.mono hmM
              have hrl := hrl.mono hmM
              have hs9 := hs9.mono hmM
              have hlxM := hlx.mono hmM
              have hwk := hK.weigh hg hxq hqn hO
              have hwq := wsH_perm (g := g) hpm
              rw [wsH_append] at hwq
              have hql2 := wsH_len g qs2
              refine CW.seq fun K19 hK19 => ?_
              refine CW.region [0] rfl ?_
              refine LW.ex rfl rfl rfl rfl (Ex.lss rfl rfl rfl) hS.rd ?_
              refine LW.splitB (fun h16_0 => ?_) (fun h16_0 => ?_)
              · have h16_0 := of_decide_eq_true h16_0
                refine LW.nil fun aa ha => hK19 _ _ _ ?_ aa ha
                refine CW.seq fun K20 hK20 => ?_
                refine CW.yes rfl ?_
                refine CW.skip fun aa ha => hK20 _ _ _ ?_ aa ha
                refine CW.seq fun K21 hK21 => ?_
                refine CW.block ?_
                refine CW.seq fun K22 hK22 => ?_
                have hSl := hS
                have ht2 : t < O.length := by omega
                obtain ⟨be, oe, rfl, ke⟩ := hs9.at (i := t) (by rw [List.length_map]; exact ht2)
                obtain ⟨i, hi⟩ : ∃ i, i = O[t] := ⟨_, rfl⟩
                rw [show (O.map fun (k : Nat) => (k : Int))[t]'(by rw [List.length_map]; exact ht2) = (i : Int) by rw [List.getElem_map, hi]] at ke
                have him : i ∈ outTo g g.Links.length q := by rw [hi, ← hO]; exact List.getElem_mem ht2
                obtain ⟨hi2, hi3⟩ := outTo_mem him
                obtain ⟨bl, ol, rfl, k0, k1, k2, k3⟩ := hgl.at hi2
                have hkk := hlk _ (List.getElem_mem hi2)
                have hto := hg.to him
                rw [lkAt_nat hi2] at hto
                obtain ⟨z, hz⟩ : ∃ z, z = g.Links[i] := ⟨_, rfl⟩
                have hzl : lkAt g i = z := by rw [lkAt_nat hi2, hz]
                rw [← hz] at k0 k1 k2 k3 hkk hto
                obtain ⟨tv, htv⟩ : ∃ v : Nat, z.To = v := ⟨z.To.toNat, by omega⟩
                rw [htv] at k1
                have hvl : tv < R.length := by omega
                obtain ⟨_, _, er, kr⟩ := hrl.at hvl
                cases er
                obtain ⟨r, hr⟩ : ∃ r, r = R[tv] := ⟨_, rfl⟩
                rw [← hr] at kr
                have hrg : R[tv]? = some r := by rw [hr]; exact List.getElem?_eq_getElem hvl
                have hrb := hR.1 r (List.mem_of_getElem? hrg)
                have hrO : R[(lkAt g O[t]).To.toNat]? = some r := by rw [← hi, hzl, htv, Int.toNat_natCast]; exact hrg
                have hS := hSl
                refine CW.region [0, 1, 2] rfl ?_
                refine LW.ex rfl rfl rfl rfl (Ex.indexSl Try.underlying31 ti3 rfl rfl rfl (by omega)) hS.rd ?_
                refine LW.ex rfl rfl rfl rfl (Ex.load1 ti3 rfl rfl (by first | exact obT rfl | exact Rd.imm ‹_› | exact slT ‹_›)) hS.rd ?_
                refine LW.ex rfl rfl rfl rfl (Ex.assign rfl) hS.rd ?_
                refine LW.nil fun aa ha => hK22 _ _ _ ?_ aa ha
                refine CW.seq fun K23 hK23 => ?_
                refine CW.region [0, 1, 2, 3, 4, 5, 6] rfl ?_
                refine LW.ex rfl rfl rfl rfl (Ex.fieldO 1 Try.underlying46 rfl rfl ti44 rfl) hS.rd ?_
                refine LW.ex rfl rfl rfl rfl (Ex.load1 ti44 rfl rfl (by first | exact obT rfl | exact Rd.imm ‹_› | exact slT ‹_›)) hS.rd ?_
                refine LW.ex rfl rfl rfl rfl (Ex.move rfl) hS.rd ?_
                refine LW.ex rfl rfl rfl rfl (Ex.indexSl Try.underlying44 ti66 rfl rfl rfl (by omega)) hS.rd ?_
                refine LW.ex rfl rfl rfl rfl (Ex.load4c ti66 rfl rfl (by first | exact obT rfl | exact Rd.imm ‹_› | exact slT ‹_›) (by first | exact obT rfl | exact Rd.imm ‹_› | exact slT ‹_›) (by first | exact obT rfl | exact Rd.imm ‹_› | exact slT ‹_›) (by first | exact obT rfl | exact Rd.imm ‹_› | exact slT ‹_›)) hS.rd ?_
                refine LW.hv rfl rfl rfl rfl (Hv.alloc ti66 hS) fun v w13 ⟨b13, hv, hb13, hS⟩ => ?_
                subst hv
                refine LW.hu rfl rfl rfl (Hv.storeN (k := 0) ti66 hS rfl rfl rfl rfl (by simp [Value.oneCell'])) fun _ w_6 hS => ?_
                dsimp only [List.set] at hS
                refine LW.nil fun aa ha => hK23 _ _ _ ?_ aa ha
                refine CW.seq fun K24 hK24 => ?_
                refine CW.seq fun K25 hK25 => ?_
                refine CW.region [0, 1, 2, 3, 4, 5] rfl ?_
                refine LW.ex rfl rfl rfl rfl (Ex.move rfl) hS.rd ?_
                refine LW.ex rfl rfl rfl rfl (Ex.fieldO 1 Try.underlying66 rfl rfl ti3 rfl) hS.rd ?_
                refine LW.ex rfl rfl rfl rfl (Ex.load1 ti3 rfl rfl (by first | exact obT rfl | exact Rd.imm ‹_› | exact slT ‹_›)) hS.rd ?_
                refine LW.ex rfl rfl rfl rfl (Ex.indexSl Try.underlying31 ti3 rfl rfl rfl (by omega)) hS.rd ?_
                refine LW.ex rfl rfl rfl rfl (Ex.load1 ti3 rfl rfl (by first | exact obT rfl | exact Rd.imm ‹_› | exact slT ‹_›)) hS.rd ?_
                refine LW.ex rfl rfl rfl rfl (Ex.eql rfl rfl rfl) hS.rd ?_
                refine LW.splitB (fun h19_5 => ?_) (fun h19_5 => ?_)
                · have h19_5 := of_decide_eq_true h19_5
                  refine LW.nil fun aa ha => hK25 _ _ _ ?_ aa ha
                  refine CW.yes rfl ?_
                  refine CW.exit fun aa ha => hK21 _ _ _ ?_ aa ha
                  refine CW.region [0, 1] rfl ?_
                  refine LW.ex rfl rfl rfl rfl (Ex.add rfl rfl (by first | exact inc64 (by omega) | exact addN (by omega) | exact w64 (by omega) (by omega))) hS.rd ?_
                  refine LW.ex rfl rfl rfl rfl (Ex.move rfl) hS.rd ?_
                  refine LW.nil fun aa ha => ?_
                  have hS := hS.drop 0 rfl
                  dsimp only [List.eraseIdx] at hS
                  refine ⟨_, _, ?m16, ⟨t + 1, ks, qs2, adh2, ch2, μM, (by first | omega | (simp; done) | (simp; omega)), rfl, rfl, hS, hpm, hK.skip ht2 hrO h19_5, hH3, hl2, hmM⟩, ha.sub ⟨rfl, rfl, rfl, rfl, rfl, rfl, rfl, rfl, rfl, rfl, trivial⟩⟩
                  case m16 => omega
                · have h19_5 := of_decide_eq_false h19_5
                  refine LW.nil fun aa ha => hK25 _ _ _ ?_ aa ha
                  refine CW.no rfl ?_
                  refine CW.skip fun aa ha => hK24 _ _ _ ?_ aa ha
                  refine CW.seq fun K26 hK26 => ?_
                  refine CW.region [0, 1, 2, 3, 4, 5] rfl ?_
                  refine LW.ex rfl rfl rfl rfl (Ex.fieldO 2 Try.underlying110 rfl rfl ti3 rfl) hS.rd ?_
                  refine LW.ex rfl rfl rfl rfl (Ex.load1 ti3 rfl rfl (by first | exact obT rfl | exact Rd.imm ‹_› | exact slT ‹_›)) hS.rd ?_
                  refine LW.ex rfl rfl rfl rfl (Ex.fieldO 3 Try.underlying66 rfl rfl ti3 rfl) hS.rd ?_
                  refine LW.ex rfl rfl rfl rfl (Ex.load1 ti3 rfl rfl (by first | exact obT rfl | exact Rd.imm ‹_› | exact slT ‹_›)) hS.rd ?_
                  refine LW.ex rfl rfl rfl rfl (Ex.add rfl rfl (w64 (by omega) (by omega))) hS.rd ?_
                  refine LW.ex rfl rfl rfl rfl (Ex.assign rfl) hS.rd ?_
                  refine LW.nil fun aa ha => hK26 _ _ _ ?_ aa ha
                  refine CW.seq fun K27 hK27 => ?_
                  refine CW.region [0, 1, 2, 3] rfl ?_
                  refine LW.ex rfl rfl rfl rfl (Ex.fieldO 0 Try.underlying110 rfl rfl ti31 rfl) hS.rd ?_
                  refine LW.ex rfl rfl rfl rfl (Ex.load1 ti31 rfl rfl (by first | exact obT rfl | exact Rd.imm ‹_› | exact slT ‹_›)) hS.rd ?_
                  refine LW.ex rfl rfl rfl rfl (Ex.lenSl rfl Try.underlying31 rfl) hS.rd ?_
                  refine LW.ex rfl rfl rfl rfl (Ex.assign rfl) hS.rd ?_
                  refine LW.nil fun aa ha => hK27 _ _ _ ?_ aa ha
                  have hS := hS.drew
                  refine CW.draw 20 (.ex 0 <| .ex 1 <| .ex 2 <| .ex 3 <| .ex 4 <| .ex 5 <| .ex 8 <| .ex 9 <| .ex 10 <| .ex 11 <| .ex 12 <| .ex 13 <| .ex 14 <| .ex 15 <| .ex 16 <| .ex 17 <| .one 6 <| .one 7 <| .ex 18 <| .one 19 <| .done) [] (Rd _ _) mixed (by kernel_rfl) rfl rfl (rd_skip hS.rd) ?_
                  refine PW.ex rfl rfl rfl rfl (Ex.fieldO 0 Try.underlying110 rfl rfl ti31 rfl) ?_
                  refine PW.ex rfl rfl rfl rfl (Ex.load1 ti31 rfl rfl (by first | exact obT rfl | exact Rd.imm ‹_› | exact slT ‹_›)) ?_
                  refine PW.ex rfl rfl rfl rfl (Ex.move rfl) ?_
                  refine PW.ex rfl rfl rfl rfl (Ex.move rfl) ?_
                  refine PW.ex rfl rfl rfl rfl (slice3_ex Try.underlying31 ti3 rfl rfl rfl rfl rfl (Nat.le_refl _) hlxM.1) ?_
                  refine PW.ex rfl rfl rfl rfl (Ex.move rfl) ?_
                  refine PW.ex rfl rfl rfl rfl (Ex.fieldO 1 Try.underlying66 rfl rfl ti3 rfl) ?_
                  refine PW.ex rfl rfl rfl rfl (Ex.load1 ti3 rfl rfl (by first | exact obT rfl | exact Rd.imm ‹_› | exact slT ‹_›)) ?_
                  refine PW.ex rfl rfl rfl rfl (Ex.move rfl) ?_
                  refine PW.ex rfl rfl rfl rfl (Ex.move rfl) ?_
                  refine PW.ex rfl rfl rfl rfl (Ex.move rfl) ?_
                  refine PW.ex rfl rfl rfl rfl (Ex.fieldO 1 Try.underlying66 rfl rfl ti3 rfl) ?_
                  refine PW.ex rfl rfl rfl rfl (Ex.load1 ti3 rfl rfl (by first | exact obT rfl | exact Rd.imm ‹_› | exact slT ‹_›)) ?_
                  refine PW.ex rfl rfl rfl rfl (Ex.indexSl Try.underlying31 ti3 rfl rfl rfl (by omega)) ?_
                  refine PW.ex rfl rfl rfl rfl (Ex.load1 ti3 rfl rfl (by first | exact obT rfl | exact Rd.imm ‹_› | exact slT ‹_›)) ?_
                  refine PW.ex rfl rfl rfl rfl (Ex.add rfl rfl (w64 (by omega) (by omega))) ?_
                  refine PW.hv rfl rfl rfl rfl (Hv.buildSl hS Try.underlying31 ti3 rfl rfl rfl rfl rfl rfl) (fun _ _ ⟨_, _, _, h⟩ => rd_skip h.rd.tail) fun v w100 ⟨b100, hv, hb100, hS⟩ => ?_
                  subst hv
                  refine PW.hv rfl rfl rfl rfl (append_imm rfl Try.underlying31 ti3 rfl hS hlxM rfl rfl (Rd.objAll (k := 0) rfl hS.rd 0 _ rfl) (by simp only [maxLen]; omega) (by omega)) (fun _ _ ⟨_, _, _, h⟩ => rd_skip h.rd.tail.tail) fun v w101 ⟨g101, c101, hv, hS⟩ => ?_
                  subst hv
                  obtain ⟨bs, μ3, hm3, hS, hφ⟩ := hS.shut 0 rfl
                  dsimp only [List.eraseIdx] at hS
                  have hly : Lain μ3 (⟨some ⟨g101, 0, none⟩, c101, x.ls ++ [(i : Int)], tv, x.cost + z.Cost, x.cost + z.Cost + r⟩ : PartV) := Sl.of_own hφ (RepL.ints _ _) rfl
                  have hyk : Kid g R x O[t] (⟨some ⟨g101, 0, none⟩, c101, x.ls ++ [(i : Int)], tv, x.cost + z.Cost, x.cost + z.Cost + r⟩ : PartV) := by
                    rw [← hi]
                    exact ⟨rfl, by rw [hzl, htv], by rw [hzl], r, by rw [hzl, htv, Int.toNat_natCast]; exact hrg, by omega, rfl⟩
                  refine PW.ex rfl rfl rfl rfl (Ex.buildS st110 rfl rfl rfl) ?_
                  have hS := st_front hS 3 rfl
                  dsimp only [List.eraseIdx] at hS
                  have hS := st_front hS 3 rfl
                  dsimp only [List.eraseIdx] at hS
                  refine PW.hv rfl rfl rfl rfl (Hv.callM rfl rfl rfl cb51 (push_m qs2 (⟨some ⟨g101, 0, none⟩, c101, x.ls ++ [(i : Int)], tv, x.cost + z.Cost, x.cost + z.Cost + r⟩ : PartV) hS (by omega) (fun y hy => (hl2 y hy).mono hm3) hly)) (fun _ _ ⟨_, _, _, _, _, h⟩ => Rd.le hm3 h.rd.tail.tail.tail) fun v w113 ⟨ad3, c3, qs3, hpm3, hhp3, hS⟩ => ?_
                  have hS := st_front hS 3 rfl
                  dsimp only [List.eraseIdx] at hS
                  have hS := st_front hS 3 rfl
                  dsimp only [List.eraseIdx] at hS
                  have hly3 : ∀ u ∈ qs3, Lain μ3 u := fun u hu => by
                    rcases List.mem_cons.1 (hpm3.mem_iff.1 hu) with rfl | hu
                    · exact hly
                    · exact (hl2 u hu).mono hm3
                  refine PW.nil ?_
                  refine LW.nil fun aa ha => hK21 _ _ _ ?_ aa ha
                  refine CW.region [0, 1] rfl ?_
                  refine LW.ex rfl rfl rfl rfl (Ex.add rfl rfl (by first | exact inc64 (by omega) | exact addN (by omega) | exact w64 (by omega) (by omega))) hS.rd ?_
                  refine LW.ex rfl rfl rfl rfl (Ex.move rfl) hS.rd ?_
                  refine LW.nil fun aa ha => ?_
                  have hS := hS.drop 0 rfl
                  dsimp only [List.eraseIdx] at hS
                  have hS := hS.drop 0 rfl
                  dsimp only [List.eraseIdx] at hS
                  refine ⟨_, _, ?m16, ⟨t + 1, (⟨some ⟨g101, 0, none⟩, c101, x.ls ++ [(i : Int)], tv, x.cost + z.Cost, x.cost + z.Cost + r⟩ : PartV) :: ks, qs3, ad3, c3, μ3, (by first | omega | (simp; done) | (simp; omega)), rfl, rfl, hS, hpm3.trans (hpm.cons _), hK.put ht2 hOs hyk, hhp3 hH3, hly3, hmM.trans hm3⟩, ha.sub ⟨rfl, rfl, rfl, rfl, rfl, rfl, rfl, rfl, rfl, rfl, trivial⟩⟩
                  case m16 => omega
              · have h16_0 := of_decide_eq_false h16_0
                refine LW.nil fun aa ha => hK19 _ _ _ ?_ aa ha
                refine CW.seq fun K28 hK28 => ?_
                refine CW.no rfl ?_
                refine CW.exit fun aa ha => ?_
                have hS := hS.drop 2 rfl
                dsimp only [List.eraseIdx] at hS
                refine ⟨_, _, ?m11, ⟨qs2, As, adh2, ada, ch2, ca, na, μM, (by first | omega | (simp; done) | (simp; omega)), rfl, rfl, hS, hna, (SInv.kids hg hRl hR hIx h13_5 hxq hO hK (by omega)).perm hpm.symm, hH3, hl2, fun y hy => (hlA y hy).mono hmM, by omega, hmL.trans hmM⟩, ha.sub ⟨rfl, rfl, rfl, rfl, rfl, rfl, trivial⟩⟩
                case m11 => omega
          · have h11_8 := of_decide_eq_false h11_8
            refine LW.ex rfl rfl rfl rfl (by first | exact Ex.pick_yes rfl rfl | exact Ex.pick_no rfl rfl) hS.rd ?_
            refine LW.nil fun aa ha => hK13 _ _ _ ?_ aa ha
            refine CW.no rfl ?_
            refine CW.exit fun aa ha => hK11 _ _ _ ?_ aa ha
            refine CW.seq fun K29 hK29 => ?_
            refine CW.region [0, 1, 2] rfl ?_
            refine LW.ex rfl rfl rfl rfl (Ex.move rfl) hS.rd ?_
            refine LW.ex rfl rfl rfl rfl (Ex.assign rfl) hS.rd ?_
            refine LW.ex rfl rfl rfl rfl (Ex.assign rfl) hS.rd ?_
            refine LW.nil fun aa ha => hK29 _ _ _ ?_ aa ha
            refine CW.ret fun aa ha => ?_
            refine ret_two ha Try.results24 rfl rfl ?_
            subst hna
            obtain ⟨bs, μ1, hmm1, hS, hφ⟩ := hS.shut 2 rfl
            exact ⟨_, μ1, rfl, hS.below, hM.trans (hmL.trans hmm1), hS.imm, R, hs, As.map candOf, ada, ca, hRl, hR, hI, .inr (by rw [List.length_map]; omega), by rw [List.length_map]; exact hnk, by rw [List.length_map], Sl.of_own hφ (candReps As fun y hy => (hlA y hy).mono hmm1) (List.length_map ..).symm⟩
        · have h11_3 := of_decide_eq_false h11_3
          refine LW.ex rfl rfl rfl rfl (Ex.move rfl) hS.rd ?_
          refine LW.skip rfl rfl rfl rfl ?_
          refine LW.skip rfl rfl rfl rfl ?_
          refine LW.skip rfl rfl rfl rfl ?_
          refine LW.skip rfl rfl rfl rfl ?_
          refine LW.ex rfl rfl rfl rfl (by first | exact Ex.pick_yes rfl rfl | exact Ex.pick_no rfl rfl) hS.rd ?_
          refine LW.nil fun aa ha => hK13 _ _ _ ?_ aa ha
          refine CW.no rfl ?_
          refine CW.exit fun aa ha => hK11 _ _ _ ?_ aa ha
          refine CW.seq fun K30 hK30 => ?_
          refine CW.region [0, 1, 2] rfl ?_
          refine LW.ex rfl rfl rfl rfl (Ex.move rfl) hS.rd ?_
          refine LW.ex rfl rfl rfl rfl (Ex.assign rfl) hS.rd ?_
          refine LW.ex rfl rfl rfl rfl (Ex.assign rfl) hS.rd ?_
          refine LW.nil fun aa ha => hK30 _ _ _ ?_ aa ha
          refine CW.ret fun aa ha => ?_
          refine ret_two ha Try.results24 rfl rfl ?_
          subst hna
          obtain ⟨bs, μ1, hmm1, hS, hφ⟩ := hS.shut 2 rfl
          exact ⟨_, μ1, rfl, hS.below, hM.trans (hmL.trans hmm1), hS.imm, R, hs, As.map candOf, ada, ca, hRl, hR, hI, .inl (List.eq_nil_of_length_eq_zero (by omega)), by rw [List.length_map]; exact hnk, by rw [List.length_map], Sl.of_own hφ (candReps As fun y hy => (hlA y hy).mono hmm1) (List.length_map ..).symm⟩
      refine CW.seq fun K31 hK31 => ?_
      have hS := nil_sl 110 4 hS
      have hS := hS.swap
      refine CW.region [0, 1, 2, 3] rfl ?_
      refine LW.ex rfl rfl rfl rfl (Ex.move rfl) hS.rd ?_
      refine LW.ex rfl rfl rfl rfl (Ex.indexSl (j := 0) Try.underlying31 ti3 rfl rfl rfl (by omega)) hS.rd ?_
      refine LW.ex rfl rfl rfl rfl (Ex.load1 ti3 rfl rfl (by first | exact obT rfl | exact Rd.imm ‹_› | exact slT ‹_›)) hS.rd ?_
      refine LW.ex rfl rfl rfl rfl (Ex.lss rfl rfl rfl) hS.rd ?_
      refine LW.splitB (fun h8_3 => ?_) (fun h8_3 => ?_)
      · have h8_3 := of_decide_eq_true h8_3
        refine LW.nil fun aa ha => hK31 _ _ _ ?_ aa ha
        refine CW.yes rfl ?_
        refine CW.region [0, 1, 2, 3, 4] rfl ?_
        refine LW.ex rfl rfl rfl rfl (Ex.move rfl) hS.rd ?_
        refine LW.ex rfl rfl rfl rfl (Ex.indexSl (j := 0) Try.underlying31 ti3 rfl rfl rfl (by omega)) hS.rd ?_
        refine LW.ex rfl rfl rfl rfl (Ex.load1 ti3 rfl rfl (by first | exact obT rfl | exact Rd.imm ‹_› | exact slT ‹_›)) hS.rd ?_
        refine LW.ex rfl rfl rfl rfl (Ex.buildS st110 rfl rfl rfl) hS.rd ?_
        refine LW.hv rfl rfl rfl rfl (Hv.callM rfl rfl rfl cb51 (push_m [] ⟨none, 0, [], 0, 0, r0⟩ hS (by simp) (fun y hy => by cases hy) (Sl.nil _ _ _ (by simp [maxLen])))) fun v w39 ⟨adh, ch, hs, hpm, hhp, hS⟩ => ?_
        refine LW.nil fun aa ha => ?_
        refine hJ8 _ (hs) (adh) (ch) hS ((SInv.start none 0 hr0 h8_3).perm hpm.symm) (hhp (fun j _ h => by simp at h)) (fun y hy => by obtain rfl := List.mem_singleton.1 (hpm.mem_iff.1 hy); exact Sl.nil _ _ _ (by simp [maxLen])) (by rw [wsH_perm hpm]; simp [wsH]) aa (ha.sub ⟨rfl, rfl, rfl, rfl, rfl, trivial⟩)
      · have h8_3 := of_decide_eq_false h8_3
        refine LW.nil fun aa ha => hK31 _ _ _ ?_ aa ha
        refine CW.no rfl ?_
        refine CW.skip fun aa ha => ?_
        refine hJ8 _ ([]) (none) (0) hS (SInv.start0 hg hRl hR hr0 h8_3) ((fun j _ h => by simp at h)) ((fun y hy => by cases hy)) (by simp [wsH]) aa (ha.sub ⟨rfl, rfl, rfl, rfl, rfl, trivial⟩)
end Go.Proofs.Ytgnpjhellmfhoaa

/-
  Context: package best: a way of the lattice is a path of its graph (plain Lean).
-/
namespace Go.Proofs.Ytgnpjhellmfhoaa
open Go.RowKit Sy

/-- An edge that leaves a node's place is a link of the node. -/
theorem link_of {x : Lat} {m : Mdl} {L : List I2} {q k : Nat} {z : I2} (hq : L[q]? = some z) (hk : k < x.Edges.length) (hf : (edAt x k).From = z.a) : mkLink x m L q z k ∈ linksTo x m L L.length := by
  obtain ⟨hq1, hq2⟩ := List.getElem?_eq_some_iff.1 hq
  unfold linksTo
  rw [List.take_of_length_le (by simp)]
  refine List.mem_flatMap.2 ⟨(z, q), ?_, ?_⟩
  · have h : L.zipIdx[q]? = some (z, q) := by rw [List.getElem?_zipIdx, hq]; simp
    exact List.mem_of_getElem? h
  · unfold linksOf
    exact List.mem_map.2 ⟨k, List.mem_filter.2 ⟨List.mem_range.2 hk, decide_eq_true hf⟩, rfl⟩
theorem way_path {x : Lat} {m : Mdl} {p : Int} (hm : MdlOk m) (hx : okX x = true) (hw : wordsIn x m.Words.length = true) (hp : -1 ≤ p ∧ p < m.Words.length) :
    ∀ (es : List Nat) (q : Nat) (z : I2), (nodesL x m.Words.length p)[q]? = some z → isWay x z.a es → ∃ ms d, Seg (graphR x m p) q ms ((graphR x m p).N - 1) d ∧ ms.map (lbl (graphR x m p)) = es.map (fun (k : Nat) => (k : Int)) ∧ d = wsum x m z.b es
  | [], q, z, hz, h => by
    have h' : z.a = x.N := h
    obtain ⟨hq1, hq2⟩ := List.getElem?_eq_some_iff.1 hz
    have hq : (q : Int) = (graphR x m p).N - 1 := by
      unfold graphR; simp only
      by_cases h0 : 0 < x.N
      · have := (nodesL_last hx hm.n2 hp h0 hq1).1 (by rw [hq2]; exact h')
        omega
      · have : (nodesL x m.Words.length p).length = 1 := by
          obtain ⟨⟨h1, _, _⟩, _, _⟩ := okX_edges hx
          have e0 : x.N = 0 := by omega
          unfold nodesL midR; simp [e0]
        omega
    exact ⟨[], 0, by rw [← hq]; exact Seg.nil _, rfl, rfl⟩
  | k :: r, q, z, hz, h => by
    obtain ⟨h1, h2, h3⟩ := h
    have hmem := link_of (x := x) (m := m) hz h1 h2
    obtain ⟨i, hi, he⟩ := List.getElem_of_mem hmem
    have hi' : i < (graphR x m p).Links.length := hi
    have hli : lkAt (graphR x m p) i = mkLink x m (nodesL x m.Words.length p) q z k := by rw [lkAt_nat hi']; exact he
    obtain ⟨z0, z', p1, p2, p3, p4, p5, p6, p7⟩ := link_place hm hx hw hp hmem
    have e3 : (mkLink x m (nodesL x m.Words.length p) q z k).Label.toNat = k := by unfold mkLink; simp only [Int.toNat_natCast]
    rw [e3] at p6 p7
    obtain ⟨j, hj⟩ : ∃ j : Nat, (mkLink x m (nodesL x m.Words.length p) q z k).To = j := ⟨toN (nodesL x m.Words.length p) x (edAt x k), rfl⟩
    rw [hj, Int.toNat_natCast] at p2
    obtain ⟨ms, d, s1, s2, s3⟩ := way_path hm hx hw hp r j z' p2 (by rw [p7]; exact h3)
    refine ⟨(i : Int) :: ms, (lkAt (graphR x m p) i).Cost + d, Seg.cons i hi' (by rw [hli]; rfl) (by rw [hli, hj]; exact s1), ?_, ?_⟩
    · rw [List.map_cons, List.map_cons, s2]
      congr 1
      show (lkAt (graphR x m p) i).Label = _
      rw [hli]; rfl
    · rw [hli, s3, wsum]
      have hc : (mkLink x m (nodesL x m.Words.length p) q z k).Cost = (edAt x k).Cost + pairC m z.b (edAt x k).Word := rfl
      rw [hc]
      have hlast : wsum x m z'.b r = wsum x m (edAt x k).Word r := by
        by_cases ht : (edAt x k).To < x.N
        · rw [edAt_of h1] at ht ⊢
          obtain ⟨j', hj', _, hj2, hj3⟩ := toN_at hx hw p h1 ht
          have e1 : j = j' := by
            have : (toN (nodesL x m.Words.length p) x (edAt x k) : Int) = j := hj
            rw [edAt_of h1, hj3] at this; omega
          subst e1
          rw [List.getElem?_eq_getElem hj', hj2] at p2
          rw [← Option.some.inj p2]
        · cases r with
          | nil => rfl
          | cons k2 r2 =>
            obtain ⟨g1, g2, _⟩ := h3
            obtain ⟨_, hed, _⟩ := okX_edges hx
            have := hed _ (List.getElem_mem g1)
            rw [edAt_of g1] at g2; omega
      rw [hlast]
end Go.Proofs.Ytgnpjhellmfhoaa

/-
  Context: the walk of the reference's ways, over edges in immutable memory.
-/
namespace Go.Proofs.Ytgnpjhellmfhoaa
open Go.RowKit Sy

set_option maxRecDepth 100000 in
set_option maxHeartbeats 2000000 in
theorem way_i {w0 w : World} {μ : Mem} {Lr : List Own} {bL cx : Nat} {ax : Option Addr} (x : Lat) (l : List UInt8) (hS : St w0 w μ (Own.obj bL (l.map u8V) 5 :: Lr)) (hxl : Sl μ ax cx x.Edges) (hE : x.Edges.length ≤ 1000) (hll : l.length ≤ 1000000) :
    Calls Try.prog 12 #[.agg #[.int .i64 x.N, .slice ax x.Edges.length cx], .slice (some ⟨bL, 0, none⟩) l.length l.length] w (RetM fun v w' => ∃ ad c, v = .tuple #[.slice ad (wayR x l).1.length c, .bool (wayR x l).2] ∧
      St w0 w' μ (Own.sl ad (wayR x l).1.length c 3 1 ((wayR x l).1.map natV) :: Own.obj bL (l.map u8V) 5 :: Lr)) := by
  have hxc := hxl.1
  refine calls_start 76 [.agg #[.int .i64 x.N, .slice ax x.Edges.length cx], .slice (some ⟨bL, 0, none⟩) l.length l.length] Try.func12 rfl Try.ntmps12 rfl rfl ?_
  refine CW.seq fun K1 hK1 => ?_
  refine CW.region [0, 1, 2] rfl ?_
  refine LW.hv rfl rfl rfl rfl (Hv.boxS hS rfl rfl) fun v w2 ⟨b2, hv, hb2, hS⟩ => ?_
  subst hv
  refine LW.ex rfl rfl rfl rfl (Ex.assign rfl) hS.rd ?_
  refine LW.ex rfl rfl rfl rfl (Ex.assign rfl) hS.rd ?_
  refine LW.nil fun aa ha => hK1 _ _ _ ?_ aa ha
  refine CW.seq fun K2 hK2 => ?_
  refine CW.region [0, 1, 2] rfl ?_
  refine LW.hv rfl rfl rfl rfl (Hv.buildSl hS Try.underlying31 ti3 rfl rfl rfl rfl rfl rfl) fun v w12 ⟨b12, hv, hb12, hS⟩ => ?_
  subst hv
  refine LW.ex rfl rfl rfl rfl (Ex.assign rfl) hS.rd ?_
  refine LW.ex rfl rfl rfl rfl (Ex.assign rfl) hS.rd ?_
  refine LW.nil fun aa ha => hK2 _ _ _ ?_ aa ha
  refine CW.seq fun K3 hK3 => ?_
  refine CW.seq fun K4 hK4 => ?_
  refine CW.region [0] rfl ?_
  refine LW.ex rfl rfl rfl rfl (Ex.assign rfl) hS.rd ?_
  refine LW.nil fun aa ha => hK4 _ _ _ ?_ aa ha
  refine CW.block ?_
  have hS : St w0 _ μ (_ :: _) := hS.row_sl (k := 0) rfl 0 1 rfl (by simp [maxLen])
  refine CW.loop (fun qq frm wl3 => ∃ (i : Nat) (at_ : Int) (ad : Option Addr) (c : Nat) (out : List Nat), i ≤ 40 ∧ out.length = i ∧ qq = 40 - i ∧ frm = [(1, .slice (some ⟨bL, 0, none⟩) l.length l.length), (2, .pointer (some ⟨b2, 0, none⟩)), (6, .int .i64 at_), (7, .slice ad i c), (8, .int .i64 i)] ∧ St w0 wl3 μ (Own.sl ad i c 3 1 (out.map natV) :: Own.obj b2 [.int .i64 x.N, .slice ax x.Edges.length cx] 38 :: Own.obj bL (l.map u8V) 5 :: Lr) ∧ (wayR x l = (out ++ (wayGo x l (40 - i) i at_).1, (wayGo x l (40 - i) i at_).2))) _ ⟨0, 0, some ⟨b12, 0, none⟩, 0, [], (by first | omega | (simp; done) | (simp; omega)), (by first | omega | (simp; done) | (simp; omega)), rfl, rfl, hS, rfl⟩ ⟨rfl, rfl, rfl, rfl, rfl, trivial⟩ ?_
  clear hS
  rintro qq frm wl3 ⟨i, at_, ad, c, out, hi, hoi, hq, rfl, hS, he⟩
  refine CW.seq fun K5 hK5 => ?_
  refine CW.seq fun K6 hK6 => ?_
  refine CW.region [0, 1, 2, 3, 4, 5, 6, 7] rfl ?_
  refine LW.ex rfl rfl rfl rfl (Ex.move rfl) hS.rd ?_
  refine LW.ex rfl rfl rfl rfl (Ex.lss rfl rfl rfl) hS.rd ?_
  refine LW.splitB (fun h3_1 => ?_) (fun h3_1 => ?_)
  · have h3_1 := of_decide_eq_true h3_1
    refine LW.ex rfl rfl rfl rfl (Ex.move rfl) hS.rd ?_
    refine LW.ex rfl rfl rfl rfl (Ex.move rfl) hS.rd ?_
    refine LW.ex rfl rfl rfl rfl (Ex.fieldO 0 Try.underlying38 rfl rfl ti3 rfl) hS.rd ?_
    refine LW.ex rfl rfl rfl rfl (Ex.load1 ti3 rfl rfl (by first | exact obT rfl | exact Rd.imm ‹_› | exact slT ‹_›)) hS.rd ?_
    refine LW.ex rfl rfl rfl rfl (Ex.lss rfl rfl rfl) hS.rd ?_
    refine LW.splitB (fun h3_6 => ?_) (fun h3_6 => ?_)
    · have h3_6 := of_decide_eq_true h3_6
      refine LW.ex rfl rfl rfl rfl (by first | exact Ex.pick_yes rfl rfl | exact Ex.pick_no rfl rfl) hS.rd ?_
      refine LW.nil fun aa ha => hK6 _ _ _ ?_ aa ha
      refine CW.yes rfl ?_
      refine CW.skip fun aa ha => hK5 _ _ _ ?_ aa ha
      refine CW.seq fun K7 hK7 => ?_
      refine CW.block ?_
      refine CW.seq fun K8 hK8 => ?_
      obtain ⟨f, hf⟩ : ∃ f, 40 - i = f + 1 := ⟨40 - i - 1, by omega⟩
      rw [hf, wayGo, if_pos (by omega)] at he
      refine CW.region [0, 1] rfl ?_
      refine LW.hv rfl rfl rfl rfl (Hv.buildSl hS Try.underlying31 ti3 rfl rfl rfl rfl rfl rfl) fun v w23 ⟨b23, hv, hb23, hS⟩ => ?_
      subst hv
      refine LW.ex rfl rfl rfl rfl (Ex.assign rfl) hS.rd ?_
      refine LW.nil fun aa ha => hK8 _ _ _ ?_ aa ha
      refine CW.seq fun K9 hK9 => ?_
      refine CW.seq fun K10 hK10 => ?_
      refine CW.region [0] rfl ?_
      refine LW.ex rfl rfl rfl rfl (Ex.assign rfl) hS.rd ?_
      refine LW.nil fun aa ha => hK10 _ _ _ ?_ aa ha
      refine CW.block ?_
      have hS : St w0 _ μ (_ :: _) := hS.row_sl (k := 0) rfl 0 1 rfl (by simp [maxLen])
      refine CW.loop (fun qq frm wl7 => ∃ (k : Nat) (ad9 : Option Addr) (c9 : Nat) (n9 : Nat) (fs : List Nat), k ≤ x.Edges.length ∧ n9 = fs.length ∧ n9 ≤ k ∧ qq = x.Edges.length - k ∧ frm = [(1, .slice (some ⟨bL, 0, none⟩) l.length l.length), (2, .pointer (some ⟨b2, 0, none⟩)), (6, .int .i64 at_), (7, .slice ad i c), (8, .int .i64 i), (9, .slice ad9 n9 c9), (10, .int .i64 k)] ∧ St w0 wl7 μ (Own.sl ad9 n9 c9 3 1 (fs.map natV) :: Own.sl ad i c 3 1 (out.map natV) :: Own.obj b2 [.int .i64 x.N, .slice ax x.Edges.length cx] 38 :: Own.obj bL (l.map u8V) 5 :: Lr) ∧ (fs = fitAt x at_ k)) _ ⟨0, some ⟨b23, 0, none⟩, 0, 0, [], (by first | omega | (simp; done) | (simp; omega)), (by first | omega | (simp; done) | (simp; omega)), (by first | omega | (simp; done) | (simp; omega)), rfl, rfl, hS, rfl⟩ ⟨rfl, rfl, rfl, rfl, rfl, rfl, rfl, trivial⟩ ?_
      clear hS
      rintro qq frm wl7 ⟨k, ad9, c9, n9, fs, hk, hn9, hn9b, hq, rfl, hS, hfs⟩
      refine CW.seq fun K11 hK11 => ?_
      refine CW.seq fun K12 hK12 => ?_
      refine CW.region [0, 1, 2, 3, 4] rfl ?_
      refine LW.ex rfl rfl rfl rfl (Ex.move rfl) hS.rd ?_
      refine LW.ex rfl rfl rfl rfl (Ex.fieldO 1 Try.underlying38 rfl rfl ti36 rfl) hS.rd ?_
      refine LW.ex rfl rfl rfl rfl (Ex.load1 ti36 rfl rfl (by first | exact obT rfl | exact Rd.imm ‹_› | exact slT ‹_›)) hS.rd ?_
      refine LW.ex rfl rfl rfl rfl (Ex.lenSl rfl Try.underlying36 rfl) hS.rd ?_
      refine LW.ex rfl rfl rfl rfl (Ex.lss rfl rfl rfl) hS.rd ?_
      refine LW.splitB (fun h7_4 => ?_) (fun h7_4 => ?_)
      · have h7_4 := of_decide_eq_true h7_4
        refine LW.nil fun aa ha => hK12 _ _ _ ?_ aa ha
        refine CW.yes rfl ?_
        refine CW.skip fun aa ha => hK11 _ _ _ ?_ aa ha
        refine CW.seq fun K13 hK13 => ?_
        refine CW.block ?_
        refine CW.seq fun K14 hK14 => ?_
        have hk2 : k < x.Edges.length := by omega
        have hsc := fitAt_succ x at_ k
        rw [edAt_of hk2] at hsc
        have hSl := hS
        obtain ⟨bl, ol, rfl, k0, k1, k2, k3⟩ := hxl.at hk2
        have hS := hSl
        refine CW.region [0, 1, 2, 3, 4, 5, 6, 7] rfl ?_
        refine LW.ex rfl rfl rfl rfl (Ex.fieldO 1 Try.underlying38 rfl rfl ti36 rfl) hS.rd ?_
        refine LW.ex rfl rfl rfl rfl (Ex.load1 ti36 rfl rfl (by first | exact obT rfl | exact Rd.imm ‹_› | exact slT ‹_›)) hS.rd ?_
        refine LW.ex rfl rfl rfl rfl (Ex.move rfl) hS.rd ?_
        refine LW.ex rfl rfl rfl rfl (Ex.indexSl Try.underlying36 ti43 rfl rfl rfl (by omega)) hS.rd ?_
        refine LW.ex rfl rfl rfl rfl (Ex.fieldO 0 Try.underlying43 rfl rfl ti3 rfl) hS.rd ?_
        refine LW.ex rfl rfl rfl rfl (Ex.load1 ti3 rfl rfl (by first | exact obT rfl | exact Rd.imm ‹_› | exact slT ‹_›)) hS.rd ?_
        refine LW.ex rfl rfl rfl rfl (Ex.move rfl) hS.rd ?_
        refine LW.ex rfl rfl rfl rfl (Ex.eql rfl rfl rfl) hS.rd ?_
        refine LW.splitB (fun h9_7 => ?_) (fun h9_7 => ?_)
        · have h9_7 := of_decide_eq_true h9_7
          rw [if_pos (by omega)] at hsc
          refine LW.nil fun aa ha => hK14 _ _ _ ?_ aa ha
          refine CW.yes rfl ?_
          refine CW.region [0, 1, 2, 3, 4] rfl ?_
          refine LW.ex rfl rfl rfl rfl (Ex.move rfl) hS.rd ?_
          refine LW.ex rfl rfl rfl rfl (Ex.move rfl) hS.rd ?_
          refine LW.hv rfl rfl rfl rfl (Hv.buildSl hS Try.underlying31 ti3 rfl rfl rfl rfl rfl rfl) fun v w41 ⟨b41, hv, hb41, hS⟩ => ?_
          subst hv
          refine LW.hv rfl rfl rfl rfl (Hv.append (k := 1) rfl Try.underlying31 ti3 rfl hS rfl rfl rfl rfl (Rd.objAll (k := 0) rfl hS.rd) (by simp [Value.oneCell']) (by unfold maxLen; omega) (by omega)) fun v w42 ⟨ad42, c42, hv, hS⟩ => ?_
          subst hv
          dsimp only [List.set] at hS
          have hS := hS.drop 0 rfl
          dsimp only [List.eraseIdx] at hS
          rw [show fs.map natV ++ [Value.int .i64 k] = (fs ++ [k]).map natV by rw [List.map_append]; rfl] at hS
          refine LW.ex rfl rfl rfl rfl (Ex.assign rfl) hS.rd ?_
          refine LW.nil fun aa ha => hK13 _ _ _ ?_ aa ha
          refine CW.region [0, 1, 2] rfl ?_
          refine LW.ex rfl rfl rfl rfl (Ex.move rfl) hS.rd ?_
          refine LW.ex rfl rfl rfl rfl (Ex.add rfl rfl (by first | exact inc64 (by omega) | exact addN (by omega) | exact w64 (by omega) (by omega))) hS.rd ?_
          refine LW.ex rfl rfl rfl rfl (Ex.assign rfl) hS.rd ?_
          refine LW.nil fun aa ha => ?_
          refine ⟨_, _, ?m7, ⟨k + 1, ad42, c42, n9 + 1, fs ++ [k], (by first | omega | (simp; done) | (simp; omega)), (by first | omega | (simp; done) | (simp; omega)), (by first | omega | (simp; done) | (simp; omega)), rfl, rfl, hS, by rw [hsc, hfs]⟩, ha.sub ⟨rfl, rfl, rfl, rfl, rfl, rfl, rfl, trivial⟩⟩
          case m7 => omega
        · have h9_7 := of_decide_eq_false h9_7
          rw [if_neg (by omega)] at hsc
          refine LW.nil fun aa ha => hK14 _ _ _ ?_ aa ha
          refine CW.no rfl ?_
          refine CW.skip fun aa ha => hK13 _ _ _ ?_ aa ha
          refine CW.region [0, 1, 2] rfl ?_
          refine LW.ex rfl rfl rfl rfl (Ex.move rfl) hS.rd ?_
          refine LW.ex rfl rfl rfl rfl (Ex.add rfl rfl (by first | exact inc64 (by omega) | exact addN (by omega) | exact w64 (by omega) (by omega))) hS.rd ?_
          refine LW.ex rfl rfl rfl rfl (Ex.assign rfl) hS.rd ?_
          refine LW.nil fun aa ha => ?_
          refine ⟨_, _, ?m7, ⟨k + 1, ad9, c9, n9, fs, (by first | omega | (simp; done) | (simp; omega)), (by first | omega | (simp; done) | (simp; omega)), (by first | omega | (simp; done) | (simp; omega)), rfl, rfl, hS, by rw [hsc, hfs, List.append_nil]⟩, ha.sub ⟨rfl, rfl, rfl, rfl, rfl, rfl, rfl, trivial⟩⟩
          case m7 => omega
      · have h7_4 := of_decide_eq_false h7_4
        refine LW.nil fun aa ha => hK12 _ _ _ ?_ aa ha
        refine CW.no rfl ?_
        refine CW.exit fun aa ha => hK9 _ _ _ ?_ aa ha
        refine CW.seq fun K15 hK15 => ?_
        refine CW.seq fun K16 hK16 => ?_
        have hke : k = x.Edges.length := by omega
        rw [hke] at hfs
        rw [← hfs] at he
        refine CW.region [0, 1, 2] rfl ?_
        refine LW.ex rfl rfl rfl rfl (Ex.move rfl) hS.rd ?_
        refine LW.ex rfl rfl rfl rfl (Ex.lenSl rfl Try.underlying31 rfl) hS.rd ?_
        refine LW.ex rfl rfl rfl rfl (Ex.eql rfl rfl rfl) hS.rd ?_
        refine LW.splitB (fun h11_2 => ?_) (fun h11_2 => ?_)
        · have h11_2 := of_decide_eq_true h11_2
          refine LW.nil fun aa ha => hK16 _ _ _ ?_ aa ha
          refine CW.yes rfl ?_
          refine CW.seq fun K17 hK17 => ?_
          refine CW.region [0, 1, 2] rfl ?_
          refine LW.ex rfl rfl rfl rfl (Ex.move rfl) hS.rd ?_
          refine LW.ex rfl rfl rfl rfl (Ex.assign rfl) hS.rd ?_
          refine LW.ex rfl rfl rfl rfl (Ex.assign rfl) hS.rd ?_
          refine LW.nil fun aa ha => hK17 _ _ _ ?_ aa ha
          refine CW.ret fun aa ha => ?_
          refine ret_two ha Try.results12 rfl rfl ?_
          rw [if_pos (by omega)] at he
          have e : wayR x l = (out, false) := by rw [he]; simp
          have hS := (hS.drop 0 rfl).drop 1 rfl
          dsimp only [List.eraseIdx] at hS
          rw [e]; refine ⟨_, rfl, ad, c, by simp only [hoi], ?_⟩
          simp only [hoi]; exact hS
        · have h11_2 := of_decide_eq_false h11_2
          refine LW.nil fun aa ha => hK16 _ _ _ ?_ aa ha
          refine CW.no rfl ?_
          refine CW.skip fun aa ha => hK15 _ _ _ ?_ aa ha
          refine CW.seq fun K18 hK18 => ?_
          refine CW.region [0] rfl ?_
          refine LW.ex rfl rfl rfl rfl (Ex.assign rfl) hS.rd ?_
          refine LW.nil fun aa ha => hK18 _ _ _ ?_ aa ha
          refine CW.seq fun K19 hK19 => ?_
          rw [if_neg (by omega)] at he
          have hpl := pickI_lt l i (n := fs.length) (by omega)
          obtain ⟨j, hj⟩ : ∃ j, j = pickI l i fs.length := ⟨_, rfl⟩
          rw [← hj] at hpl he
          rw [List.getElem?_eq_getElem hpl] at he
          simp only [Option.getD_some] at he
          have hfm := fitAt_mem (x := x) (a := at_) (k := x.Edges.length) (i := fs[j]) (by rw [← hfs]; exact List.getElem_mem hpl)
          obtain ⟨hfm1, hfm2⟩ := hfm
          rw [edAt_of hfm1] at he
          obtain ⟨g9, rfl⟩ := hS.sl_some 0 rfl (by omega)
          have hg0 : (fs.map natV)[j]? = some (natV fs[j]) := by rw [List.getElem?_map, List.getElem?_eq_getElem hpl]; rfl
          obtain ⟨e, hee⟩ : ∃ e, e = fs[j] := ⟨_, rfl⟩
          rw [← hee] at hg0
          have hJ14 : ∀ (wj : World) , St w0 wj μ (Own.sl (some ⟨g9, 0, none⟩) n9 c9 3 1 (fs.map natV) :: Own.sl ad i c 3 1 (out.map natV) :: Own.obj b2 [.int .i64 x.N, .slice ax x.Edges.length cx] 38 :: Own.obj bL (l.map u8V) 5 :: Lr) → KW K19 76 [(1, .slice (some ⟨bL, 0, none⟩) l.length l.length), (2, .pointer (some ⟨b2, 0, none⟩)), (7, .slice ad i c), (8, .int .i64 i), (9, .slice (some ⟨g9, 0, none⟩) n9 c9), (11, .int .i64 j)] wj := by
            intro wj  hS 
            refine hK19 _ _ _ ?_
            refine CW.seq fun K20 hK20 => ?_
            refine CW.region [0, 1, 2, 3, 4, 5, 6, 7] rfl ?_
            refine LW.ex rfl rfl rfl rfl (Ex.move rfl) hS.rd ?_
            refine LW.ex rfl rfl rfl rfl (Ex.move rfl) hS.rd ?_
            refine LW.ex rfl rfl rfl rfl (Ex.move rfl) hS.rd ?_
            refine LW.ex rfl rfl rfl rfl (Ex.indexSl Try.underlying31 ti3 rfl rfl rfl (by omega)) hS.rd ?_
            refine LW.ex rfl rfl rfl rfl (Ex.load1 ti3 rfl rfl (slT (v := Value.int .i64 (e : Int)) (by rw [Nat.zero_add, Nat.mul_one]; exact hg0))) hS.rd ?_
            refine LW.hv rfl rfl rfl rfl (Hv.buildSl hS Try.underlying31 ti3 rfl rfl rfl rfl rfl rfl) fun v w64 ⟨b64, hv, hb64, hS⟩ => ?_
            subst hv
            refine LW.hv rfl rfl rfl rfl (Hv.append (k := 2) rfl Try.underlying31 ti3 rfl hS rfl rfl rfl rfl (Rd.objAll (k := 0) rfl hS.rd) (by simp [Value.oneCell']) (by unfold maxLen; omega) (by omega)) fun v w65 ⟨ad65, c65, hv, hS⟩ => ?_
            subst hv
            dsimp only [List.set] at hS
            have hS := hS.drop 0 rfl
            dsimp only [List.eraseIdx] at hS
            rw [show out.map natV ++ [Value.int .i64 e] = (out ++ [e]).map natV by rw [List.map_append]; rfl] at hS
            refine LW.ex rfl rfl rfl rfl (Ex.assign rfl) hS.rd ?_
            refine LW.nil fun aa ha => hK20 _ _ _ ?_ aa ha
            have he2 : e < x.Edges.length := by rw [hee]; exact hfm1
            have hSl := hS
            obtain ⟨bl, ol, rfl, k0, k1, k2, k3⟩ := hxl.at he2
            have hS := hSl
            have hS := hS.drew
            refine CW.draw 10 (.ex 0 <| .ex 1 <| .ex 2 <| .ex 3 <| .ex 4 <| .ex 5 <| .ex 6 <| .ex 7 <| .ex 8 <| .ex 9 <| .done) [] (Rd _ _) mixed (by kernel_rfl) rfl rfl hS.rd ?_
            refine PW.ex rfl rfl rfl rfl (Ex.fieldO 1 Try.underlying38 rfl rfl ti36 rfl) ?_
            refine PW.ex rfl rfl rfl rfl (Ex.load1 ti36 rfl rfl (by first | exact obT rfl | exact Rd.imm ‹_› | exact slT ‹_›)) ?_
            refine PW.ex rfl rfl rfl rfl (Ex.move rfl) ?_
            refine PW.ex rfl rfl rfl rfl (Ex.move rfl) ?_
            refine PW.ex rfl rfl rfl rfl (Ex.indexSl Try.underlying31 ti3 rfl rfl rfl (by omega)) ?_
            refine PW.ex rfl rfl rfl rfl (Ex.load1 ti3 rfl rfl (slT (v := Value.int .i64 (e : Int)) (by rw [Nat.zero_add, Nat.mul_one]; exact hg0))) ?_
            refine PW.ex rfl rfl rfl rfl (Ex.indexSl Try.underlying36 ti43 rfl rfl rfl (by omega)) ?_
            refine PW.ex rfl rfl rfl rfl (Ex.fieldO 1 Try.underlying43 rfl rfl ti3 rfl) ?_
            refine PW.ex rfl rfl rfl rfl (Ex.load1 ti3 rfl rfl (by first | exact obT rfl | exact Rd.imm ‹_› | exact slT ‹_›)) ?_
            refine PW.ex rfl rfl rfl rfl (Ex.assign rfl) ?_
            refine PW.nil ?_
            refine LW.nil fun aa ha => hK7 _ _ _ ?_ aa ha
            refine CW.region [0, 1, 2] rfl ?_
            refine LW.ex rfl rfl rfl rfl (Ex.move rfl) hS.rd ?_
            refine LW.ex rfl rfl rfl rfl (Ex.add rfl rfl (by first | exact inc64 (by omega) | exact addN (by omega) | exact w64 (by omega) (by omega))) hS.rd ?_
            refine LW.ex rfl rfl rfl rfl (Ex.assign rfl) hS.rd ?_
            refine LW.nil fun aa ha => ?_
            have hS := hS.drop 0 rfl
            dsimp only [List.eraseIdx] at hS
            refine ⟨_, _, ?m3, ⟨i + 1, x.Edges[e].To, ad65, c65, out ++ [e], (by first | omega | (simp; done) | (simp; omega)), (by first | omega | (simp; done) | (simp; omega)), rfl, rfl, hS, by rw [he, show 40 - (i + 1) = f by omega]; subst hee; simp⟩, ha.sub ⟨rfl, rfl, rfl, rfl, rfl, trivial⟩⟩
            case m3 => omega
          refine CW.seq fun K21 hK21 => ?_
          refine CW.region [0, 1, 2, 3] rfl ?_
          refine LW.ex rfl rfl rfl rfl (Ex.move rfl) hS.rd ?_
          refine LW.ex rfl rfl rfl rfl (Ex.move rfl) hS.rd ?_
          refine LW.ex rfl rfl rfl rfl (Ex.lenSl rfl Try.underlying24 rfl) hS.rd ?_
          refine LW.ex rfl rfl rfl rfl (Ex.lss rfl rfl rfl) hS.rd ?_
          refine LW.splitB (fun h14_3 => ?_) (fun h14_3 => ?_)
          · have h14_3 := of_decide_eq_true h14_3
            refine LW.nil fun aa ha => hK21 _ _ _ ?_ aa ha
            refine CW.yes rfl ?_
            have hil : i < l.length := by omega
            have hu := l[i].toNat_lt
            have hl0 : (l.map u8V)[i]? = some (Value.int .u8 l[i].toNat) := by rw [List.getElem?_map, List.getElem?_eq_getElem hil]; rfl
            have hjv : j = l[i].toNat % n9 := by rw [hj, hn9]; unfold pickI; rw [List.getElem?_eq_getElem hil]
            refine CW.region [0, 1, 2, 3, 4, 5, 6, 7, 8] rfl ?_
            refine LW.ex rfl rfl rfl rfl (Ex.move rfl) hS.rd ?_
            refine LW.ex rfl rfl rfl rfl (Ex.move rfl) hS.rd ?_
            refine LW.ex rfl rfl rfl rfl (Ex.indexSl Try.underlying24 ti5 rfl rfl rfl (by omega)) hS.rd ?_
            refine LW.ex rfl rfl rfl rfl (Ex.load1 ti5 rfl rfl (obT (v := .int .u8 l[i].toNat) (by rw [Nat.zero_add, Nat.mul_one]; exact hl0))) hS.rd ?_
            refine LW.ex rfl rfl rfl rfl (Ex.conv Try.underlying5 Try.underlying3 rfl (by first | exact w64 (by omega) (by omega) | exact wu8 (by omega) (by omega))) hS.rd ?_
            refine LW.ex rfl rfl rfl rfl (Ex.move rfl) hS.rd ?_
            refine LW.ex rfl rfl rfl rfl (Ex.lenSl rfl Try.underlying31 rfl) hS.rd ?_
            refine LW.ex rfl rfl rfl rfl (Ex.rem (r := (j : Int)) rfl rfl (by omega) (by rw [hjv]; exact remN _ _)) hS.rd ?_
            refine LW.ex rfl rfl rfl rfl (Ex.assign rfl) hS.rd ?_
            refine LW.nil fun aa ha => ?_
            refine hJ14 _  hS  aa (ha.sub ⟨rfl, rfl, rfl, rfl, rfl, rfl, trivial⟩)
          · have h14_3 := of_decide_eq_false h14_3
            refine LW.nil fun aa ha => hK21 _ _ _ ?_ aa ha
            refine CW.no rfl ?_
            refine CW.skip fun aa ha => ?_
            have hjv : j = 0 := by rw [hj]; unfold pickI; rw [List.getElem?_eq_none (by omega)]
            rw [show (0 : Int) = (j : Int) by omega] at ha
            refine hJ14 _  hS  aa (ha.sub ⟨rfl, rfl, rfl, rfl, rfl, rfl, trivial⟩)
    · have h3_6 := of_decide_eq_false h3_6
      refine LW.ex rfl rfl rfl rfl (by first | exact Ex.pick_yes rfl rfl | exact Ex.pick_no rfl rfl) hS.rd ?_
      refine LW.nil fun aa ha => hK6 _ _ _ ?_ aa ha
      refine CW.no rfl ?_
      refine CW.exit fun aa ha => hK3 _ _ _ ?_ aa ha
      refine CW.seq fun K22 hK22 => ?_
      refine CW.region [0, 1, 2] rfl ?_
      refine LW.ex rfl rfl rfl rfl (Ex.move rfl) hS.rd ?_
      refine LW.ex rfl rfl rfl rfl (Ex.assign rfl) hS.rd ?_
      refine LW.ex rfl rfl rfl rfl (Ex.assign rfl) hS.rd ?_
      refine LW.nil fun aa ha => hK22 _ _ _ ?_ aa ha
      refine CW.ret fun aa ha => ?_
      refine ret_two ha Try.results12 rfl rfl ?_
      have e : wayR x l = (out, true) := by rw [he]; cases h40 : 40 - i <;> simp [wayGo] <;> (try (rw [if_neg (by omega)])) <;> simp
      have hS := hS.drop 1 rfl
      dsimp only [List.eraseIdx] at hS
      rw [e]; refine ⟨_, rfl, ad, c, by simp only [hoi], ?_⟩
      simp only [hoi]; exact hS
  · have h3_1 := of_decide_eq_false h3_1
    refine LW.ex rfl rfl rfl rfl (Ex.move rfl) hS.rd ?_
    refine LW.skip rfl rfl rfl rfl ?_
    refine LW.skip rfl rfl rfl rfl ?_
    refine LW.skip rfl rfl rfl rfl ?_
    refine LW.skip rfl rfl rfl rfl ?_
    refine LW.ex rfl rfl rfl rfl (by first | exact Ex.pick_yes rfl rfl | exact Ex.pick_no rfl rfl) hS.rd ?_
    refine LW.nil fun aa ha => hK6 _ _ _ ?_ aa ha
    refine CW.no rfl ?_
    refine CW.exit fun aa ha => hK3 _ _ _ ?_ aa ha
    refine CW.seq fun K23 hK23 => ?_
    refine CW.region [0, 1, 2] rfl ?_
    refine LW.ex rfl rfl rfl rfl (Ex.move rfl) hS.rd ?_
    refine LW.ex rfl rfl rfl rfl (Ex.assign rfl) hS.rd ?_
    refine LW.ex rfl rfl rfl rfl (Ex.assign rfl) hS.rd ?_
    refine LW.nil fun aa ha => hK23 _ _ _ ?_ aa ha
    refine CW.ret fun aa ha => ?_
    refine ret_two ha Try.results12 rfl rfl ?_
    have e : wayR x l = (out, true) := by rw [he, show 40 - i = 0 by omega]; simp [wayGo]
    have hS := hS.drop 1 rfl
    dsimp only [List.eraseIdx] at hS
    rw [e]; refine ⟨_, rfl, ad, c, by simp only [hoi], ?_⟩
    simp only [hoi]; exact hS

end Go.Proofs.Ytgnpjhellmfhoaa

/-
  Context: what the walks of ContextBest and ContextWays share.
-/
namespace Go.Proofs.Ytgnpjhellmfhoaa
open Go.RowKit Sy

theorem st_le {n : Nat} {w0 w : World} {μ μ' : Mem} {L : List Own} (hm : Mem.ext n μ μ') (h : St w0 w μ' L) : St w0 w μ L := ⟨h.below, (Rd.le hm h.rd).1, let ⟨bs, h1, h2, h3⟩ := h.own; ⟨bs, h1, h2, fun b hb => ⟨(h3 b hb).1, (h3 b hb).2.1, by
    cases e : μ b with
    | none => rfl
    | some o => have := hm.le b o e; rw [(h3 b hb).2.2] at this; cases this⟩⟩⟩
theorem seg_links {g : Grf} {p q d : Int} {ms : List Int} (h : Seg g p ms q d) : ∀ i ∈ ms, 0 ≤ i ∧ i < g.Links.length := by
  induction h with
  | nil p => intro i hi; cases hi
  | cons i hi hf h2 ih =>
    intro j hj
    rcases List.mem_cons.1 hj with rfl | hj
    · omega
    · exact ih j hj
theorem words_s (y : Raw) : ∀ s ∈ (madeM y).Words, s.size ≤ 9223372036854775807 := fun s hs => by
  have := ((madeM_words y).2.1 s hs).2; omega
theorem ends_s {x : Lat} (hx : okX x = true) : ∀ e ∈ x.Edges, -1099511627776 ≤ e.To ∧ e.To ≤ 1099511627776 := fun e he => by
  obtain ⟨h1, h2, _⟩ := okX_edges hx
  have := h2 e he; omega
theorem costW {x : Lat} {m : Mdl} {p : Int} {es : List Nat} (hm : MdlOk m) (hx : okX x = true) (hw : wordsIn x m.Words.length = true) (hp : -1 ≤ p ∧ p < m.Words.length) (h : isWay x 0 es) :
    costR x m p (es.map fun (k : Nat) => (k : Int)) = (wsum x m p es, true) := by
  unfold costR
  rw [if_pos (okM_yes hm), if_pos (show fitsC x m.Words.length p = true from fitsC_iff.2 ⟨hx, hp, hw⟩), costGo_way x _ es 0 p 0 h, Int.zero_add]
theorem ccostW (x : Lat) (m : Mdl) (p : Int) (es : List Int) (S : Int) (hS : costR x m p es = (S, true)) (hws : ∀ s ∈ m.Words, s.size ≤ 9223372036854775807) (hsm : ∀ e ∈ x.Edges, -1099511627776 ≤ e.To ∧ e.To ≤ 1099511627776) (hes : es.length ≤ 1000000)
    (a0 a1 a2 a3 a4 : Option Addr) (c0 c1 c2 c3 c4 : Nat) (μ : Mem) (w : World) (hμ : Imm μ w) (hxl : Sl μ a3 c3 x.Edges) (hm0 : Sl μ a0 c0 m.Words) (hm1 : Sl μ a1 c1 m.Counts) (hm2 : Sl μ a2 c2 m.Pairs) (hel : Sl μ a4 c4 es) :
    Calls Try.prog 15 #[.agg #[.int .i64 x.N, .slice a3 x.Edges.length c3], .agg #[.slice a0 m.Words.length c0, .slice a1 m.Counts.length c1, .slice a2 m.Pairs.length c2, .int .i64 m.Back], .int .i64 p, .slice a4 es.length c4] w (RetS w (.tuple #[.int .i64 S, .bool true])) := by
  have h := ccost_c x m p es hws hsm hes a0 a1 a2 a3 a4 c0 c1 c2 c3 c4 μ w hμ hxl hm0 hm1 hm2 hel
  rw [hS] at h
  exact h
/-- The law's graph, and what package best asks of it. -/
theorem law_graph {x : Lat} {m : Mdl} {p : Int} (hm : MdlOk m) (hx : okX x = true) (hw : wordsIn x m.Words.length = true) (hp : -1 ≤ p ∧ p < m.Words.length) (hc : ∀ e ∈ x.Edges, e.Cost ≤ 31) (hE : x.Edges.length ≤ 13) (hN : x.N ≤ 5) :
    (buildR x m p).G = graphR x m p ∧ (buildR x m p).E = 0 ∧ GOk (graphR x m p) ∧ W (graphR x m p) 0 ≤ 1000000 := by
  have e : buildR x m p = ⟨graphR x m p, (nodesL x m.Words.length p).map (·.b), 0⟩ := by
    unfold buildR; rw [if_pos (okM_yes hm), if_pos (fitsC_iff.2 ⟨hx, hp, hw⟩)]
  have h1 := build_gok hm hx hw hp hc hE
  have h2 := build_w hm hx hw hp hc hE hN
  rw [e] at h1 h2 ⊢
  exact ⟨rfl, rfl, h1, Nat.le_trans h2 (by omega)⟩
def amongL (g : Grf) (es : List Int) (A : List Cand) : Bool := A.any fun a => decide (a.Links.map (lbl g) = es)
theorem amongL_take {g : Grf} {es : List Int} {A : List Cand} {j : Nat} (h : j < A.length) : amongL g es (A.take (j + 1)) = (amongL g es (A.take j) || decide (A[j].Links.map (lbl g) = es)) := by
  unfold amongL
  rw [List.take_succ_eq_append_getElem h, List.any_append]; simp
theorem amongL_mem {g : Grf} {es : List Int} {A : List Cand} {a : Cand} (h : a ∈ A) (he : a.Links.map (lbl g) = es) : amongL g es A = true := by
  unfold amongL
  rw [List.any_eq_true]
  exact ⟨a, h, decide_eq_true he⟩
end Go.Proofs.Ytgnpjhellmfhoaa

/-
  Context: the walk of ContextBest.
-/
namespace Go.Proofs.Ytgnpjhellmfhoaa
open Go.RowKit Sy
set_option maxRecDepth 100000 in
set_option maxHeartbeats 4000000 in
theorem law5_c (l : List B4) (y : Raw) (q : B6) (adl r0 r1 r2 : Option Addr) (cl d0 d1 d2 : Nat) (μ : Mem) (w : World) (hμ : Imm μ w) (sl : Sl μ adl cl l) (h0 : Sl μ r0 d0 y.Words) (h1 : Sl μ r1 d1 y.Counts) (h2 : Sl μ r2 d2 y.Uses) :
    Calls Try.prog 7 #[.slice adl l.length cl, .agg #[.slice r0 y.Words.length d0, .slice r1 y.Counts.length d1, .slice r2 y.Uses.length d2, .int .u8 y.Back.toNat], b6V q] w (RetS w (.bool true)) := by
  obtain ⟨m, hm⟩ : ∃ m, m = madeM y := ⟨_, rfl⟩
  have hmok : MdlOk m := by rw [hm]; exact madeM_ok y
  have hmw : ∀ s ∈ m.Words, s.size ≤ 9223372036854775807 := by rw [hm]; exact words_s y
  obtain ⟨hW1, hW2, hW3, hW4⟩ := madeM_words y
  rw [← hm] at hW1 hW2 hW3 hW4
  obtain ⟨x, hx⟩ : ∃ x, x = madeX l q.a m.Words.length := ⟨_, rfl⟩
  obtain ⟨x1, x2, x3, x4, x5⟩ := madeX_ok l q.a (n := m.Words.length) (by omega) (by omega)
  rw [← hx] at x1 x2 x3 x4 x5
  have hsmall := ends_s x1
  have hqb := q.b.toNat_lt
  have hqm := Nat.mod_lt q.b.toNat (show 0 < m.Words.length + 1 by omega)
  obtain ⟨pv, hpv⟩ : ∃ pv : Int, pv = ((q.b.toNat % (m.Words.length + 1) : Nat) : Int) - 1 := ⟨_, rfl⟩
  have hpv2 : -1 ≤ pv ∧ pv < m.Words.length := by omega
  have hcost : ∀ e ∈ x.Edges, e.Cost ≤ 31 := by rw [hx]; exact madeX_cost l q.a (by omega)
  obtain ⟨hG1, hG2, hg, hW⟩ := law_graph hmok x1 x2 hpv2 hcost x3 x4.2
  obtain ⟨B, hB⟩ : ∃ B, B = buildR x m pv := ⟨_, rfl⟩
  rw [← hB] at hG1 hG2
  rw [← hG1] at hg hW
  obtain ⟨U, hU⟩ : ∃ U, U = wayR x [q.c, q.d, q.e] := ⟨_, rfl⟩
  have hwk := way_ok x1 x5 [q.c, q.d, q.e] 40 0 0 (by omega) (by omega) (by omega)
  rw [show wayGo x [q.c, q.d, q.e] 40 0 0 = U from hU.symm] at hwk
  obtain ⟨hwk1, hwk2, hwk3⟩ := hwk
  obtain ⟨S, hSs⟩ : ∃ S, S = wsum x m pv U.1 := ⟨_, rfl⟩
  obtain ⟨es, hes⟩ : ∃ es : List Int, es = U.1.map fun (k : Nat) => (k : Int) := ⟨_, rfl⟩
  have hel : U.1.length = es.length := by rw [hes, List.length_map]
  have hC : costR x m pv es = (S, true) := by rw [hes, hSs]; exact costW hmok x1 x2 hpv2 hwk2
  obtain ⟨ms, d, s1, s2, s3⟩ := way_path hmok x1 x2 hpv2 U.1 0 ⟨0, pv⟩ rfl hwk2
  have hP := Path.app s1 Path.nil
  rw [List.nil_append, Int.zero_add, s3, ← hSs, ← hG1] at hP
  rw [← hes, ← hG1] at s2
  have hqf := q.f.toNat_lt
  have hq6 := Nat.mod_lt q.f.toNat (show 0 < 6 by omega)
  obtain ⟨kk, hkk⟩ : ∃ kk, kk = 1 + q.f.toNat % 6 := ⟨_, rfl⟩
  have hS := St.start w μ hμ
  refine calls_start 140 [.slice adl l.length cl, .agg #[.slice r0 y.Words.length d0, .slice r1 y.Counts.length d1, .slice r2 y.Uses.length d2, .int .u8 y.Back.toNat], b6V q] Try.func7 rfl Try.ntmps7 rfl rfl ?_
  refine CW.seq fun K1 hK1 => ?_
  refine CW.region [0, 1, 2] rfl ?_
  refine LW.hv rfl rfl rfl rfl (Hv.boxS hS rfl rfl) fun v w4 ⟨b4, hv, hb4, hS⟩ => ?_
  subst hv
  refine LW.hv rfl rfl rfl rfl (Hv.boxS hS rfl rfl) fun v w5 ⟨b5, hv, hb5, hS⟩ => ?_
  subst hv
  refine LW.ex rfl rfl rfl rfl (Ex.assign rfl) hS.rd ?_
  refine LW.nil fun aa ha => hK1 _ _ _ ?_ aa ha
  refine CW.seq fun K2 hK2 => ?_
  refine CW.region [0, 1] rfl ?_
  refine LW.hv rfl rfl rfl rfl (Hv.callS hS rfl rfl rfl cb9 (sanity_c _)) fun v w21 ⟨hv, hS⟩ => ?_
  subst hv
  refine LW.ex rfl rfl rfl rfl (Ex.assign rfl) hS.rd ?_
  refine LW.nil fun aa ha => hK2 _ _ _ ?_ aa ha
  refine CW.seq fun K3 hK3 => ?_
  refine CW.region [0, 1, 2, 3] rfl ?_
  refine LW.ex rfl rfl rfl rfl (Ex.load4c ti27 rfl rfl (by first | exact obT rfl | exact Rd.imm ‹_› | exact slT ‹_›) (by first | exact obT rfl | exact Rd.imm ‹_› | exact slT ‹_›) (by first | exact obT rfl | exact Rd.imm ‹_› | exact slT ‹_›) (by first | exact obT rfl | exact Rd.imm ‹_› | exact slT ‹_›)) hS.rd ?_
  refine LW.hv rfl rfl rfl rfl (Hv.callV hS rfl rfl rfl cb10 (madeM_c y _ _ _ _ _ _ μ _ hS.imm h0 h1 h2)) fun v w23 ⟨μ23, hv23, hm23, hS⟩ => ?_
  obtain ⟨a0, c0, a1, c1, a2, c2, hv, hm0, hm1, hm2⟩ := hv23
  subst hv
  rw [← hm] at hm0 hm1 hm2 ⊢
  have sl := sl.mono hm23
  refine LW.hv rfl rfl rfl rfl (Hv.alloc ti34 hS) fun v w8 ⟨b8, hv, hb8, hS⟩ => ?_
  subst hv
  refine LW.hu rfl rfl rfl (Hv.storeN (k := 0) ti34 hS rfl rfl rfl rfl (by simp [Value.oneCell'])) fun _ w_3 hS => ?_
  dsimp only [List.set] at hS
  refine LW.nil fun aa ha => hK3 _ _ _ ?_ aa ha
  refine CW.seq fun K4 hK4 => ?_
  have hJr3 : ∀ (wj : World) (b9 : Nat) (ax : Option Addr) (cx : Nat), St w wj μ23 [Own.sl ax x.Edges.length cx 43 4 (x.Edges.flatMap edgeL), Own.obj b9 [.int .i64 x.N, .slice ax x.Edges.length cx] 38, Own.obj b8 [.slice a0 m.Words.length c0, .slice a1 m.Counts.length c1, .slice a2 m.Pairs.length c2, .int .i64 m.Back] 34, Own.obj b5 (b6L q) 71, Own.obj b4 [.slice r0 y.Words.length d0, .slice r1 y.Counts.length d1, .slice r2 y.Uses.length d2, .int .u8 y.Back.toNat] 27] → KW K4 140 [(5, .pointer (some ⟨b5, 0, none⟩)), (7, .bool true), (8, .pointer (some ⟨b8, 0, none⟩)), (9, .pointer (some ⟨b9, 0, none⟩)), (10, .int .i64 pv)] wj := by
    intro wj b9 ax cx hS 
    refine hK4 _ _ _ ?_
    refine CW.seq fun K5 hK5 => ?_
    obtain ⟨bs, μ2, hm22, hS, hφ⟩ := hS.shut 0 rfl
    dsimp only [List.eraseIdx] at hS
    have hx2 : Sl μ2 ax cx x.Edges := Sl.of_own hφ (edgeReps _ _) rfl
    have hm0 := hm0.mono hm22
    have hm1 := hm1.mono hm22
    have hm2 := hm2.mono hm22
    refine CW.region [0, 1, 2, 3, 4, 5] rfl ?_
    refine LW.ex rfl rfl rfl rfl (Ex.load2c ti38 rfl rfl (by first | exact obT rfl | exact Rd.imm ‹_› | exact slT ‹_›) (by first | exact obT rfl | exact Rd.imm ‹_› | exact slT ‹_›)) hS.rd ?_
    refine LW.ex rfl rfl rfl rfl (Ex.load4c ti34 rfl rfl (by first | exact obT rfl | exact Rd.imm ‹_› | exact slT ‹_›) (by first | exact obT rfl | exact Rd.imm ‹_› | exact slT ‹_›) (by first | exact obT rfl | exact Rd.imm ‹_› | exact slT ‹_›) (by first | exact obT rfl | exact Rd.imm ‹_› | exact slT ‹_›)) hS.rd ?_
    refine LW.ex rfl rfl rfl rfl (Ex.move rfl) hS.rd ?_
    refine LW.hv rfl rfl rfl rfl (Hv.callV hS rfl rfl rfl cb13 (lbuild_c x m pv hmw hsmall (by omega) _ _ _ _ _ _ _ _ _ _ hS.imm hx2 hm0 hm1 hm2)) fun v w43 ⟨μ43, hv43, hm43, hS⟩ => ?_
    obtain ⟨p0, q0, p1, q1, hv, hs0, hs1⟩ := hv43
    subst hv
    rw [← hB] at hs0 hs1 ⊢
    have hx2 := hx2.mono hm43
    have hm0 := hm0.mono hm43
    have hm1 := hm1.mono hm43
    have hm2 := hm2.mono hm43
    refine LW.hv rfl rfl rfl rfl (Hv.alloc ti49 hS) fun v w11 ⟨b11, hv, hb11, hS⟩ => ?_
    subst hv
    refine LW.hu rfl rfl rfl (Hv.storeN (k := 0) ti49 hS rfl rfl rfl rfl (by simp [Value.oneCell'])) fun _ w_5 hS => ?_
    dsimp only [List.set] at hS
    refine LW.nil fun aa ha => hK5 _ _ _ ?_ aa ha
    refine CW.seq fun K6 hK6 => ?_
    refine CW.region [0, 1, 2, 3, 4, 5] rfl ?_
    refine LW.ex rfl rfl rfl rfl (Ex.indexArr (j := 5) Try.underlying71 ti5 rfl rfl rfl (by omega)) hS.rd ?_
    refine LW.ex rfl rfl rfl rfl (Ex.load1 ti5 rfl rfl (by first | exact obT rfl | exact Rd.imm ‹_› | exact slT ‹_›)) hS.rd ?_
    refine LW.ex rfl rfl rfl rfl (Ex.rem (r := ((q.f.toNat % 6 : Nat) : Int)) rfl rfl (by omega) (remN _ _)) hS.rd ?_
    refine LW.ex rfl rfl rfl rfl (Ex.conv Try.underlying5 Try.underlying3 rfl (by first | exact w64 (by omega) (by omega) | exact wu8 (by omega) (by omega))) hS.rd ?_
    refine LW.ex rfl rfl rfl rfl (Ex.add (r := ((kk : Nat) : Int)) rfl rfl (by rw [w64 (by omega) (by omega)]; omega)) hS.rd ?_
    refine LW.ex rfl rfl rfl rfl (Ex.assign rfl) hS.rd ?_
    refine LW.nil fun aa ha => hK6 _ _ _ ?_ aa ha
    refine CW.seq fun K7 hK7 => ?_
    refine CW.region [0, 1, 2, 3, 4, 5, 6, 7, 8] rfl ?_
    refine LW.ex rfl rfl rfl rfl (Ex.fieldO 0 Try.underlying49 rfl rfl ti46 rfl) hS.rd ?_
    refine LW.ex rfl rfl rfl rfl (Ex.load2c ti46 rfl rfl (by first | exact obT rfl | exact Rd.imm ‹_› | exact slT ‹_›) (by first | exact obT rfl | exact Rd.imm ‹_› | exact slT ‹_›)) hS.rd ?_
    refine LW.ex rfl rfl rfl rfl (Ex.move rfl) hS.rd ?_
    refine LW.hv rfl rfl rfl rfl (Hv.callV hS rfl rfl rfl cb24 (list_c B.G hg hW kk (by omega) _ _ _ _ hS.imm hs0)) fun v w53 ⟨μ53, hv53, hm53, hS⟩ => ?_
    obtain ⟨R, H, A, adA, cA, hRl, hR, hI, hend, hAk, hv, hsA⟩ := hv53
    subst hv
    have hx2 := hx2.mono hm53
    have hs0 := hs0.mono hm53
    have hm0 := hm0.mono hm53
    have hm1 := hm1.mono hm53
    have hm2 := hm2.mono hm53
    refine LW.ex rfl rfl rfl rfl (Ex.move rfl) hS.rd ?_
    refine LW.ex rfl rfl rfl rfl (Ex.extract rfl rfl) hS.rd ?_
    refine LW.ex rfl rfl rfl rfl (Ex.extract rfl rfl) hS.rd ?_
    refine LW.ex rfl rfl rfl rfl (Ex.assign rfl) hS.rd ?_
    refine LW.ex rfl rfl rfl rfl (Ex.assign rfl) hS.rd ?_
    refine LW.nil fun aa ha => hK7 _ _ _ ?_ aa ha
    refine CW.seq fun K8 hK8 => ?_
    obtain ⟨hA0, hA1, hA2⟩ := SInv.best hg hRl hR hI (k := kk) (by omega) hend hP
    have hA1 := hA1 hA0
    refine CW.region [0, 1, 2, 3, 4, 5, 6, 7, 8, 9, 10, 11, 12, 13] rfl ?_
    refine LW.ex rfl rfl rfl rfl (Ex.load2c ti38 rfl rfl (by first | exact obT rfl | exact Rd.imm ‹_› | exact slT ‹_›) (by first | exact obT rfl | exact Rd.imm ‹_› | exact slT ‹_›)) hS.rd ?_
    refine LW.ex rfl rfl rfl rfl (Ex.indexArr (j := 2) Try.underlying71 ti5 rfl rfl rfl (by omega)) hS.rd ?_
    refine LW.ex rfl rfl rfl rfl (Ex.load1 ti5 rfl rfl (by first | exact obT rfl | exact Rd.imm ‹_› | exact slT ‹_›)) hS.rd ?_
    refine LW.ex rfl rfl rfl rfl (Ex.indexArr (j := 3) Try.underlying71 ti5 rfl rfl rfl (by omega)) hS.rd ?_
    refine LW.ex rfl rfl rfl rfl (Ex.load1 ti5 rfl rfl (by first | exact obT rfl | exact Rd.imm ‹_› | exact slT ‹_›)) hS.rd ?_
    refine LW.ex rfl rfl rfl rfl (Ex.indexArr (j := 4) Try.underlying71 ti5 rfl rfl rfl (by omega)) hS.rd ?_
    refine LW.ex rfl rfl rfl rfl (Ex.load1 ti5 rfl rfl (by first | exact obT rfl | exact Rd.imm ‹_› | exact slT ‹_›)) hS.rd ?_
    refine LW.hv rfl rfl rfl rfl (Hv.buildSl hS Try.underlying24 ti5 rfl rfl rfl rfl rfl rfl) fun v w64 ⟨b64, hv, hb64, hS⟩ => ?_
    subst hv
    refine LW.hv rfl rfl rfl rfl (Hv.callM rfl rfl rfl cb12 (way_i x [q.c, q.d, q.e] hS hx2 (by omega) (by simp))) fun v w65 ⟨adW, cW, hv, hS⟩ => ?_
    subst hv
    rw [← hU] at hS ⊢
    rw [hwk1]
    refine LW.ex rfl rfl rfl rfl (Ex.move rfl) hS.rd ?_
    refine LW.ex rfl rfl rfl rfl (Ex.extract rfl rfl) hS.rd ?_
    refine LW.ex rfl rfl rfl rfl (Ex.extract rfl rfl) hS.rd ?_
    refine LW.ex rfl rfl rfl rfl (Ex.assign rfl) hS.rd ?_
    refine LW.ex rfl rfl rfl rfl (Ex.assign rfl) hS.rd ?_
    refine LW.nil fun aa ha => hK8 _ _ _ ?_ aa ha
    refine CW.seq fun K9 hK9 => ?_
    refine CW.seq fun K10 hK10 => ?_
    obtain ⟨bs, μw, hmw1, hS, hφ⟩ := hS.shut 0 rfl
    dsimp only [List.eraseIdx] at hS
    have hsW : Sl μw adW cW (U.1.map fun (k : Nat) => (k : Int)) := Sl.of_own hφ (RepL.nats _ _) (by rw [List.length_map])
    have hS := hS.drop 0 rfl
    dsimp only [List.eraseIdx] at hS
    rw [← hes] at hsW
    rw [hel]
    have hx2 := hx2.mono hmw1
    have hs0 := hs0.mono hmw1
    have hsA := hsA.mono hmw1
    have hm0 := hm0.mono hmw1
    have hm1 := hm1.mono hmw1
    have hm2 := hm2.mono hmw1
    refine CW.region [0, 1, 2, 3, 4, 5, 6, 7, 8, 9, 10, 11, 12, 13, 14, 15] rfl ?_
    refine LW.ex rfl rfl rfl rfl (Ex.fieldO 3 Try.underlying49 rfl rfl ti47 rfl) hS.rd ?_
    refine LW.ex rfl rfl rfl rfl (Ex.load1 ti47 rfl rfl (by first | exact obT rfl | exact Rd.imm ‹_› | exact slT ‹_›)) hS.rd ?_
    refine LW.ex rfl rfl rfl rfl (Ex.neq rfl rfl rfl) hS.rd ?_
    refine LW.splitB (fun h8_2 => ?_) (fun h8_2 => ?_)
    · have h8_2 := of_decide_eq_true h8_2
      omega
    · have h8_2 := of_decide_eq_false h8_2
      refine LW.ex rfl rfl rfl rfl (Ex.move rfl) hS.rd ?_
      refine LW.ex rfl rfl rfl rfl (Ex.move rfl) hS.rd ?_
      refine LW.ex rfl rfl rfl rfl (Ex.neq rfl rfl rfl) hS.rd ?_
      refine LW.splitB (fun h8_5 => ?_) (fun h8_5 => ?_)
      · have h8_5 := of_decide_eq_true h8_5
        exact absurd rfl h8_5
      · have h8_5 := of_decide_eq_false h8_5
        refine LW.ex rfl rfl rfl rfl (by first | exact Ex.pick_yes rfl rfl | exact Ex.pick_no rfl rfl) hS.rd ?_
        refine LW.ex rfl rfl rfl rfl (Ex.move rfl) hS.rd ?_
        refine LW.ex rfl rfl rfl rfl (Ex.move rfl) hS.rd ?_
        refine LW.ex rfl rfl rfl rfl (Ex.not rfl rfl) hS.rd ?_
        refine LW.ex rfl rfl rfl rfl (by first | exact Ex.pick_yes rfl rfl | exact Ex.pick_no rfl rfl) hS.rd ?_
        refine LW.ex rfl rfl rfl rfl (Ex.move rfl) hS.rd ?_
        refine LW.ex rfl rfl rfl rfl (Ex.move rfl) hS.rd ?_
        refine LW.ex rfl rfl rfl rfl (Ex.lenSl rfl Try.underlying76 rfl) hS.rd ?_
        refine LW.ex rfl rfl rfl rfl (Ex.eql rfl rfl rfl) hS.rd ?_
        refine LW.splitB (fun h8_14 => ?_) (fun h8_14 => ?_)
        · have h8_14 := of_decide_eq_true h8_14
          omega
        · have h8_14 := of_decide_eq_false h8_14
          refine LW.ex rfl rfl rfl rfl (by first | exact Ex.pick_yes rfl rfl | exact Ex.pick_no rfl rfl) hS.rd ?_
          refine LW.nil fun aa ha => hK10 _ _ _ ?_ aa ha
          refine CW.no rfl ?_
          refine CW.skip fun aa ha => hK9 _ _ _ ?_ aa ha
          refine CW.seq fun K11 hK11 => ?_
          refine CW.region [0, 1, 2, 3, 4, 5, 6, 7, 8, 9] rfl ?_
          refine LW.ex rfl rfl rfl rfl (Ex.load2c ti38 rfl rfl (by first | exact obT rfl | exact Rd.imm ‹_› | exact slT ‹_›) (by first | exact obT rfl | exact Rd.imm ‹_› | exact slT ‹_›)) hS.rd ?_
          refine LW.ex rfl rfl rfl rfl (Ex.load4c ti34 rfl rfl (by first | exact obT rfl | exact Rd.imm ‹_› | exact slT ‹_›) (by first | exact obT rfl | exact Rd.imm ‹_› | exact slT ‹_›) (by first | exact obT rfl | exact Rd.imm ‹_› | exact slT ‹_›) (by first | exact obT rfl | exact Rd.imm ‹_› | exact slT ‹_›)) hS.rd ?_
          refine LW.ex rfl rfl rfl rfl (Ex.move rfl) hS.rd ?_
          refine LW.ex rfl rfl rfl rfl (Ex.move rfl) hS.rd ?_
          refine LW.hv rfl rfl rfl rfl (Hv.callS hS rfl rfl rfl cb15 (ccostW x m pv es S hC hmw hsmall (by omega) _ _ _ _ _ _ _ _ _ _ μw _ hS.imm hx2 hm0 hm1 hm2 hsW)) fun v w89 ⟨hv, hS⟩ => ?_
          subst hv
          refine LW.ex rfl rfl rfl rfl (Ex.move rfl) hS.rd ?_
          refine LW.ex rfl rfl rfl rfl (Ex.extract rfl rfl) hS.rd ?_
          refine LW.ex rfl rfl rfl rfl (Ex.extract rfl rfl) hS.rd ?_
          refine LW.ex rfl rfl rfl rfl (Ex.assign rfl) hS.rd ?_
          refine LW.ex rfl rfl rfl rfl (Ex.assign rfl) hS.rd ?_
          refine LW.nil fun aa ha => hK11 _ _ _ ?_ aa ha
          refine CW.seq fun K12 hK12 => ?_
          refine CW.seq fun K13 hK13 => ?_
          have hSl := hS
          obtain ⟨bA, oA, rfl, ⟨ad0, c00, g0, g1⟩, g2⟩ := hsA.at hA0
          have hS := hSl
          refine CW.region [0, 1, 2, 3, 4, 5, 6, 7, 8, 9] rfl ?_
          refine LW.ex rfl rfl rfl rfl (Ex.move rfl) hS.rd ?_
          refine LW.ex rfl rfl rfl rfl (Ex.not rfl rfl) hS.rd ?_
          refine LW.ex rfl rfl rfl rfl (Ex.move rfl) hS.rd ?_
          refine LW.ex rfl rfl rfl rfl (Ex.move rfl) hS.rd ?_
          refine LW.ex rfl rfl rfl rfl (Ex.move rfl) hS.rd ?_
          refine LW.ex rfl rfl rfl rfl (Ex.indexSl (j := 0) Try.underlying76 ti58 rfl rfl rfl (by omega)) hS.rd ?_
          refine LW.ex rfl rfl rfl rfl (Ex.fieldO 1 Try.underlying58 rfl rfl ti3 rfl) hS.rd ?_
          refine LW.ex rfl rfl rfl rfl (Ex.load1 ti3 rfl rfl (by first | exact obT rfl | exact Rd.imm ‹_› | exact slT ‹_›)) hS.rd ?_
          refine LW.ex rfl rfl rfl rfl (Ex.lss rfl rfl rfl) hS.rd ?_
          refine LW.splitB (fun h11_8 => ?_) (fun h11_8 => ?_)
          · have h11_8 := of_decide_eq_true h11_8
            omega
          · have h11_8 := of_decide_eq_false h11_8
            refine LW.ex rfl rfl rfl rfl (by first | exact Ex.pick_yes rfl rfl | exact Ex.pick_no rfl rfl) hS.rd ?_
            refine LW.nil fun aa ha => hK13 _ _ _ ?_ aa ha
            refine CW.no rfl ?_
            refine CW.skip fun aa ha => hK12 _ _ _ ?_ aa ha
            refine CW.seq fun K14 hK14 => ?_
            refine CW.region [0] rfl ?_
            refine LW.ex rfl rfl rfl rfl (Ex.assign rfl) hS.rd ?_
            refine LW.nil fun aa ha => hK14 _ _ _ ?_ aa ha
            refine CW.seq fun K15 hK15 => ?_
            refine CW.seq fun K16 hK16 => ?_
            refine CW.region [0] rfl ?_
            refine LW.ex rfl rfl rfl rfl (Ex.assign rfl) hS.rd ?_
            refine LW.nil fun aa ha => hK16 _ _ _ ?_ aa ha
            refine CW.block ?_
            refine CW.loop (fun qq frm wl15 => ∃ (j : Nat) (b : Bool), j ≤ A.length ∧ qq = A.length - j ∧ frm = [(7, .bool true), (11, .pointer (some ⟨b11, 0, none⟩)), (12, .int .i64 kk), (13, .slice (some ⟨bA, oA, none⟩) A.length cA), (15, .slice adW es.length cW), (17, .int .i64 S), (19, .bool b), (20, .int .i64 j)] ∧ St w wl15 μw [Own.obj b11 [.int .i64 B.G.N, .slice p0 B.G.Links.length q0, .slice p1 B.Last.length q1, .int .i64 B.E] 49, Own.obj b9 [.int .i64 x.N, .slice ax x.Edges.length cx] 38, Own.obj b8 [.slice a0 m.Words.length c0, .slice a1 m.Counts.length c1, .slice a2 m.Pairs.length c2, .int .i64 m.Back] 34, Own.obj b5 (b6L q) 71, Own.obj b4 [.slice r0 y.Words.length d0, .slice r1 y.Counts.length d1, .slice r2 y.Uses.length d2, .int .u8 y.Back.toNat] 27] ∧ (b = amongL B.G es (A.take j))) _ ⟨0, false, (by first | omega | (simp; done) | (simp; omega)), rfl, rfl, hS, rfl⟩ ⟨rfl, rfl, rfl, rfl, rfl, rfl, rfl, rfl, trivial⟩ ?_
            clear hS
            rintro qq frm wl15 ⟨j, b, hj, hq, rfl, hS, hb⟩
            refine CW.seq fun K17 hK17 => ?_
            refine CW.seq fun K18 hK18 => ?_
            refine CW.region [0, 1, 2, 3] rfl ?_
            refine LW.ex rfl rfl rfl rfl (Ex.move rfl) hS.rd ?_
            refine LW.ex rfl rfl rfl rfl (Ex.move rfl) hS.rd ?_
            refine LW.ex rfl rfl rfl rfl (Ex.lenSl rfl Try.underlying76 rfl) hS.rd ?_
            refine LW.ex rfl rfl rfl rfl (Ex.lss rfl rfl rfl) hS.rd ?_
            refine LW.splitB (fun h15_3 => ?_) (fun h15_3 => ?_)
            · have h15_3 := of_decide_eq_true h15_3
              refine LW.nil fun aa ha => hK18 _ _ _ ?_ aa ha
              refine CW.yes rfl ?_
              refine CW.skip fun aa ha => hK17 _ _ _ ?_ aa ha
              refine CW.seq fun K19 hK19 => ?_
              refine CW.block ?_
              have hj2 : j < A.length := by omega
              obtain ⟨_, _, eA, ⟨adj, cj, f0, f1⟩, f2⟩ := hsA.at hj2
              cases eA
              have hpj := (hI.pa _ (List.getElem_mem hj2)).seg
              have hlj := seg_links hpj
              have hnj := seg_len hg hpj
              have hn2 := hg.n2
              have ht := amongL_take (g := B.G) (es := es) hj2
              rw [← hb] at ht
              obtain ⟨a, hae⟩ : ∃ a, a = A[j] := ⟨_, rfl⟩
              rw [← hae] at f0 f1 f2 hlj hnj ht
              have hS := hS.drew
              refine CW.draw 13 (.ex 0 <| .ex 1 <| .ex 2 <| .ex 3 <| .ex 4 <| .ex 5 <| .ex 6 <| .ex 7 <| .ex 9 <| .one 8 <| .one 10 <| .ex 11 <| .ex 12 <| .done) [] (Rd _ _) mixed (by kernel_rfl) rfl rfl hS.rd ?_
              refine PW.ex rfl rfl rfl rfl (Ex.move rfl) ?_
              refine PW.splitB (fun h17_0 => ?_) (fun h17_0 => ?_)
              · skip
                refine PW.ex rfl rfl rfl rfl (Ex.move rfl) ?_
                refine PW.skip rfl rfl rfl rfl ?_
                refine PW.skip rfl rfl rfl rfl ?_
                refine PW.skip rfl rfl rfl rfl ?_
                refine PW.skip rfl rfl rfl rfl ?_
                refine PW.skip rfl rfl rfl rfl ?_
                refine PW.skip rfl rfl rfl rfl ?_
                refine PW.skip rfl rfl rfl rfl ?_
                refine PW.skip1 rfl rfl rfl rfl ?_
                refine PW.skip1 rfl rfl rfl rfl ?_
                refine PW.ex rfl rfl rfl rfl (by first | exact Ex.pick_yes rfl rfl | exact Ex.pick_no rfl rfl) ?_
                refine PW.ex rfl rfl rfl rfl (Ex.assign rfl) ?_
                refine PW.nil ?_
                refine LW.nil fun aa ha => hK19 _ _ _ ?_ aa ha
                refine CW.region [0, 1, 2] rfl ?_
                refine LW.ex rfl rfl rfl rfl (Ex.move rfl) hS.rd ?_
                refine LW.ex rfl rfl rfl rfl (Ex.add rfl rfl (by first | exact inc64 (by omega) | exact addN (by omega) | exact w64 (by omega) (by omega))) hS.rd ?_
                refine LW.ex rfl rfl rfl rfl (Ex.assign rfl) hS.rd ?_
                refine LW.nil fun aa ha => ?_
                refine ⟨_, _, ?m15, ⟨j + 1, true, (by first | omega | (simp; done) | (simp; omega)), rfl, rfl, hS, by rw [ht, h17_0]; rfl⟩, ha.sub ⟨rfl, rfl, rfl, rfl, rfl, rfl, rfl, rfl, trivial⟩⟩
                case m15 => omega
              · skip
                refine PW.ex rfl rfl rfl rfl (Ex.move rfl) ?_
                refine PW.ex rfl rfl rfl rfl (Ex.fieldO 0 Try.underlying49 rfl rfl ti46 rfl) ?_
                refine PW.ex rfl rfl rfl rfl (Ex.load2c ti46 rfl rfl (by first | exact obT rfl | exact Rd.imm ‹_› | exact slT ‹_›) (by first | exact obT rfl | exact Rd.imm ‹_› | exact slT ‹_›)) ?_
                refine PW.ex rfl rfl rfl rfl (Ex.move rfl) ?_
                refine PW.ex rfl rfl rfl rfl (Ex.move rfl) ?_
                refine PW.ex rfl rfl rfl rfl (Ex.indexSl Try.underlying76 ti58 rfl rfl rfl (by omega)) ?_
                refine PW.ex rfl rfl rfl rfl (Ex.load2c ti58 rfl rfl (by first | exact obT rfl | exact Rd.imm ‹_› | exact slT ‹_›) (by first | exact obT rfl | exact Rd.imm ‹_› | exact slT ‹_›)) ?_
                refine PW.ex rfl rfl rfl rfl (Ex.move rfl) ?_
                refine PW.hv rfl rfl rfl rfl (Hv.callV hS rfl rfl rfl cb25 (labels_c B.G a.Links a.Cost hlj (by omega) _ _ _ _ _ _ hS.imm hs0 f1)) (fun _ _ ⟨_, _, hm, h⟩ => Rd.le hm h.rd) fun v w116 ⟨μ116, hv116, hm116, hS⟩ => ?_
                obtain ⟨ad16, c16, hv, hs16⟩ := hv116
                subst hv
                refine PW.hv rfl rfl rfl rfl (Hv.callS hS rfl rfl rfl cb18 (ints_c (a.Links.map (lbl B.G)) es _ _ _ _ μ116 _ hS.imm hs16 (hsW.mono hm116))) (fun _ _ h => Rd.le hm116 (h.2.rd)) fun v w118 ⟨hv, hS⟩ => ?_
                subst hv
                refine PW.splitB (fun h17_10 => ?_) (fun h17_10 => ?_)
                · skip
                  refine PW.ex rfl rfl rfl rfl (by first | exact Ex.pick_yes rfl rfl | exact Ex.pick_no rfl rfl) ?_
                  refine PW.ex rfl rfl rfl rfl (Ex.assign rfl) ?_
                  refine PW.nil ?_
                  refine LW.nil fun aa ha => hK19 _ _ _ ?_ aa ha
                  refine CW.region [0, 1, 2] rfl ?_
                  refine LW.ex rfl rfl rfl rfl (Ex.move rfl) hS.rd ?_
                  refine LW.ex rfl rfl rfl rfl (Ex.add rfl rfl (by first | exact inc64 (by omega) | exact addN (by omega) | exact w64 (by omega) (by omega))) hS.rd ?_
                  refine LW.ex rfl rfl rfl rfl (Ex.assign rfl) hS.rd ?_
                  refine LW.nil fun aa ha => ?_
                  have hS := st_le hm116 hS
                  refine ⟨_, _, ?m15, ⟨j + 1, true, (by first | omega | (simp; done) | (simp; omega)), rfl, rfl, hS, by rw [ht, h17_0, h17_10]; rfl⟩, ha.sub ⟨rfl, rfl, rfl, rfl, rfl, rfl, rfl, rfl, trivial⟩⟩
                  case m15 => omega
                · skip
                  refine PW.ex rfl rfl rfl rfl (by first | exact Ex.pick_yes rfl rfl | exact Ex.pick_no rfl rfl) ?_
                  refine PW.ex rfl rfl rfl rfl (Ex.assign rfl) ?_
                  refine PW.nil ?_
                  refine LW.nil fun aa ha => hK19 _ _ _ ?_ aa ha
                  refine CW.region [0, 1, 2] rfl ?_
                  refine LW.ex rfl rfl rfl rfl (Ex.move rfl) hS.rd ?_
                  refine LW.ex rfl rfl rfl rfl (Ex.add rfl rfl (by first | exact inc64 (by omega) | exact addN (by omega) | exact w64 (by omega) (by omega))) hS.rd ?_
                  refine LW.ex rfl rfl rfl rfl (Ex.assign rfl) hS.rd ?_
                  refine LW.nil fun aa ha => ?_
                  have hS := st_le hm116 hS
                  refine ⟨_, _, ?m15, ⟨j + 1, false, (by first | omega | (simp; done) | (simp; omega)), rfl, rfl, hS, by rw [ht, h17_0, h17_10]; rfl⟩, ha.sub ⟨rfl, rfl, rfl, rfl, rfl, rfl, rfl, rfl, trivial⟩⟩
                  case m15 => omega
            · have h15_3 := of_decide_eq_false h15_3
              refine LW.nil fun aa ha => hK18 _ _ _ ?_ aa ha
              refine CW.no rfl ?_
              refine CW.exit fun aa ha => hK15 _ _ _ ?_ aa ha
              refine CW.seq fun K20 hK20 => ?_
              have hje : A.take j = A := List.take_of_length_le (by omega)
              rw [hje] at hb
              refine CW.region [0, 1, 2, 3, 4, 5, 6, 7, 8, 9, 10, 11, 12, 13, 14, 15, 16, 17, 18, 19, 20] rfl ?_
              refine LW.ex rfl rfl rfl rfl (Ex.move rfl) hS.rd ?_
              refine LW.splitB (fun h18_0 => ?_) (fun h18_0 => ?_)
              · skip
                refine LW.ex rfl rfl rfl rfl (Ex.move rfl) hS.rd ?_
                refine LW.skip rfl rfl rfl rfl ?_
                refine LW.skip rfl rfl rfl rfl ?_
                refine LW.skip rfl rfl rfl rfl ?_
                refine LW.skip rfl rfl rfl rfl ?_
                refine LW.skip rfl rfl rfl rfl ?_
                refine LW.skip rfl rfl rfl rfl ?_
                refine LW.skip rfl rfl rfl rfl ?_
                refine LW.skip rfl rfl rfl rfl ?_
                refine LW.skip rfl rfl rfl rfl ?_
                refine LW.skip rfl rfl rfl rfl ?_
                refine LW.skip rfl rfl rfl rfl ?_
                refine LW.skip rfl rfl rfl rfl ?_
                refine LW.skip rfl rfl rfl rfl ?_
                refine LW.skip rfl rfl rfl rfl ?_
                refine LW.ex rfl rfl rfl rfl (by first | exact Ex.pick_yes rfl rfl | exact Ex.pick_no rfl rfl) hS.rd ?_
                refine LW.ex rfl rfl rfl rfl (Ex.move rfl) hS.rd ?_
                refine LW.ex rfl rfl rfl rfl (Ex.move rfl) hS.rd ?_
                refine LW.ex rfl rfl rfl rfl (by first | exact Ex.pick_yes rfl rfl | exact Ex.pick_no rfl rfl) hS.rd ?_
                refine LW.ex rfl rfl rfl rfl (Ex.assign rfl) hS.rd ?_
                refine LW.nil fun aa ha => hK20 _ _ _ ?_ aa ha
                refine CW.ret fun aa ha => ?_
                refine ret_one ha Try.results7 rfl ?_
                exact hS.retS
              · have hA2 := hA2.resolve_left fun ⟨a, ha, e, _⟩ => by rw [h18_0, amongL_mem ha (by rw [e]; exact s2)] at hb; cases hb
                obtain ⟨hAl, hAc⟩ := hA2
                have hk1 : kk - 1 < A.length := by omega
                obtain ⟨_, _, eA, _, f2⟩ := hsA.at hk1
                cases eA
                have hAck := hAc _ (List.getElem_mem hk1)
                refine LW.ex rfl rfl rfl rfl (Ex.move rfl) hS.rd ?_
                refine LW.ex rfl rfl rfl rfl (Ex.move rfl) hS.rd ?_
                refine LW.ex rfl rfl rfl rfl (Ex.lenSl rfl Try.underlying76 rfl) hS.rd ?_
                refine LW.ex rfl rfl rfl rfl (Ex.move rfl) hS.rd ?_
                refine LW.ex rfl rfl rfl rfl (Ex.eql rfl rfl rfl) hS.rd ?_
                refine LW.splitB (fun h18_5 => ?_) (fun h18_5 => ?_)
                · have h18_5 := of_decide_eq_true h18_5
                  refine LW.ex rfl rfl rfl rfl (Ex.move rfl) hS.rd ?_
                  refine LW.ex rfl rfl rfl rfl (Ex.move rfl) hS.rd ?_
                  refine LW.ex rfl rfl rfl rfl (Ex.move rfl) hS.rd ?_
                  refine LW.ex rfl rfl rfl rfl (Ex.move rfl) hS.rd ?_
                  refine LW.ex rfl rfl rfl rfl (Ex.sub (r := ((kk - 1 : Nat) : Int)) rfl rfl (by rw [Sy.w64 (by omega) (by omega)]; omega)) hS.rd ?_
                  refine LW.ex rfl rfl rfl rfl (Ex.indexSl Try.underlying76 ti58 rfl rfl rfl (by omega)) hS.rd ?_
                  refine LW.ex rfl rfl rfl rfl (Ex.fieldO 1 Try.underlying58 rfl rfl ti3 rfl) hS.rd ?_
                  refine LW.ex rfl rfl rfl rfl (Ex.load1 ti3 rfl rfl (by first | exact obT rfl | exact Rd.imm ‹_› | exact slT ‹_›)) hS.rd ?_
                  refine LW.ex rfl rfl rfl rfl (Ex.geq rfl rfl rfl) hS.rd ?_
                  refine LW.splitB (fun h18_14 => ?_) (fun h18_14 => ?_)
                  · have h18_14 := of_decide_eq_true h18_14
                    refine LW.ex rfl rfl rfl rfl (by first | exact Ex.pick_yes rfl rfl | exact Ex.pick_no rfl rfl) hS.rd ?_
                    refine LW.ex rfl rfl rfl rfl (by first | exact Ex.pick_yes rfl rfl | exact Ex.pick_no rfl rfl) hS.rd ?_
                    refine LW.ex rfl rfl rfl rfl (Ex.move rfl) hS.rd ?_
                    refine LW.ex rfl rfl rfl rfl (Ex.move rfl) hS.rd ?_
                    refine LW.ex rfl rfl rfl rfl (by first | exact Ex.pick_yes rfl rfl | exact Ex.pick_no rfl rfl) hS.rd ?_
                    refine LW.ex rfl rfl rfl rfl (Ex.assign rfl) hS.rd ?_
                    refine LW.nil fun aa ha => hK20 _ _ _ ?_ aa ha
                    refine CW.ret fun aa ha => ?_
                    refine ret_one ha Try.results7 rfl ?_
                    exact hS.retS
                  · have h18_14 := of_decide_eq_false h18_14
                    omega
                · have h18_5 := of_decide_eq_false h18_5
                  omega
  have hS := hS.drew
  refine CW.drawP 17 [7, 8, 9, 10, 11, 12, 13, 14, 15] (.ex 0 <| .ex 1 <| .ex 2 <| .ex 3 <| .ex 4 <| .ex 5 <| .pu 7 <| .pu 8 <| .pu 9 <| .pu 10 <| .pu 11 <| .pu 12 <| .pu 13 <| .pu 14 <| .pu 15 <| .two 6 (.one 16 <| .done) 16 (.one 6 <| .done)) [17, 18] (Rd _ _) (Rd _ _) mixed (by kernel_rfl) rfl rfl hS.rd hS.rd ?_
  refine QW.ex rfl rfl rfl rfl (Ex.move rfl) ?_
  refine QW.ex rfl rfl rfl rfl (Ex.indexArr (j := 0) Try.underlying71 ti5 rfl rfl rfl (by omega)) ?_
  refine QW.ex rfl rfl rfl rfl (Ex.load1 ti5 rfl rfl (by first | exact obT rfl | exact Rd.imm ‹_› | exact slT ‹_›)) ?_
  refine QW.ex rfl rfl rfl rfl (Ex.fieldO 0 Try.underlying34 rfl rfl ti30 rfl) ?_
  refine QW.ex rfl rfl rfl rfl (Ex.load1 ti30 rfl rfl (by first | exact obT rfl | exact Rd.imm ‹_› | exact slT ‹_›)) ?_
  refine QW.ex rfl rfl rfl rfl (Ex.lenSl rfl Try.underlying30 rfl) ?_
  refine QW.pu rfl rfl rfl rfl (Ex.indexArr (j := 1) Try.underlying71 ti5 rfl rfl rfl (by omega)) ?_
  refine QW.pu rfl rfl rfl rfl (Ex.load1 ti5 rfl rfl (by first | exact obT rfl | exact Rd.imm ‹_› | exact slT ‹_›)) ?_
  refine QW.pu rfl rfl rfl rfl (Ex.conv Try.underlying5 Try.underlying3 rfl (by first | exact w64 (by omega) (by omega) | exact wu8 (by omega) (by omega))) ?_
  refine QW.pu rfl rfl rfl rfl (Ex.fieldO 0 Try.underlying34 rfl rfl ti30 rfl) ?_
  refine QW.pu rfl rfl rfl rfl (Ex.load1 ti30 rfl rfl (by first | exact obT rfl | exact Rd.imm ‹_› | exact slT ‹_›)) ?_
  refine QW.pu rfl rfl rfl rfl (Ex.lenSl rfl Try.underlying30 rfl) ?_
  refine QW.pu rfl rfl rfl rfl (Ex.add (r := ((m.Words.length + 1 : Nat) : Int)) rfl rfl (by rw [w64 (by omega) (by omega)]; omega)) ?_
  refine QW.pu rfl rfl rfl rfl (Ex.rem (r := ((q.b.toNat % (m.Words.length + 1) : Nat) : Int)) rfl rfl (by omega) (remN _ _)) ?_
  refine QW.pu rfl rfl rfl rfl (Ex.sub (r := pv) rfl rfl (by rw [hpv]; exact w64 (by omega) (by omega))) ?_
  refine QW.two rfl rfl rfl rfl rfl rfl rfl rfl (Hv.callM rfl rfl rfl cb11 (madeX_m l q.a m.Words.length (by omega) (by omega) _ _ hS sl)) (fun _ _ ⟨_, _, _, h⟩ => h.rd.tail) (fun _ _ ⟨_, _, _, h⟩ => h.rd.tail) (Hv.alloc ti38 hS) (fun _ _ ⟨_, _, _, h⟩ => h.rd.tail) (fun _ _ ⟨_, _, _, h⟩ => h.rd.tail) (fun v w30 ⟨ax, cx, hv, hS⟩ => ?gA21) (fun v w9 ⟨b9, hv, hb9, hS⟩ => ?gB21)
  case gA21 =>
    skip
    subst hv
    rw [← hx] at hS ⊢
    refine QW.hv rfl rfl rfl rfl (Hv.alloc ti38 hS) (fun _ _ ⟨_, _, _, h⟩ => h.rd.tail.tail) (fun _ _ ⟨_, _, _, h⟩ => h.rd.tail.tail) fun v w9 ⟨b9, hv, hb9, hS⟩ => ?_
    subst hv
    refine QW.nil ?_
    first | (have hS := (hS : St w _ _ (Own.obj b9 _ _ :: _))) | (have hS := hS.swap)
    refine TW.hu rfl rfl rfl (Hv.storeN (k := 0) ti38 hS rfl rfl rfl rfl (by simp [Value.oneCell'])) (fun _ _ h => (h.rd.erase 0).tail) fun _ w_17 hS => ?_
    dsimp only [List.set] at hS
    refine TW.ex rfl rfl rfl rfl (Ex.assign rfl) hS.rd ?_
    refine TW.nil fun aa ha => ?_
    have hS := hS.swap
    refine hJr3 _ (b9) (ax) (cx) hS  aa (ha.sub ⟨rfl, rfl, rfl, rfl, rfl, trivial⟩)
  case gB21 =>
    skip
    subst hv
    refine QW.hv rfl rfl rfl rfl (Hv.callM rfl rfl rfl cb11 (madeX_m l q.a m.Words.length (by omega) (by omega) _ _ hS sl)) (fun _ _ ⟨_, _, _, h⟩ => h.rd.tail.tail) (fun _ _ ⟨_, _, _, h⟩ => h.rd.tail.tail) fun v w30 ⟨ax, cx, hv, hS⟩ => ?_
    subst hv
    rw [← hx] at hS ⊢
    refine QW.nil ?_
    first | (have hS := (hS : St w _ _ (Own.obj b9 _ _ :: _))) | (have hS := hS.swap)
    refine TW.hu rfl rfl rfl (Hv.storeN (k := 0) ti38 hS rfl rfl rfl rfl (by simp [Value.oneCell'])) (fun _ _ h => (h.rd.erase 0).tail) fun _ w_17 hS => ?_
    dsimp only [List.set] at hS
    refine TW.ex rfl rfl rfl rfl (Ex.assign rfl) hS.rd ?_
    refine TW.nil fun aa ha => ?_
    have hS := hS.swap
    refine hJr3 _ (b9) (ax) (cx) hS  aa (ha.sub ⟨rfl, rfl, rfl, rfl, rfl, trivial⟩)
end Go.Proofs.Ytgnpjhellmfhoaa

/-
  Data: structures, how they lie in memory, and how a statement's reader finds them.
-/
namespace Go.Proofs.Ytgnpjhellmfhoaa
open Go.RowKit Sy Go.ChangeShapes Go.WideShapes Go.ChangeAt
set_option maxRecDepth 100000

structure Q4 where
  a : UInt8
  b : UInt8
  c : UInt8
  d : UInt8
  deriving DecidableEq, Inhabited
instance : El Q4 := ⟨4, fun _ f x => f 0 = some (.int .u8 x.a.toNat) ∧ f 1 = some (.int .u8 x.b.toNat) ∧ f 2 = some (.int .u8 x.c.toNat) ∧ f 3 = some (.int .u8 x.d.toNat), fun _ hf h => ⟨hf _ _ h.1, hf _ _ h.2.1, hf _ _ h.2.2.1, hf _ _ h.2.2.2⟩⟩
end Go.Proofs.Ytgnpjhellmfhoaa
