/-
  Context: the walk of the statement's fixed examples.
-/
import Derived.Test.YtgnpjhellmfhoaaCxY
import Derived.Test.YtgnpjhellmfhoaaCxX
namespace Go.Proofs.Ytgnpjhellmfhoaa
open Go.RowKit Sy

theorem cc_c (x : Lat) (p : Int) (es : List Int) (r : Int × Bool) (hr : costR x m0 p es = r) (hsm : ∀ e ∈ x.Edges, -1099511627776 ≤ e.To ∧ e.To ≤ 1099511627776) (hes : es.length ≤ 1000000)
    (a0 a1 a3 a4 : Option Addr) (c0 c1 c3 c4 : Nat) (μ : Mem) (w : World) (hμ : Imm μ w) (hxl : Sl μ a3 c3 x.Edges) (hm0 : Sl μ a0 c0 m0.Words) (hm1 : Sl μ a1 c1 m0.Counts) (hel : Sl μ a4 c4 es) :
    Calls Try.prog 15 #[.agg #[.int .i64 x.N, .slice a3 x.Edges.length c3], .agg #[.slice a0 3 c0, .slice a1 3 c1, .slice none 0 0, .int .i64 0], .int .i64 p, .slice a4 es.length c4] w (RetS w (.tuple #[.int .i64 r.1, .bool r.2])) := by
  rw [← hr]
  exact ccost_c x m0 p es m0_words hsm hes a0 a1 none a3 a4 c0 c1 0 c3 c4 μ w hμ hxl hm0 hm1 (Sl.nil _ _ _ (by simp [maxLen])) hel
theorem linksIn0 : LinksIn x0 bW.G [0, 2] := ⟨by decide, by decide⟩
set_option maxRecDepth 100000 in
set_option maxHeartbeats 2000000 in
theorem sanity_c (w : World) : Calls Try.prog 9 #[] w (RetS w (.bool true)) := by
  have hS := St.start w (fun _ => none) (fun _ _ h => by cases h)
  refine calls_start 132 [] Try.func9 rfl Try.ntmps9 rfl rfl ?_
  refine CW.seq fun K1 hK1 => ?_
  refine CW.region [0] rfl ?_
  refine LW.ex rfl rfl rfl rfl (Ex.assign rfl) hS.rd ?_
  refine LW.nil fun aa ha => hK1 _ _ _ ?_ aa ha
  refine CW.seq fun K2 hK2 => ?_
  refine CW.region [0, 1, 2, 3, 4, 5, 6] rfl ?_
  refine LW.ex rfl rfl rfl rfl (Ex.buildS st43 rfl rfl rfl) hS.rd ?_
  refine LW.ex rfl rfl rfl rfl (Ex.buildS st43 rfl rfl rfl) hS.rd ?_
  refine LW.ex rfl rfl rfl rfl (Ex.buildS st43 rfl rfl rfl) hS.rd ?_
  refine LW.hv rfl rfl rfl rfl (Hv.buildSl hS Try.underlying36 ti43 rfl rfl rfl rfl rfl rfl) fun v w19 ⟨b19, hv, hb19, hS⟩ => ?_
  subst hv
  obtain ⟨μ2, hm2, hS, hx2⟩ := hS.shutRow (k := 0) (xs := x0.Edges) rfl (edgeReps _ x0.Edges) (by decide)
  dsimp only [List.eraseIdx] at hS
  refine LW.ex rfl rfl rfl rfl (Ex.buildS st38 rfl rfl rfl) hS.rd ?_
  refine LW.hv rfl rfl rfl rfl (Hv.alloc ti38 hS) fun v w1 ⟨b1, hv, hb1, hS⟩ => ?_
  subst hv
  refine LW.hu rfl rfl rfl (Hv.storeN (k := 0) ti38 hS rfl rfl rfl rfl (by simp [Value.oneCell'])) fun _ w_6 hS => ?_
  dsimp only [List.set] at hS
  refine LW.nil fun aa ha => hK2 _ _ _ ?_ aa ha
  refine CW.seq fun K3 hK3 => ?_
  refine CW.region [0, 1, 2, 3, 4] rfl ?_
  refine LW.hv rfl rfl rfl rfl (Hv.buildSl hS Try.underlying30 ti9 rfl rfl rfl rfl rfl rfl) fun v w21 ⟨b21, hv, hb21, hS⟩ => ?_
  subst hv
  refine LW.hv rfl rfl rfl rfl (Hv.buildSl hS Try.underlying31 ti3 rfl rfl rfl rfl rfl rfl) fun v w22 ⟨b22, hv, hb22, hS⟩ => ?_
  subst hv
  obtain ⟨μ3, hm3, hS, hw3⟩ := hS.shutRow (k := 1) (xs := m0.Words) rfl (RepL.strs _ m0.Words) (by decide)
  dsimp only [List.eraseIdx] at hS
  obtain ⟨μ4, hm4, hS, hc4⟩ := hS.shutRow (k := 0) (xs := m0.Counts) rfl (RepL.ints _ m0.Counts) (by decide)
  dsimp only [List.eraseIdx] at hS
  have hx4 : Sl μ4 _ 3 x0.Edges := (hx2.mono hm3).mono hm4
  have hw4 : Sl μ4 _ 3 m0.Words := hw3.mono hm4
  refine LW.ex rfl rfl rfl rfl (Ex.buildS st34 rfl rfl rfl) hS.rd ?_
  refine LW.hv rfl rfl rfl rfl (Hv.alloc ti34 hS) fun v w2 ⟨b2, hv, hb2, hS⟩ => ?_
  subst hv
  refine LW.hu rfl rfl rfl (Hv.storeN (k := 0) ti34 hS rfl rfl rfl rfl (by simp [Value.oneCell'])) fun _ w_4 hS => ?_
  dsimp only [List.set] at hS
  refine LW.nil fun aa ha => hK3 _ _ _ ?_ aa ha
  refine CW.seq fun K4 hK4 => ?_
  have hJr3 : ∀ (wj : World) (b3 : Nat) (b4 : Nat) (p0 p1 p2 p3 : Option Addr) (q0 q1 q2 q3 : Nat) (μ5 : Mem), St w wj μ5 [Own.obj b4 [.int .i64 1, .slice p2 0 q2, .slice p3 1 q3, .int .i64 0] 49, Own.obj b3 [.int .i64 3, .slice p0 3 q0, .slice p1 3 q1, .int .i64 0] 49, Own.obj b2 [.slice (some ⟨b21, 0, none⟩) 3 3, .slice (some ⟨b22, 0, none⟩) 3 3, .slice none 0 0, .int .i64 0] 34, Own.obj b1 [.int .i64 2, .slice (some ⟨b19, 0, none⟩) 3 3] 38] → (Sl μ5 (some ⟨b19, 0, none⟩) 3 x0.Edges) → (Sl μ5 (some ⟨b21, 0, none⟩) 3 m0.Words) → (Sl μ5 (some ⟨b22, 0, none⟩) 3 m0.Counts) → (Sl μ5 p0 q0 bW.G.Links) → (Sl μ5 p1 q1 bW.Last) → (Sl μ5 p2 q2 ([] : List Link)) → (Sl μ5 p3 q3 [(2 : Int)]) → KW K4 132 [(1, .pointer (some ⟨b1, 0, none⟩)), (2, .pointer (some ⟨b2, 0, none⟩)), (3, .pointer (some ⟨b3, 0, none⟩)), (4, .pointer (some ⟨b4, 0, none⟩))] wj := by
    intro wj b3 b4 p0 p1 p2 p3 q0 q1 q2 q3 μ5 hS hx5 hw5 hc5 hs0 hs1 hs2 hs3
    refine hK4 _ _ _ ?_
    refine CW.seq fun K5 hK5 => ?_
    refine CW.region [0, 1, 2, 3, 4, 5, 6, 7, 8] rfl ?_
    refine LW.ex rfl rfl rfl rfl (Ex.buildS st66 rfl rfl rfl) hS.rd ?_
    refine LW.ex rfl rfl rfl rfl (Ex.buildS st66 rfl rfl rfl) hS.rd ?_
    refine LW.ex rfl rfl rfl rfl (Ex.buildS st66 rfl rfl rfl) hS.rd ?_
    refine LW.hv rfl rfl rfl rfl (Hv.buildSl hS Try.underlying44 ti66 rfl rfl rfl rfl rfl rfl) fun v w33 ⟨b33, hv, hb33, hS⟩ => ?_
    subst hv
    refine LW.ex rfl rfl rfl rfl (Ex.buildS st46 rfl rfl rfl) hS.rd ?_
    refine LW.hv rfl rfl rfl rfl (Hv.buildSl hS Try.underlying31 ti3 rfl rfl rfl rfl rfl rfl) fun v w35 ⟨b35, hv, hb35, hS⟩ => ?_
    subst hv
    obtain ⟨μ6, hm6, hS, hl6⟩ := hS.shutRow (k := 1) (xs := bW.G.Links) rfl (linkReps _ bW.G.Links) (by decide)
    dsimp only [List.eraseIdx] at hS
    obtain ⟨μ7, hm7, hS, ht7⟩ := hS.shutRow (k := 0) (xs := bW.Last) rfl (RepL.ints _ bW.Last) (by decide)
    dsimp only [List.eraseIdx] at hS
    have hx7 := (hx5.mono hm6).mono hm7
    have hw7 := (hw5.mono hm6).mono hm7
    have hc7 := (hc5.mono hm6).mono hm7
    have hs0 := (hs0.mono hm6).mono hm7
    have hs1 := (hs1.mono hm6).mono hm7
    have hs2 := (hs2.mono hm6).mono hm7
    have hs3 := (hs3.mono hm6).mono hm7
    have hl7 := hl6.mono hm7
    refine LW.ex rfl rfl rfl rfl (Ex.buildS st49 rfl rfl rfl) hS.rd ?_
    refine LW.hv rfl rfl rfl rfl (Hv.alloc ti49 hS) fun v w5 ⟨b5, hv, hb5, hS⟩ => ?_
    subst hv
    refine LW.hu rfl rfl rfl (Hv.storeN (k := 0) ti49 hS rfl rfl rfl rfl (by simp [Value.oneCell'])) fun _ w_8 hS => ?_
    dsimp only [List.set] at hS
    refine LW.nil fun aa ha => hK5 _ _ _ ?_ aa ha
    refine CW.seq fun K6 hK6 => ?_
    refine CW.region [0, 1, 2, 3, 4, 5, 6, 7, 8] rfl ?_
    refine LW.ex rfl rfl rfl rfl (Ex.load2c ti38 rfl rfl (by first | exact obT rfl | exact Rd.imm ‹_› | exact slT ‹_›) (by first | exact obT rfl | exact Rd.imm ‹_› | exact slT ‹_›)) hS.rd ?_
    refine LW.ex rfl rfl rfl rfl (Ex.load4c ti34 rfl rfl (by first | exact obT rfl | exact Rd.imm ‹_› | exact slT ‹_›) (by first | exact obT rfl | exact Rd.imm ‹_› | exact slT ‹_›) (by first | exact obT rfl | exact Rd.imm ‹_› | exact slT ‹_›) (by first | exact obT rfl | exact Rd.imm ‹_› | exact slT ‹_›)) hS.rd ?_
    refine LW.hv rfl rfl rfl rfl (Hv.buildSl hS Try.underlying31 ti3 rfl rfl rfl rfl rfl rfl) fun v w40 ⟨b40, hv, hb40, hS⟩ => ?_
    subst hv
    refine LW.hv rfl rfl rfl rfl (Hv.callS hS rfl rfl rfl cb15 (cc_c x0 (-1) [0, 2] (25, true) c0_eq x0_small (by decide) _ _ _ _ _ _ _ _ (memOf _) _ (imm_memOf _) (hx7.mono hS.imm.ext) (hw7.mono hS.imm.ext) (hc7.mono hS.imm.ext) (hS.lend_obj (k := 0) rfl (RepL.ints _ [0, 2]) (by decide)))) fun v w41 ⟨hv, hS⟩ => ?_
    subst hv
    refine LW.ex rfl rfl rfl rfl (Ex.move rfl) hS.rd ?_
    refine LW.ex rfl rfl rfl rfl (Ex.extract rfl rfl) hS.rd ?_
    refine LW.ex rfl rfl rfl rfl (Ex.extract rfl rfl) hS.rd ?_
    refine LW.ex rfl rfl rfl rfl (Ex.assign rfl) hS.rd ?_
    refine LW.ex rfl rfl rfl rfl (Ex.assign rfl) hS.rd ?_
    refine LW.nil fun aa ha => hK6 _ _ _ ?_ aa ha
    refine CW.seq fun K7 hK7 => ?_
    refine CW.region [0, 1, 2, 3, 4, 5, 6, 7, 8] rfl ?_
    refine LW.ex rfl rfl rfl rfl (Ex.load2c ti38 rfl rfl (by first | exact obT rfl | exact Rd.imm ‹_› | exact slT ‹_›) (by first | exact obT rfl | exact Rd.imm ‹_› | exact slT ‹_›)) hS.rd ?_
    refine LW.ex rfl rfl rfl rfl (Ex.load4c ti34 rfl rfl (by first | exact obT rfl | exact Rd.imm ‹_› | exact slT ‹_›) (by first | exact obT rfl | exact Rd.imm ‹_› | exact slT ‹_›) (by first | exact obT rfl | exact Rd.imm ‹_› | exact slT ‹_›) (by first | exact obT rfl | exact Rd.imm ‹_› | exact slT ‹_›)) hS.rd ?_
    refine LW.hv rfl rfl rfl rfl (Hv.buildSl hS Try.underlying31 ti3 rfl rfl rfl rfl rfl rfl) fun v w47 ⟨b47, hv, hb47, hS⟩ => ?_
    subst hv
    refine LW.hv rfl rfl rfl rfl (Hv.callS hS rfl rfl rfl cb15 (cc_c x0 (-1) [1] (14, true) c1_eq x0_small (by decide) _ _ _ _ _ _ _ _ (memOf _) _ (imm_memOf _) (hx7.mono hS.imm.ext) (hw7.mono hS.imm.ext) (hc7.mono hS.imm.ext) (hS.lend_obj (k := 0) rfl (RepL.ints _ [1]) (by decide)))) fun v w48 ⟨hv, hS⟩ => ?_
    subst hv
    refine LW.ex rfl rfl rfl rfl (Ex.move rfl) hS.rd ?_
    refine LW.ex rfl rfl rfl rfl (Ex.extract rfl rfl) hS.rd ?_
    refine LW.ex rfl rfl rfl rfl (Ex.extract rfl rfl) hS.rd ?_
    refine LW.ex rfl rfl rfl rfl (Ex.assign rfl) hS.rd ?_
    refine LW.ex rfl rfl rfl rfl (Ex.assign rfl) hS.rd ?_
    refine LW.nil fun aa ha => hK7 _ _ _ ?_ aa ha
    refine CW.seq fun K8 hK8 => ?_
    refine CW.region [0, 1, 2, 3, 4, 5, 6, 7, 8] rfl ?_
    refine LW.ex rfl rfl rfl rfl (Ex.load2c ti38 rfl rfl (by first | exact obT rfl | exact Rd.imm ‹_› | exact slT ‹_›) (by first | exact obT rfl | exact Rd.imm ‹_› | exact slT ‹_›)) hS.rd ?_
    refine LW.ex rfl rfl rfl rfl (Ex.load4c ti34 rfl rfl (by first | exact obT rfl | exact Rd.imm ‹_› | exact slT ‹_›) (by first | exact obT rfl | exact Rd.imm ‹_› | exact slT ‹_›) (by first | exact obT rfl | exact Rd.imm ‹_› | exact slT ‹_›) (by first | exact obT rfl | exact Rd.imm ‹_› | exact slT ‹_›)) hS.rd ?_
    refine LW.hv rfl rfl rfl rfl (Hv.buildSl hS Try.underlying31 ti3 rfl rfl rfl rfl rfl rfl) fun v w54 ⟨b54, hv, hb54, hS⟩ => ?_
    subst hv
    refine LW.hv rfl rfl rfl rfl (Hv.callS hS rfl rfl rfl cb15 (cc_c x0 (-1) [0] (0, false) c2_eq x0_small (by decide) _ _ _ _ _ _ _ _ (memOf _) _ (imm_memOf _) (hx7.mono hS.imm.ext) (hw7.mono hS.imm.ext) (hc7.mono hS.imm.ext) (hS.lend_obj (k := 0) rfl (RepL.ints _ [0]) (by decide)))) fun v w55 ⟨hv, hS⟩ => ?_
    subst hv
    refine LW.ex rfl rfl rfl rfl (Ex.move rfl) hS.rd ?_
    refine LW.ex rfl rfl rfl rfl (Ex.extract rfl rfl) hS.rd ?_
    refine LW.ex rfl rfl rfl rfl (Ex.extract rfl rfl) hS.rd ?_
    refine LW.ex rfl rfl rfl rfl (Ex.assign rfl) hS.rd ?_
    refine LW.ex rfl rfl rfl rfl (Ex.assign rfl) hS.rd ?_
    refine LW.nil fun aa ha => hK8 _ _ _ ?_ aa ha
    refine CW.seq fun K9 hK9 => ?_
    refine CW.region [0, 1, 2, 3, 4, 5, 6, 7] rfl ?_
    refine LW.ex rfl rfl rfl rfl (Ex.buildS st38 rfl rfl rfl) hS.rd ?_
    refine LW.ex rfl rfl rfl rfl (Ex.load4c ti34 rfl rfl (by first | exact obT rfl | exact Rd.imm ‹_› | exact slT ‹_›) (by first | exact obT rfl | exact Rd.imm ‹_› | exact slT ‹_›) (by first | exact obT rfl | exact Rd.imm ‹_› | exact slT ‹_›) (by first | exact obT rfl | exact Rd.imm ‹_› | exact slT ‹_›)) hS.rd ?_
    refine LW.hv rfl rfl rfl rfl (Hv.callS hS rfl rfl rfl cb15 (cc_c xE 2 [] (0, true) c3_eq (fun e he => by cases he) (by decide) _ _ _ _ _ _ _ _ _ _ hS.imm (Sl.nil _ _ _ (by simp [maxLen])) hw7 hc7 (Sl.nil _ _ _ (by simp [maxLen])))) fun v w61 ⟨hv, hS⟩ => ?_
    subst hv
    refine LW.ex rfl rfl rfl rfl (Ex.move rfl) hS.rd ?_
    refine LW.ex rfl rfl rfl rfl (Ex.extract rfl rfl) hS.rd ?_
    refine LW.ex rfl rfl rfl rfl (Ex.extract rfl rfl) hS.rd ?_
    refine LW.ex rfl rfl rfl rfl (Ex.assign rfl) hS.rd ?_
    refine LW.ex rfl rfl rfl rfl (Ex.assign rfl) hS.rd ?_
    refine LW.nil fun aa ha => hK9 _ _ _ ?_ aa ha
    refine CW.seq fun K10 hK10 => ?_
    refine CW.region [0, 1, 2, 3, 4, 5, 6, 7, 8, 9, 10, 11, 12, 13, 14, 15, 16, 17, 18, 19, 20, 21, 22, 23, 24, 25, 26, 27, 28, 29, 30, 31] rfl ?_
    refine LW.ex rfl rfl rfl rfl (Ex.load4c ti49 rfl rfl (by first | exact obT rfl | exact Rd.imm ‹_› | exact slT ‹_›) (by first | exact obT rfl | exact Rd.imm ‹_› | exact slT ‹_›) (by first | exact obT rfl | exact Rd.imm ‹_› | exact slT ‹_›) (by first | exact obT rfl | exact Rd.imm ‹_› | exact slT ‹_›)) hS.rd ?_
    refine LW.ex rfl rfl rfl rfl (Ex.load4c ti49 rfl rfl (by first | exact obT rfl | exact Rd.imm ‹_› | exact slT ‹_›) (by first | exact obT rfl | exact Rd.imm ‹_› | exact slT ‹_›) (by first | exact obT rfl | exact Rd.imm ‹_› | exact slT ‹_›) (by first | exact obT rfl | exact Rd.imm ‹_› | exact slT ‹_›)) hS.rd ?_
    refine LW.hv rfl rfl rfl rfl (Hv.callS hS rfl rfl rfl cb17 (sameB_c bW bW _ _ _ _ _ _ _ _ _ _ hS.imm hs0 hs1 hl7 ht7)) fun v w66 ⟨hv, hS⟩ => ?_
    subst hv
    refine LW.splitB (fun h9_2 => ?_) (fun h9_2 => ?_)
    · skip
      refine LW.ex rfl rfl rfl rfl (Ex.move rfl) hS.rd ?_
      refine LW.ex rfl rfl rfl rfl (Ex.load4c ti49 rfl rfl (by first | exact obT rfl | exact Rd.imm ‹_› | exact slT ‹_›) (by first | exact obT rfl | exact Rd.imm ‹_› | exact slT ‹_›) (by first | exact obT rfl | exact Rd.imm ‹_› | exact slT ‹_›) (by first | exact obT rfl | exact Rd.imm ‹_› | exact slT ‹_›)) hS.rd ?_
      refine LW.ex rfl rfl rfl rfl (Ex.buildS st46 rfl rfl rfl) hS.rd ?_
      refine LW.hv rfl rfl rfl rfl (Hv.buildSl hS Try.underlying31 ti3 rfl rfl rfl rfl rfl rfl) fun v w70 ⟨b70, hv, hb70, hS⟩ => ?_
      subst hv
      refine LW.ex rfl rfl rfl rfl (Ex.buildS st49 rfl rfl rfl) hS.rd ?_
      refine LW.hv rfl rfl rfl rfl (Hv.callS hS rfl rfl rfl cb17 (sameB_c ⟨⟨1, []⟩, [2], 0⟩ ⟨⟨1, []⟩, [2], 0⟩ _ _ _ _ _ _ _ _ (memOf _) _ (imm_memOf _) (hs2.mono hS.imm.ext) (hs3.mono hS.imm.ext) (Sl.nil _ _ _ (by simp [maxLen])) (hS.lend_obj (k := 0) rfl (RepL.ints _ [2]) (by decide)))) fun v w72 ⟨hv, hS⟩ => ?_
      subst hv
      refine LW.splitB (fun h9_8 => ?_) (fun h9_8 => ?_)
      · skip
        refine LW.ex rfl rfl rfl rfl (by first | exact Ex.pick_yes rfl rfl | exact Ex.pick_no rfl rfl) hS.rd ?_
        refine LW.ex rfl rfl rfl rfl (Ex.move rfl) hS.rd ?_
        refine LW.ex rfl rfl rfl rfl (Ex.load2c ti38 rfl rfl (by first | exact obT rfl | exact Rd.imm ‹_› | exact slT ‹_›) (by first | exact obT rfl | exact Rd.imm ‹_› | exact slT ‹_›)) hS.rd ?_
        refine LW.ex rfl rfl rfl rfl (Ex.load4c ti34 rfl rfl (by first | exact obT rfl | exact Rd.imm ‹_› | exact slT ‹_›) (by first | exact obT rfl | exact Rd.imm ‹_› | exact slT ‹_›) (by first | exact obT rfl | exact Rd.imm ‹_› | exact slT ‹_›) (by first | exact obT rfl | exact Rd.imm ‹_› | exact slT ‹_›)) hS.rd ?_
        refine LW.hv rfl rfl rfl rfl (Hv.callV hS rfl rfl rfl cb13 (lb3_c b19 _ _ _ _ _ _ hS.imm hx7 hw7 hc7)) fun v w77 ⟨μ77, hv77, hm77, hS⟩ => ?_
        obtain ⟨e0, d0, e1, d1, hv, _, _⟩ := hv77
        subst hv
        have hx8 := hx7.mono hm77
        have hw8 := hw7.mono hm77
        have hc8 := hc7.mono hm77
        refine LW.ex rfl rfl rfl rfl (Ex.fieldV Try.underlying49 rfl ti47 rfl rfl rfl) hS.rd ?_
        refine LW.ex rfl rfl rfl rfl (Ex.eql rfl rfl rfl) hS.rd ?_
        refine LW.splitB (fun h9_15 => ?_) (fun h9_15 => ?_)
        · have h9_15 := of_decide_eq_true h9_15
          refine LW.ex rfl rfl rfl rfl (by first | exact Ex.pick_yes rfl rfl | exact Ex.pick_no rfl rfl) hS.rd ?_
          refine LW.ex rfl rfl rfl rfl (Ex.move rfl) hS.rd ?_
          refine LW.ex rfl rfl rfl rfl (Ex.load2c ti38 rfl rfl (by first | exact obT rfl | exact Rd.imm ‹_› | exact slT ‹_›) (by first | exact obT rfl | exact Rd.imm ‹_› | exact slT ‹_›)) hS.rd ?_
          refine LW.ex rfl rfl rfl rfl (Ex.buildS st34 rfl rfl rfl) hS.rd ?_
          refine LW.hv rfl rfl rfl rfl (Hv.callV hS rfl rfl rfl cb13 (lbM_c b19 _ _ hS.imm hx8)) fun v w84 ⟨μ84, hv84, hm84, hS⟩ => ?_
          obtain ⟨e0, d0, e1, d1, hv, _, _⟩ := hv84
          subst hv
          have hx8 := hx8.mono hm84
          have hw8 := hw8.mono hm84
          have hc8 := hc8.mono hm84
          refine LW.ex rfl rfl rfl rfl (Ex.fieldV Try.underlying49 rfl ti47 rfl rfl rfl) hS.rd ?_
          refine LW.ex rfl rfl rfl rfl (Ex.eql rfl rfl rfl) hS.rd ?_
          refine LW.splitB (fun h9_22 => ?_) (fun h9_22 => ?_)
          · have h9_22 := of_decide_eq_true h9_22
            refine LW.ex rfl rfl rfl rfl (by first | exact Ex.pick_yes rfl rfl | exact Ex.pick_no rfl rfl) hS.rd ?_
            refine LW.ex rfl rfl rfl rfl (Ex.move rfl) hS.rd ?_
            refine LW.ex rfl rfl rfl rfl (Ex.buildS st38 rfl rfl rfl) hS.rd ?_
            refine LW.ex rfl rfl rfl rfl (Ex.load4c ti34 rfl rfl (by first | exact obT rfl | exact Rd.imm ‹_› | exact slT ‹_›) (by first | exact obT rfl | exact Rd.imm ‹_› | exact slT ‹_›) (by first | exact obT rfl | exact Rd.imm ‹_› | exact slT ‹_›) (by first | exact obT rfl | exact Rd.imm ‹_› | exact slT ‹_›)) hS.rd ?_
            refine LW.hv rfl rfl rfl rfl (Hv.callV hS rfl rfl rfl cb13 (lbB_c 0 _ _ _ _ _ _ hS.imm hw8 hc8)) fun v w91 ⟨μ91, hv91, hm91, hS⟩ => ?_
            obtain ⟨e0, d0, e1, d1, hv, _, _⟩ := hv91
            subst hv
            have hx8 := hx8.mono hm91
            refine LW.ex rfl rfl rfl rfl (Ex.fieldV Try.underlying49 rfl ti47 rfl rfl rfl) hS.rd ?_
            refine LW.ex rfl rfl rfl rfl (Ex.eql rfl rfl rfl) hS.rd ?_
            refine LW.splitB (fun h9_29 => ?_) (fun h9_29 => ?_)
            · have h9_29 := of_decide_eq_true h9_29
              refine LW.ex rfl rfl rfl rfl (by first | exact Ex.pick_yes rfl rfl | exact Ex.pick_no rfl rfl) hS.rd ?_
              refine LW.ex rfl rfl rfl rfl (Ex.assign rfl) hS.rd ?_
              refine LW.nil fun aa ha => hK10 _ _ _ ?_ aa ha
              refine CW.seq fun K11 hK11 => ?_
              refine CW.region [0, 1, 2, 3, 4, 5, 6, 7, 8, 9, 10, 11, 12, 13, 14, 15, 16, 17, 18, 19, 20, 21, 22, 23] rfl ?_
              refine LW.ex rfl rfl rfl rfl (Ex.move rfl) hS.rd ?_
              refine LW.ex rfl rfl rfl rfl (Ex.eql rfl rfl (decide_eq_true (by omega))) hS.rd ?_
              refine LW.ex rfl rfl rfl rfl (Ex.move rfl) hS.rd ?_
              refine LW.ex rfl rfl rfl rfl (Ex.move rfl) hS.rd ?_
              refine LW.ex rfl rfl rfl rfl (by first | exact Ex.pick_yes rfl rfl | exact Ex.pick_no rfl rfl) hS.rd ?_
              refine LW.ex rfl rfl rfl rfl (Ex.move rfl) hS.rd ?_
              refine LW.ex rfl rfl rfl rfl (Ex.move rfl) hS.rd ?_
              refine LW.ex rfl rfl rfl rfl (Ex.eql rfl rfl (decide_eq_true (by omega))) hS.rd ?_
              refine LW.ex rfl rfl rfl rfl (by first | exact Ex.pick_yes rfl rfl | exact Ex.pick_no rfl rfl) hS.rd ?_
              refine LW.ex rfl rfl rfl rfl (Ex.move rfl) hS.rd ?_
              refine LW.ex rfl rfl rfl rfl (Ex.move rfl) hS.rd ?_
              refine LW.ex rfl rfl rfl rfl (by first | exact Ex.pick_yes rfl rfl | exact Ex.pick_no rfl rfl) hS.rd ?_
              refine LW.ex rfl rfl rfl rfl (Ex.move rfl) hS.rd ?_
              refine LW.ex rfl rfl rfl rfl (Ex.move rfl) hS.rd ?_
              refine LW.ex rfl rfl rfl rfl (Ex.not rfl rfl) hS.rd ?_
              refine LW.ex rfl rfl rfl rfl (by first | exact Ex.pick_yes rfl rfl | exact Ex.pick_no rfl rfl) hS.rd ?_
              refine LW.ex rfl rfl rfl rfl (Ex.move rfl) hS.rd ?_
              refine LW.ex rfl rfl rfl rfl (Ex.move rfl) hS.rd ?_
              refine LW.ex rfl rfl rfl rfl (Ex.eql rfl rfl (decide_eq_true (by omega))) hS.rd ?_
              refine LW.ex rfl rfl rfl rfl (by first | exact Ex.pick_yes rfl rfl | exact Ex.pick_no rfl rfl) hS.rd ?_
              refine LW.ex rfl rfl rfl rfl (Ex.move rfl) hS.rd ?_
              refine LW.ex rfl rfl rfl rfl (Ex.move rfl) hS.rd ?_
              refine LW.ex rfl rfl rfl rfl (by first | exact Ex.pick_yes rfl rfl | exact Ex.pick_no rfl rfl) hS.rd ?_
              refine LW.ex rfl rfl rfl rfl (Ex.assign rfl) hS.rd ?_
              refine LW.nil fun aa ha => hK11 _ _ _ ?_ aa ha
              refine CW.seq fun K12 hK12 => ?_
              refine CW.region [0, 1, 2, 3, 4, 5, 6, 7, 8, 9, 10, 11, 12, 13, 14] rfl ?_
              refine LW.ex rfl rfl rfl rfl (Ex.move rfl) hS.rd ?_
              refine LW.ex rfl rfl rfl rfl (Ex.move rfl) hS.rd ?_
              refine LW.ex rfl rfl rfl rfl (Ex.move rfl) hS.rd ?_
              refine LW.ex rfl rfl rfl rfl (by first | exact Ex.pick_yes rfl rfl | exact Ex.pick_no rfl rfl) hS.rd ?_
              refine LW.ex rfl rfl rfl rfl (Ex.move rfl) hS.rd ?_
              refine LW.ex rfl rfl rfl rfl (Ex.load2c ti38 rfl rfl (by first | exact obT rfl | exact Rd.imm ‹_› | exact slT ‹_›) (by first | exact obT rfl | exact Rd.imm ‹_› | exact slT ‹_›)) hS.rd ?_
              refine LW.ex rfl rfl rfl rfl (Ex.fieldO 0 Try.underlying49 rfl rfl ti46 rfl) hS.rd ?_
              refine LW.ex rfl rfl rfl rfl (Ex.load2c ti46 rfl rfl (by first | exact obT rfl | exact Rd.imm ‹_› | exact slT ‹_›) (by first | exact obT rfl | exact Rd.imm ‹_› | exact slT ‹_›)) hS.rd ?_
              refine LW.hv rfl rfl rfl rfl (Hv.buildSl hS Try.underlying31 ti3 rfl rfl rfl rfl rfl rfl) fun v w126 ⟨b126, hv, hb126, hS⟩ => ?_
              subst hv
              obtain ⟨μ9, hm9, hS, hk9⟩ := hS.shutRow (k := 0) (xs := [(0 : Int), 2]) rfl (RepL.ints _ [0, 2]) (by decide)
              dsimp only [List.eraseIdx] at hS
              have hx9 := hx8.mono hm9
              refine LW.ex rfl rfl rfl rfl (Ex.buildS st58 rfl rfl rfl) hS.rd ?_
              refine LW.hv rfl rfl rfl rfl (Hv.callV hS rfl rfl rfl cb19 (cwords_c x0 bW.G [0, 2] 0 linksIn0 (by decide) _ _ _ _ _ _ _ _ hS.imm hx9 (((((hl7.mono hm77).mono hm84).mono hm91)).mono hm9) hk9)) fun v w128 ⟨μ128, hv128, hm128, hS⟩ => ?_
              obtain ⟨a128, c128, hv, hs128⟩ := hv128
              subst hv
              refine LW.hv rfl rfl rfl rfl (Hv.buildSl hS Try.underlying31 ti3 rfl rfl rfl rfl rfl rfl) fun v w129 ⟨b129, hv, hb129, hS⟩ => ?_
              subst hv
              refine LW.hv rfl rfl rfl rfl (Hv.callS hS rfl rfl rfl cb18 (ints_c [1, 2] [1, 2] _ _ _ _ (memOf _) _ (imm_memOf _) (hs128.mono hS.imm.ext) (hS.lend_obj (k := 0) rfl (RepL.ints _ [1, 2]) (by decide)))) fun v w130 ⟨hv, hS⟩ => ?_
              subst hv
              refine LW.ex rfl rfl rfl rfl (by first | exact Ex.pick_yes rfl rfl | exact Ex.pick_no rfl rfl) hS.rd ?_
              refine LW.ex rfl rfl rfl rfl (Ex.assign rfl) hS.rd ?_
              refine LW.nil fun aa ha => hK12 _ _ _ ?_ aa ha
              refine CW.ret fun aa ha => ?_
              refine ret_one ha Try.results9 rfl ?_
              exact hS.retB (by decide)
            · have h9_29 := of_decide_eq_false h9_29
              exact absurd rfl h9_29
          · have h9_22 := of_decide_eq_false h9_22
            exact absurd rfl h9_22
        · have h9_15 := of_decide_eq_false h9_15
          exact absurd rfl h9_15
      · rw [sameB_self] at h9_8; cases h9_8
    · rw [sameB_self] at h9_2; cases h9_2
  have hS := hS.drew
  refine CW.draw 8 (.ex 0 <| .ex 1 <| .ex 3 <| .ex 4 <| .three 2 (.three 5 (.two 6 (.one 7 <| .done) 7 (.one 6 <| .done)) 6 (.two 5 (.one 7 <| .done) 7 (.one 5 <| .done)) 7 (.two 5 (.one 6 <| .done) 6 (.one 5 <| .done))) 6 (.two 2 (.two 5 (.one 7 <| .done) 7 (.one 5 <| .done)) 7 (.one 2 <| .one 5 <| .done)) 7 (.two 2 (.two 5 (.one 6 <| .done) 6 (.one 5 <| .done)) 6 (.one 2 <| .one 5 <| .done))) [8, 9] (Rd _ _) mixed (by kernel_rfl) rfl rfl hS.rd ?_
  refine PW.ex rfl rfl rfl rfl (Ex.load2c ti38 rfl rfl (by first | exact obT rfl | exact Rd.imm ‹_› | exact slT ‹_›) (by first | exact obT rfl | exact Rd.imm ‹_› | exact slT ‹_›)) ?_
  refine PW.ex rfl rfl rfl rfl (Ex.load4c ti34 rfl rfl (by first | exact obT rfl | exact Rd.imm ‹_› | exact slT ‹_›) (by first | exact obT rfl | exact Rd.imm ‹_› | exact slT ‹_›) (by first | exact obT rfl | exact Rd.imm ‹_› | exact slT ‹_›) (by first | exact obT rfl | exact Rd.imm ‹_› | exact slT ‹_›)) ?_
  refine PW.ex rfl rfl rfl rfl (Ex.buildS st38 rfl rfl rfl) ?_
  refine PW.ex rfl rfl rfl rfl (Ex.load4c ti34 rfl rfl (by first | exact obT rfl | exact Rd.imm ‹_› | exact slT ‹_›) (by first | exact obT rfl | exact Rd.imm ‹_› | exact slT ‹_›) (by first | exact obT rfl | exact Rd.imm ‹_› | exact slT ‹_›) (by first | exact obT rfl | exact Rd.imm ‹_› | exact slT ‹_›)) ?_
  refine PW.three rfl rfl rfl rfl rfl rfl rfl rfl rfl rfl rfl rfl (Hv.callV hS rfl rfl rfl cb13 (lb0_c b19 _ _ _ _ _ _ hS.imm hx4 hw4 hc4)) (fun _ _ ⟨_, _, hm, h⟩ => Rd.le hm h.rd) (Hv.alloc ti49 hS) (fun _ _ ⟨_, _, _, h⟩ => h.rd.tail) (Hv.alloc ti49 hS) (fun _ _ ⟨_, _, _, h⟩ => h.rd.tail) (fun v w26 ⟨μ26, hv26, hm26, hS⟩ => ?gA13) (fun v w3 ⟨b3, hv, hb3, hS⟩ => ?gB13) (fun v w4 ⟨b4, hv, hb4, hS⟩ => ?gC13)
  case gA13 =>
    skip
    obtain ⟨p0, q0, p1, q1, hv, hs0, hs1⟩ := hv26
    subst hv
    have hx4 := hx4.mono hm26
    have hw4 := hw4.mono hm26
    have hc4 := hc4.mono hm26
    refine PW.three rfl rfl rfl rfl rfl rfl rfl rfl rfl rfl rfl rfl (Hv.callV hS rfl rfl rfl cb13 (lbE_c 0 _ _ _ _ _ _ hS.imm hw4 hc4)) (fun _ _ ⟨_, _, hm, h⟩ => Rd.le hm26 (Rd.le hm h.rd)) (Hv.alloc ti49 hS) (fun _ _ ⟨_, _, _, h⟩ => Rd.le hm26 (h.rd.tail)) (Hv.alloc ti49 hS) (fun _ _ ⟨_, _, _, h⟩ => Rd.le hm26 (h.rd.tail)) (fun v w29 ⟨μ29, hv29, hm29, hS⟩ => ?gA14) (fun v w3 ⟨b3, hv, hb3, hS⟩ => ?gB14) (fun v w4 ⟨b4, hv, hb4, hS⟩ => ?gC14)
    case gA14 =>
      skip
      obtain ⟨p2, q2, p3, q3, hv, hs2, hs3⟩ := hv29
      subst hv
      have hx4 := hx4.mono hm29
      have hw4 := hw4.mono hm29
      have hc4 := hc4.mono hm29
      have hs0 := hs0.mono hm29
      have hs1 := hs1.mono hm29
      refine PW.two rfl rfl rfl rfl rfl rfl rfl rfl (Hv.alloc ti49 hS) (fun _ _ ⟨_, _, _, h⟩ => Rd.le hm26 (Rd.le hm29 (h.rd.tail))) (Hv.alloc ti49 hS) (fun _ _ ⟨_, _, _, h⟩ => Rd.le hm26 (Rd.le hm29 (h.rd.tail))) (fun v w3 ⟨b3, hv, hb3, hS⟩ => ?gA15) (fun v w4 ⟨b4, hv, hb4, hS⟩ => ?gB15)
      case gA15 =>
        skip
        subst hv
        refine PW.hv rfl rfl rfl rfl (Hv.alloc ti49 hS) (fun _ _ ⟨_, _, _, h⟩ => Rd.le hm26 (Rd.le hm29 (h.rd.tail.tail))) fun v w4 ⟨b4, hv, hb4, hS⟩ => ?_
        subst hv
        refine PW.nil ?_
        first | (have hS := (hS : St w _ _ (Own.obj b4 _ _ :: _))) | (have hS := hS.swap)
        refine LW.hu rfl rfl rfl (Hv.storeN (k := 1) ti49 hS rfl rfl rfl rfl (by simp [Value.oneCell'])) fun _ w_8 hS => ?_
        dsimp only [List.set] at hS
        refine LW.hu rfl rfl rfl (Hv.storeN (k := 0) ti49 hS rfl rfl rfl rfl (by simp [Value.oneCell'])) fun _ w_9 hS => ?_
        dsimp only [List.set] at hS
        refine LW.nil fun aa ha => ?_
        refine hJr3 _ (b3) (b4) (p0) (p1) (p2) (p3) (q0) (q1) (q2) (q3) (μ29) hS (hx4) (hw4) (hc4) (hs0) (hs1) (hs2) (hs3) aa (ha.sub ⟨rfl, rfl, rfl, rfl, trivial⟩)
      case gB15 =>
        skip
        subst hv
        refine PW.hv rfl rfl rfl rfl (Hv.alloc ti49 hS) (fun _ _ ⟨_, _, _, h⟩ => Rd.le hm26 (Rd.le hm29 (h.rd.tail.tail))) fun v w3 ⟨b3, hv, hb3, hS⟩ => ?_
        subst hv
        refine PW.nil ?_
        first | (have hS := (hS : St w _ _ (Own.obj b4 _ _ :: _))) | (have hS := hS.swap)
        refine LW.hu rfl rfl rfl (Hv.storeN (k := 1) ti49 hS rfl rfl rfl rfl (by simp [Value.oneCell'])) fun _ w_8 hS => ?_
        dsimp only [List.set] at hS
        refine LW.hu rfl rfl rfl (Hv.storeN (k := 0) ti49 hS rfl rfl rfl rfl (by simp [Value.oneCell'])) fun _ w_9 hS => ?_
        dsimp only [List.set] at hS
        refine LW.nil fun aa ha => ?_
        refine hJr3 _ (b3) (b4) (p0) (p1) (p2) (p3) (q0) (q1) (q2) (q3) (μ29) hS (hx4) (hw4) (hc4) (hs0) (hs1) (hs2) (hs3) aa (ha.sub ⟨rfl, rfl, rfl, rfl, trivial⟩)
    case gB14 =>
      skip
      subst hv
      refine PW.two rfl rfl rfl rfl rfl rfl rfl rfl (Hv.callV hS rfl rfl rfl cb13 (lbE_c 0 _ _ _ _ _ _ hS.imm hw4 hc4)) (fun _ _ ⟨_, _, hm, h⟩ => Rd.le hm26 (Rd.le hm h.rd.tail)) (Hv.alloc ti49 hS) (fun _ _ ⟨_, _, _, h⟩ => Rd.le hm26 (h.rd.tail.tail)) (fun v w29 ⟨μ29, hv29, hm29, hS⟩ => ?gA16) (fun v w4 ⟨b4, hv, hb4, hS⟩ => ?gB16)
      case gA16 =>
        skip
        obtain ⟨p2, q2, p3, q3, hv, hs2, hs3⟩ := hv29
        subst hv
        have hx4 := hx4.mono hm29
        have hw4 := hw4.mono hm29
        have hc4 := hc4.mono hm29
        have hs0 := hs0.mono hm29
        have hs1 := hs1.mono hm29
        refine PW.hv rfl rfl rfl rfl (Hv.alloc ti49 hS) (fun _ _ ⟨_, _, _, h⟩ => Rd.le hm26 (Rd.le hm29 (h.rd.tail.tail))) fun v w4 ⟨b4, hv, hb4, hS⟩ => ?_
        subst hv
        refine PW.nil ?_
        first | (have hS := (hS : St w _ _ (Own.obj b4 _ _ :: _))) | (have hS := hS.swap)
        refine LW.hu rfl rfl rfl (Hv.storeN (k := 1) ti49 hS rfl rfl rfl rfl (by simp [Value.oneCell'])) fun _ w_8 hS => ?_
        dsimp only [List.set] at hS
        refine LW.hu rfl rfl rfl (Hv.storeN (k := 0) ti49 hS rfl rfl rfl rfl (by simp [Value.oneCell'])) fun _ w_9 hS => ?_
        dsimp only [List.set] at hS
        refine LW.nil fun aa ha => ?_
        refine hJr3 _ (b3) (b4) (p0) (p1) (p2) (p3) (q0) (q1) (q2) (q3) (μ29) hS (hx4) (hw4) (hc4) (hs0) (hs1) (hs2) (hs3) aa (ha.sub ⟨rfl, rfl, rfl, rfl, trivial⟩)
      case gB16 =>
        skip
        subst hv
        refine PW.hv rfl rfl rfl rfl (Hv.callV hS rfl rfl rfl cb13 (lbE_c 0 _ _ _ _ _ _ hS.imm hw4 hc4)) (fun _ _ ⟨_, _, hm, h⟩ => Rd.le hm26 (Rd.le hm h.rd.tail.tail)) fun v w29 ⟨μ29, hv29, hm29, hS⟩ => ?_
        obtain ⟨p2, q2, p3, q3, hv, hs2, hs3⟩ := hv29
        subst hv
        have hx4 := hx4.mono hm29
        have hw4 := hw4.mono hm29
        have hc4 := hc4.mono hm29
        have hs0 := hs0.mono hm29
        have hs1 := hs1.mono hm29
        refine PW.nil ?_
        first | (have hS := (hS : St w _ _ (Own.obj b4 _ _ :: _))) | (have hS := hS.swap)
        refine LW.hu rfl rfl rfl (Hv.storeN (k := 1) ti49 hS rfl rfl rfl rfl (by simp [Value.oneCell'])) fun _ w_8 hS => ?_
        dsimp only [List.set] at hS
        refine LW.hu rfl rfl rfl (Hv.storeN (k := 0) ti49 hS rfl rfl rfl rfl (by simp [Value.oneCell'])) fun _ w_9 hS => ?_
        dsimp only [List.set] at hS
        refine LW.nil fun aa ha => ?_
        refine hJr3 _ (b3) (b4) (p0) (p1) (p2) (p3) (q0) (q1) (q2) (q3) (μ29) hS (hx4) (hw4) (hc4) (hs0) (hs1) (hs2) (hs3) aa (ha.sub ⟨rfl, rfl, rfl, rfl, trivial⟩)
    case gC14 =>
      skip
      subst hv
      refine PW.two rfl rfl rfl rfl rfl rfl rfl rfl (Hv.callV hS rfl rfl rfl cb13 (lbE_c 0 _ _ _ _ _ _ hS.imm hw4 hc4)) (fun _ _ ⟨_, _, hm, h⟩ => Rd.le hm26 (Rd.le hm h.rd.tail)) (Hv.alloc ti49 hS) (fun _ _ ⟨_, _, _, h⟩ => Rd.le hm26 (h.rd.tail.tail)) (fun v w29 ⟨μ29, hv29, hm29, hS⟩ => ?gA17) (fun v w3 ⟨b3, hv, hb3, hS⟩ => ?gB17)
      case gA17 =>
        skip
        obtain ⟨p2, q2, p3, q3, hv, hs2, hs3⟩ := hv29
        subst hv
        have hx4 := hx4.mono hm29
        have hw4 := hw4.mono hm29
        have hc4 := hc4.mono hm29
        have hs0 := hs0.mono hm29
        have hs1 := hs1.mono hm29
        refine PW.hv rfl rfl rfl rfl (Hv.alloc ti49 hS) (fun _ _ ⟨_, _, _, h⟩ => Rd.le hm26 (Rd.le hm29 (h.rd.tail.tail))) fun v w3 ⟨b3, hv, hb3, hS⟩ => ?_
        subst hv
        refine PW.nil ?_
        first | (have hS := (hS : St w _ _ (Own.obj b4 _ _ :: _))) | (have hS := hS.swap)
        refine LW.hu rfl rfl rfl (Hv.storeN (k := 1) ti49 hS rfl rfl rfl rfl (by simp [Value.oneCell'])) fun _ w_8 hS => ?_
        dsimp only [List.set] at hS
        refine LW.hu rfl rfl rfl (Hv.storeN (k := 0) ti49 hS rfl rfl rfl rfl (by simp [Value.oneCell'])) fun _ w_9 hS => ?_
        dsimp only [List.set] at hS
        refine LW.nil fun aa ha => ?_
        refine hJr3 _ (b3) (b4) (p0) (p1) (p2) (p3) (q0) (q1) (q2) (q3) (μ29) hS (hx4) (hw4) (hc4) (hs0) (hs1) (hs2) (hs3) aa (ha.sub ⟨rfl, rfl, rfl, rfl, trivial⟩)
      case gB17 =>
        skip
        subst hv
        refine PW.hv rfl rfl rfl rfl (Hv.callV hS rfl rfl rfl cb13 (lbE_c 0 _ _ _ _ _ _ hS.imm hw4 hc4)) (fun _ _ ⟨_, _, hm, h⟩ => Rd.le hm26 (Rd.le hm h.rd.tail.tail)) fun v w29 ⟨μ29, hv29, hm29, hS⟩ => ?_
        obtain ⟨p2, q2, p3, q3, hv, hs2, hs3⟩ := hv29
        subst hv
        have hx4 := hx4.mono hm29
        have hw4 := hw4.mono hm29
        have hc4 := hc4.mono hm29
        have hs0 := hs0.mono hm29
        have hs1 := hs1.mono hm29
        refine PW.nil ?_
        first | (have hS := (hS : St w _ _ (Own.obj b4 _ _ :: _))) | (have hS := hS.swap)
        refine LW.hu rfl rfl rfl (Hv.storeN (k := 1) ti49 hS rfl rfl rfl rfl (by simp [Value.oneCell'])) fun _ w_8 hS => ?_
        dsimp only [List.set] at hS
        refine LW.hu rfl rfl rfl (Hv.storeN (k := 0) ti49 hS rfl rfl rfl rfl (by simp [Value.oneCell'])) fun _ w_9 hS => ?_
        dsimp only [List.set] at hS
        refine LW.nil fun aa ha => ?_
        refine hJr3 _ (b3) (b4) (p0) (p1) (p2) (p3) (q0) (q1) (q2) (q3) (μ29) hS (hx4) (hw4) (hc4) (hs0) (hs1) (hs2) (hs3) aa (ha.sub ⟨rfl, rfl, rfl, rfl, trivial⟩)
  case gB13 =>
    skip
    subst hv
    refine PW.two rfl rfl rfl rfl rfl rfl rfl rfl (Hv.callV hS rfl rfl rfl cb13 (lb0_c b19 _ _ _ _ _ _ hS.imm hx4 hw4 hc4)) (fun _ _ ⟨_, _, hm, h⟩ => Rd.le hm h.rd.tail) (Hv.alloc ti49 hS) (fun _ _ ⟨_, _, _, h⟩ => h.rd.tail.tail) (fun v w26 ⟨μ26, hv26, hm26, hS⟩ => ?gA18) (fun v w4 ⟨b4, hv, hb4, hS⟩ => ?gB18)
    case gA18 =>
      skip
      obtain ⟨p0, q0, p1, q1, hv, hs0, hs1⟩ := hv26
      subst hv
      have hx4 := hx4.mono hm26
      have hw4 := hw4.mono hm26
      have hc4 := hc4.mono hm26
      refine PW.two rfl rfl rfl rfl rfl rfl rfl rfl (Hv.callV hS rfl rfl rfl cb13 (lbE_c 0 _ _ _ _ _ _ hS.imm hw4 hc4)) (fun _ _ ⟨_, _, hm, h⟩ => Rd.le hm26 (Rd.le hm h.rd.tail)) (Hv.alloc ti49 hS) (fun _ _ ⟨_, _, _, h⟩ => Rd.le hm26 (h.rd.tail.tail)) (fun v w29 ⟨μ29, hv29, hm29, hS⟩ => ?gA19) (fun v w4 ⟨b4, hv, hb4, hS⟩ => ?gB19)
      case gA19 =>
        skip
        obtain ⟨p2, q2, p3, q3, hv, hs2, hs3⟩ := hv29
        subst hv
        have hx4 := hx4.mono hm29
        have hw4 := hw4.mono hm29
        have hc4 := hc4.mono hm29
        have hs0 := hs0.mono hm29
        have hs1 := hs1.mono hm29
        refine PW.hv rfl rfl rfl rfl (Hv.alloc ti49 hS) (fun _ _ ⟨_, _, _, h⟩ => Rd.le hm26 (Rd.le hm29 (h.rd.tail.tail))) fun v w4 ⟨b4, hv, hb4, hS⟩ => ?_
        subst hv
        refine PW.nil ?_
        first | (have hS := (hS : St w _ _ (Own.obj b4 _ _ :: _))) | (have hS := hS.swap)
        refine LW.hu rfl rfl rfl (Hv.storeN (k := 1) ti49 hS rfl rfl rfl rfl (by simp [Value.oneCell'])) fun _ w_8 hS => ?_
        dsimp only [List.set] at hS
        refine LW.hu rfl rfl rfl (Hv.storeN (k := 0) ti49 hS rfl rfl rfl rfl (by simp [Value.oneCell'])) fun _ w_9 hS => ?_
        dsimp only [List.set] at hS
        refine LW.nil fun aa ha => ?_
        refine hJr3 _ (b3) (b4) (p0) (p1) (p2) (p3) (q0) (q1) (q2) (q3) (μ29) hS (hx4) (hw4) (hc4) (hs0) (hs1) (hs2) (hs3) aa (ha.sub ⟨rfl, rfl, rfl, rfl, trivial⟩)
      case gB19 =>
        skip
        subst hv
        refine PW.hv rfl rfl rfl rfl (Hv.callV hS rfl rfl rfl cb13 (lbE_c 0 _ _ _ _ _ _ hS.imm hw4 hc4)) (fun _ _ ⟨_, _, hm, h⟩ => Rd.le hm26 (Rd.le hm h.rd.tail.tail)) fun v w29 ⟨μ29, hv29, hm29, hS⟩ => ?_
        obtain ⟨p2, q2, p3, q3, hv, hs2, hs3⟩ := hv29
        subst hv
        have hx4 := hx4.mono hm29
        have hw4 := hw4.mono hm29
        have hc4 := hc4.mono hm29
        have hs0 := hs0.mono hm29
        have hs1 := hs1.mono hm29
        refine PW.nil ?_
        first | (have hS := (hS : St w _ _ (Own.obj b4 _ _ :: _))) | (have hS := hS.swap)
        refine LW.hu rfl rfl rfl (Hv.storeN (k := 1) ti49 hS rfl rfl rfl rfl (by simp [Value.oneCell'])) fun _ w_8 hS => ?_
        dsimp only [List.set] at hS
        refine LW.hu rfl rfl rfl (Hv.storeN (k := 0) ti49 hS rfl rfl rfl rfl (by simp [Value.oneCell'])) fun _ w_9 hS => ?_
        dsimp only [List.set] at hS
        refine LW.nil fun aa ha => ?_
        refine hJr3 _ (b3) (b4) (p0) (p1) (p2) (p3) (q0) (q1) (q2) (q3) (μ29) hS (hx4) (hw4) (hc4) (hs0) (hs1) (hs2) (hs3) aa (ha.sub ⟨rfl, rfl, rfl, rfl, trivial⟩)
    case gB18 =>
      skip
      subst hv
      refine PW.hv rfl rfl rfl rfl (Hv.callV hS rfl rfl rfl cb13 (lb0_c b19 _ _ _ _ _ _ hS.imm hx4 hw4 hc4)) (fun _ _ ⟨_, _, hm, h⟩ => Rd.le hm h.rd.tail.tail) fun v w26 ⟨μ26, hv26, hm26, hS⟩ => ?_
      obtain ⟨p0, q0, p1, q1, hv, hs0, hs1⟩ := hv26
      subst hv
      have hx4 := hx4.mono hm26
      have hw4 := hw4.mono hm26
      have hc4 := hc4.mono hm26
      refine PW.hv rfl rfl rfl rfl (Hv.callV hS rfl rfl rfl cb13 (lbE_c 0 _ _ _ _ _ _ hS.imm hw4 hc4)) (fun _ _ ⟨_, _, hm, h⟩ => Rd.le hm26 (Rd.le hm h.rd.tail.tail)) fun v w29 ⟨μ29, hv29, hm29, hS⟩ => ?_
      obtain ⟨p2, q2, p3, q3, hv, hs2, hs3⟩ := hv29
      subst hv
      have hx4 := hx4.mono hm29
      have hw4 := hw4.mono hm29
      have hc4 := hc4.mono hm29
      have hs0 := hs0.mono hm29
      have hs1 := hs1.mono hm29
      refine PW.nil ?_
      first | (have hS := (hS : St w _ _ (Own.obj b4 _ _ :: _))) | (have hS := hS.swap)
      refine LW.hu rfl rfl rfl (Hv.storeN (k := 1) ti49 hS rfl rfl rfl rfl (by simp [Value.oneCell'])) fun _ w_8 hS => ?_
      dsimp only [List.set] at hS
      refine LW.hu rfl rfl rfl (Hv.storeN (k := 0) ti49 hS rfl rfl rfl rfl (by simp [Value.oneCell'])) fun _ w_9 hS => ?_
      dsimp only [List.set] at hS
      refine LW.nil fun aa ha => ?_
      refine hJr3 _ (b3) (b4) (p0) (p1) (p2) (p3) (q0) (q1) (q2) (q3) (μ29) hS (hx4) (hw4) (hc4) (hs0) (hs1) (hs2) (hs3) aa (ha.sub ⟨rfl, rfl, rfl, rfl, trivial⟩)
  case gC13 =>
    skip
    subst hv
    refine PW.two rfl rfl rfl rfl rfl rfl rfl rfl (Hv.callV hS rfl rfl rfl cb13 (lb0_c b19 _ _ _ _ _ _ hS.imm hx4 hw4 hc4)) (fun _ _ ⟨_, _, hm, h⟩ => Rd.le hm h.rd.tail) (Hv.alloc ti49 hS) (fun _ _ ⟨_, _, _, h⟩ => h.rd.tail.tail) (fun v w26 ⟨μ26, hv26, hm26, hS⟩ => ?gA20) (fun v w3 ⟨b3, hv, hb3, hS⟩ => ?gB20)
    case gA20 =>
      skip
      obtain ⟨p0, q0, p1, q1, hv, hs0, hs1⟩ := hv26
      subst hv
      have hx4 := hx4.mono hm26
      have hw4 := hw4.mono hm26
      have hc4 := hc4.mono hm26
      refine PW.two rfl rfl rfl rfl rfl rfl rfl rfl (Hv.callV hS rfl rfl rfl cb13 (lbE_c 0 _ _ _ _ _ _ hS.imm hw4 hc4)) (fun _ _ ⟨_, _, hm, h⟩ => Rd.le hm26 (Rd.le hm h.rd.tail)) (Hv.alloc ti49 hS) (fun _ _ ⟨_, _, _, h⟩ => Rd.le hm26 (h.rd.tail.tail)) (fun v w29 ⟨μ29, hv29, hm29, hS⟩ => ?gA21) (fun v w3 ⟨b3, hv, hb3, hS⟩ => ?gB21)
      case gA21 =>
        skip
        obtain ⟨p2, q2, p3, q3, hv, hs2, hs3⟩ := hv29
        subst hv
        have hx4 := hx4.mono hm29
        have hw4 := hw4.mono hm29
        have hc4 := hc4.mono hm29
        have hs0 := hs0.mono hm29
        have hs1 := hs1.mono hm29
        refine PW.hv rfl rfl rfl rfl (Hv.alloc ti49 hS) (fun _ _ ⟨_, _, _, h⟩ => Rd.le hm26 (Rd.le hm29 (h.rd.tail.tail))) fun v w3 ⟨b3, hv, hb3, hS⟩ => ?_
        subst hv
        refine PW.nil ?_
        first | (have hS := (hS : St w _ _ (Own.obj b4 _ _ :: _))) | (have hS := hS.swap)
        refine LW.hu rfl rfl rfl (Hv.storeN (k := 1) ti49 hS rfl rfl rfl rfl (by simp [Value.oneCell'])) fun _ w_8 hS => ?_
        dsimp only [List.set] at hS
        refine LW.hu rfl rfl rfl (Hv.storeN (k := 0) ti49 hS rfl rfl rfl rfl (by simp [Value.oneCell'])) fun _ w_9 hS => ?_
        dsimp only [List.set] at hS
        refine LW.nil fun aa ha => ?_
        refine hJr3 _ (b3) (b4) (p0) (p1) (p2) (p3) (q0) (q1) (q2) (q3) (μ29) hS (hx4) (hw4) (hc4) (hs0) (hs1) (hs2) (hs3) aa (ha.sub ⟨rfl, rfl, rfl, rfl, trivial⟩)
      case gB21 =>
        skip
        subst hv
        refine PW.hv rfl rfl rfl rfl (Hv.callV hS rfl rfl rfl cb13 (lbE_c 0 _ _ _ _ _ _ hS.imm hw4 hc4)) (fun _ _ ⟨_, _, hm, h⟩ => Rd.le hm26 (Rd.le hm h.rd.tail.tail)) fun v w29 ⟨μ29, hv29, hm29, hS⟩ => ?_
        obtain ⟨p2, q2, p3, q3, hv, hs2, hs3⟩ := hv29
        subst hv
        have hx4 := hx4.mono hm29
        have hw4 := hw4.mono hm29
        have hc4 := hc4.mono hm29
        have hs0 := hs0.mono hm29
        have hs1 := hs1.mono hm29
        refine PW.nil ?_
        first | (have hS := (hS : St w _ _ (Own.obj b4 _ _ :: _))) | (have hS := hS.swap)
        refine LW.hu rfl rfl rfl (Hv.storeN (k := 1) ti49 hS rfl rfl rfl rfl (by simp [Value.oneCell'])) fun _ w_8 hS => ?_
        dsimp only [List.set] at hS
        refine LW.hu rfl rfl rfl (Hv.storeN (k := 0) ti49 hS rfl rfl rfl rfl (by simp [Value.oneCell'])) fun _ w_9 hS => ?_
        dsimp only [List.set] at hS
        refine LW.nil fun aa ha => ?_
        refine hJr3 _ (b3) (b4) (p0) (p1) (p2) (p3) (q0) (q1) (q2) (q3) (μ29) hS (hx4) (hw4) (hc4) (hs0) (hs1) (hs2) (hs3) aa (ha.sub ⟨rfl, rfl, rfl, rfl, trivial⟩)
    case gB20 =>
      skip
      subst hv
      refine PW.hv rfl rfl rfl rfl (Hv.callV hS rfl rfl rfl cb13 (lb0_c b19 _ _ _ _ _ _ hS.imm hx4 hw4 hc4)) (fun _ _ ⟨_, _, hm, h⟩ => Rd.le hm h.rd.tail.tail) fun v w26 ⟨μ26, hv26, hm26, hS⟩ => ?_
      obtain ⟨p0, q0, p1, q1, hv, hs0, hs1⟩ := hv26
      subst hv
      have hx4 := hx4.mono hm26
      have hw4 := hw4.mono hm26
      have hc4 := hc4.mono hm26
      refine PW.hv rfl rfl rfl rfl (Hv.callV hS rfl rfl rfl cb13 (lbE_c 0 _ _ _ _ _ _ hS.imm hw4 hc4)) (fun _ _ ⟨_, _, hm, h⟩ => Rd.le hm26 (Rd.le hm h.rd.tail.tail)) fun v w29 ⟨μ29, hv29, hm29, hS⟩ => ?_
      obtain ⟨p2, q2, p3, q3, hv, hs2, hs3⟩ := hv29
      subst hv
      have hx4 := hx4.mono hm29
      have hw4 := hw4.mono hm29
      have hc4 := hc4.mono hm29
      have hs0 := hs0.mono hm29
      have hs1 := hs1.mono hm29
      refine PW.nil ?_
      first | (have hS := (hS : St w _ _ (Own.obj b4 _ _ :: _))) | (have hS := hS.swap)
      refine LW.hu rfl rfl rfl (Hv.storeN (k := 1) ti49 hS rfl rfl rfl rfl (by simp [Value.oneCell'])) fun _ w_8 hS => ?_
      dsimp only [List.set] at hS
      refine LW.hu rfl rfl rfl (Hv.storeN (k := 0) ti49 hS rfl rfl rfl rfl (by simp [Value.oneCell'])) fun _ w_9 hS => ?_
      dsimp only [List.set] at hS
      refine LW.nil fun aa ha => ?_
      refine hJr3 _ (b3) (b4) (p0) (p1) (p2) (p3) (q0) (q1) (q2) (q3) (μ29) hS (hx4) (hw4) (hc4) (hs0) (hs1) (hs2) (hs3) aa (ha.sub ⟨rfl, rfl, rfl, rfl, trivial⟩)
end Go.Proofs.Ytgnpjhellmfhoaa

