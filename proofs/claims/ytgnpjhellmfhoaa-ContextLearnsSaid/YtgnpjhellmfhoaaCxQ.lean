/-
  Context: the walk of Build.
-/
import Derived.Test.YtgnpjhellmfhoaaCxP
namespace Go.Proofs.Ytgnpjhellmfhoaa
open Go.RowKit Sy


theorem nodesL_len {x : Lat} {n : Nat} (hx : okX x = true) (hw : wordsIn x n = true) (p : Int) : (nodesL x n p).length ≤ x.Edges.length + 2 := by
  have h := mid_of hx hw (ys := (endsL x).mergeSort fun a b => !decide (ndLt b a)) (List.mergeSort_perm _ _) ((List.pairwise_mergeSort (fun a b c h1 h2 => by
      simp only [Bool.not_eq_true', decide_eq_false_iff_not] at *; unfold ndLt at *; omega) (fun a b => by
      simp only [Bool.or_eq_true, Bool.not_eq_true', decide_eq_false_iff_not]; unfold ndLt; omega) _).imp fun {a b} h => by simpa using h)
  have h2 := dd_len ((endsL x).mergeSort fun a b => !decide (ndLt b a))
  rw [h, List.length_mergeSort] at h2
  have h3 := endsL_len x
  unfold nodesL
  split <;> simp <;> omega
theorem nodesL_word {x : Lat} {n : Nat} {p : Int} (hp : p < n) : ∀ z ∈ nodesL x n p, z.b < n := by
  intro z hz
  unfold nodesL at hz
  rcases List.mem_cons.1 hz with rfl | hz
  · exact hp
  · rcases List.mem_append.1 hz with hz | hz
    · obtain ⟨q, w, h3, h4, h5, _, rfl⟩ := midR_mem.1 hz
      simp only; omega
    · split at hz
      · obtain rfl := List.mem_singleton.1 hz
        simp only; omega
      · cases hz
def IsBuilt (b : Built) (μ : Mem) (v : Value) : Prop := ∃ adl cl adt ct, v = .tuple #[.agg #[.int .i64 b.G.N, .slice adl b.G.Links.length cl], .slice adt b.Last.length ct, .int .i64 b.E] ∧ Sl μ adl cl b.G.Links ∧ Sl μ adt ct b.Last
theorem IsBuilt.zero (μ : Mem) (e : Int) : IsBuilt ⟨⟨0, []⟩, [], e⟩ μ (.tuple #[.agg #[.int .i64 0, .slice none 0 0], .slice none 0 0, .int .i64 e]) := ⟨none, 0, none, 0, rfl, Sl.nil _ _ _ (by simp [maxLen]), Sl.nil _ _ _ (by simp [maxLen])⟩
theorem findIdx_node {l : List I2} (hs : l.Pairwise ndLt) {j : Nat} (hj : j < l.length) : l.findIdx (fun z => decide (z = l[j])) = j := (List.findIdx_eq hj).2 ⟨decide_eq_true rfl, fun k hk => decide_eq_false fun e => by
  have := nodupI hs (by omega) hj e; omega⟩
/-- The node to which an edge leads. -/
theorem toN_at {x : Lat} {n : Nat} (hx : okX x = true) (hw : wordsIn x n = true) (p : Int) {i : Nat} (hi : i < x.Edges.length) (h : x.Edges[i].To < x.N) : ∃ j, ∃ hj : j < (nodesL x n p).length, 0 < j ∧ (nodesL x n p)[j] = ⟨x.Edges[i].To, x.Edges[i].Word⟩ ∧ toN (nodesL x n p) x x.Edges[i] = j := by
  obtain ⟨h1, h2, _⟩ := okX_edges hx
  have h3 := h2 _ (List.getElem_mem hi)
  have h4 : x.Edges[i].Word < n := by unfold wordsIn at hw; rw [List.all_eq_true] at hw; exact of_decide_eq_true (hw _ (List.getElem_mem hi))
  have hmem : (⟨x.Edges[i].To, x.Edges[i].Word⟩ : I2) ∈ midR x n := midR_mem.2 ⟨x.Edges[i].To.toNat, x.Edges[i].Word.toNat, by omega, by omega, by omega, by
    unfold endsAt; rw [List.any_eq_true]; exact ⟨_, List.getElem_mem hi, by rw [decide_eq_true_eq]; omega⟩, by rw [Int.toNat_of_nonneg (by omega), Int.toNat_of_nonneg (by omega)]⟩
  have hmem2 : (⟨x.Edges[i].To, x.Edges[i].Word⟩ : I2) ∈ midR x n ++ if 0 < x.N then [⟨x.N, -1⟩] else [] := List.mem_append_left _ hmem
  obtain ⟨j, hj, he⟩ := List.getElem_of_mem hmem2
  have hst := nodesL_strict hx n p
  have hj2 : j + 1 < (nodesL x n p).length := by unfold nodesL; rw [List.length_cons]; omega
  have he2 : (nodesL x n p)[j + 1] = ⟨x.Edges[i].To, x.Edges[i].Word⟩ := he
  refine ⟨j + 1, hj2, by omega, he2, ?_⟩
  unfold toN
  rw [if_pos h, ← he2]
  exact findIdx_node hst hj2
set_option maxRecDepth 100000 in
set_option maxHeartbeats 4000000 in
theorem build_c (x : Lat) (m : Mdl) (p : Int) (hws : ∀ s ∈ m.Words, s.size ≤ 9223372036854775807) (hsm : ∀ e ∈ x.Edges, -1099511627776 ≤ e.To ∧ e.To ≤ 1099511627776) (hE : x.Edges.length ≤ 100)
    (a0 a1 a2 a3 : Option Addr) (c0 c1 c2 c3 : Nat) (μ : Mem) (w : World) (hμ : Imm μ w) (hxl : Sl μ a3 c3 x.Edges) (hm0 : Sl μ a0 c0 m.Words) (hm1 : Sl μ a1 c1 m.Counts) (hm2 : Sl μ a2 c2 m.Pairs) :
    Calls Try.prog 33 #[.agg #[.int .i64 x.N, .slice a3 x.Edges.length c3], .agg #[.slice a0 m.Words.length c0, .slice a1 m.Counts.length c1, .slice a2 m.Pairs.length c2, .int .i64 m.Back], .int .i64 p] w (RetV w μ (IsBuilt (buildR x m p))) := by
  have hS := St.start w μ hμ
  refine calls_start 119 [.agg #[.int .i64 x.N, .slice a3 x.Edges.length c3], .agg #[.slice a0 m.Words.length c0, .slice a1 m.Counts.length c1, .slice a2 m.Pairs.length c2, .int .i64 m.Back], .int .i64 p] Try.func33 rfl Try.ntmps33 rfl rfl ?_
  refine CW.seq fun K1 hK1 => ?_
  refine CW.region [0, 1, 2, 3, 4] rfl ?_
  refine LW.hv rfl rfl rfl rfl (Hv.boxS hS rfl rfl) fun v w3 ⟨b3, hv, hb3, hS⟩ => ?_
  subst hv
  refine LW.hv rfl rfl rfl rfl (Hv.boxS hS rfl rfl) fun v w4 ⟨b4, hv, hb4, hS⟩ => ?_
  subst hv
  refine LW.hv rfl rfl rfl rfl (Hv.alloc ti46 hS) fun v w6 ⟨b6, hv, hb6, hS⟩ => ?_
  subst hv
  refine LW.ex rfl rfl rfl rfl (Ex.assign rfl) hS.rd ?_
  refine LW.ex rfl rfl rfl rfl (Ex.assign rfl) hS.rd ?_
  refine LW.nil fun aa ha => hK1 _ _ _ ?_ aa ha
  refine CW.seq fun K2 hK2 => ?_
  refine CW.block ?_
  refine CW.seq fun K3 hK3 => ?_
  refine CW.region [0, 1, 2, 3] rfl ?_
  refine LW.ex rfl rfl rfl rfl (Ex.load4c ti34 rfl rfl (by first | exact obT rfl | exact Rd.imm ‹_› | exact slT ‹_›) (by first | exact obT rfl | exact Rd.imm ‹_› | exact slT ‹_›) (by first | exact obT rfl | exact Rd.imm ‹_› | exact slT ‹_›) (by first | exact obT rfl | exact Rd.imm ‹_› | exact slT ‹_›)) hS.rd ?_
  refine LW.hv rfl rfl rfl rfl (Hv.callS hS rfl rfl rfl cb39 (cvalid_c m hws _ _ _ _ _ _ μ _ hS.imm hm0 hm1 hm2)) fun v w22 ⟨hv, hS⟩ => ?_
  subst hv
  refine LW.splitB (fun h1_1 => ?_) (fun h1_1 => ?_)
  · skip
    refine LW.ex rfl rfl rfl rfl (Ex.not rfl rfl) hS.rd ?_
    refine LW.ex rfl rfl rfl rfl (Ex.assign rfl) hS.rd ?_
    refine LW.nil fun aa ha => hK3 _ _ _ ?_ aa ha
    refine CW.no rfl ?_
    refine CW.seq fun K4 hK4 => ?_
    refine CW.region [0, 1, 2, 3, 4, 5] rfl ?_
    refine LW.ex rfl rfl rfl rfl (Ex.load2c ti38 rfl rfl (by first | exact obT rfl | exact Rd.imm ‹_› | exact slT ‹_›) (by first | exact obT rfl | exact Rd.imm ‹_› | exact slT ‹_›)) hS.rd ?_
    refine LW.ex rfl rfl rfl rfl (Ex.load4c ti34 rfl rfl (by first | exact obT rfl | exact Rd.imm ‹_› | exact slT ‹_›) (by first | exact obT rfl | exact Rd.imm ‹_› | exact slT ‹_›) (by first | exact obT rfl | exact Rd.imm ‹_› | exact slT ‹_›) (by first | exact obT rfl | exact Rd.imm ‹_› | exact slT ‹_›)) hS.rd ?_
    refine LW.ex rfl rfl rfl rfl (Ex.move rfl) hS.rd ?_
    refine LW.hv rfl rfl rfl rfl (Hv.callS hS rfl rfl rfl cb40 (cfits_c x m p hsm _ _ _ _ _ _ _ _ μ _ hS.imm hxl hm0 hm1 hm2)) fun v w29 ⟨hv, hS⟩ => ?_
    subst hv
    refine LW.splitB (fun h3_3 => ?_) (fun h3_3 => ?_)
    · skip
      refine LW.ex rfl rfl rfl rfl (Ex.not rfl rfl) hS.rd ?_
      refine LW.ex rfl rfl rfl rfl (Ex.assign rfl) hS.rd ?_
      refine LW.nil fun aa ha => hK4 _ _ _ ?_ aa ha
      refine CW.no rfl ?_
      refine CW.skip fun aa ha => hK2 _ _ _ ?_ aa ha
      refine CW.seq fun K5 hK5 => ?_
      have hM := okM_iff.1 h1_1
      have hfit := h3_3
      unfold fitsC at hfit
      rw [Bool.and_eq_true, Bool.and_eq_true, decide_eq_true_eq] at hfit
      obtain ⟨⟨hx, hp⟩, hw⟩ := hfit
      have hn2 := hM.n2
      obtain ⟨⟨hN0, hN1, _⟩, hed, _⟩ := okX_edges hx
      have hnl := nodesL_len hx hw p
      have hnsm := nodesL_small hp hn2 hx
      have hnst := nodesL_strict hx m.Words.length p
      have hnwd := nodesL_word (x := x) hp.2
      have hnl1 : 1 ≤ (nodesL x m.Words.length p).length := by unfold nodesL; simp
      have hbR : buildR x m p = ⟨graphR x m p, (nodesL x m.Words.length p).map (·.b), 0⟩ := by unfold buildR; rw [if_pos h1_1, if_pos h3_3]
      refine CW.region [0, 1, 2, 3, 4, 5, 6, 7] rfl ?_
      refine LW.ex rfl rfl rfl rfl (Ex.load2c ti38 rfl rfl (by first | exact obT rfl | exact Rd.imm ‹_› | exact slT ‹_›) (by first | exact obT rfl | exact Rd.imm ‹_› | exact slT ‹_›)) hS.rd ?_
      refine LW.ex rfl rfl rfl rfl (Ex.move rfl) hS.rd ?_
      refine LW.hv rfl rfl rfl rfl (Hv.callM rfl rfl rfl cb55 (nodes_c x m.Words.length p hx hn2 hw hp _ _ hS hxl)) fun v w35 ⟨adN, cN, mb, kv, hv, hS, hkv⟩ => ?_
      subst hv
      refine LW.ex rfl rfl rfl rfl (Ex.move rfl) hS.rd ?_
      refine LW.ex rfl rfl rfl rfl (Ex.extract rfl rfl) hS.rd ?_
      refine LW.ex rfl rfl rfl rfl (Ex.extract rfl rfl) hS.rd ?_
      refine LW.ex rfl rfl rfl rfl (Ex.assign rfl) hS.rd ?_
      refine LW.ex rfl rfl rfl rfl (Ex.assign rfl) hS.rd ?_
      refine LW.nil fun aa ha => hK5 _ _ _ ?_ aa ha
      refine CW.seq fun K6 hK6 => ?_
      refine CW.seq fun K7 hK7 => ?_
      refine CW.region [0, 1, 2] rfl ?_
      refine LW.ex rfl rfl rfl rfl (Ex.move rfl) hS.rd ?_
      refine LW.ex rfl rfl rfl rfl (Ex.lenSl rfl Try.underlying120 rfl) hS.rd ?_
      refine LW.ex rfl rfl rfl rfl (Ex.gtr rfl rfl rfl) hS.rd ?_
      refine LW.splitB (fun h6_2 => ?_) (fun h6_2 => ?_)
      · have h6_2 := of_decide_eq_true h6_2
        omega
      · have h6_2 := of_decide_eq_false h6_2
        refine LW.nil fun aa ha => hK7 _ _ _ ?_ aa ha
        refine CW.no rfl ?_
        refine CW.skip fun aa ha => hK6 _ _ _ ?_ aa ha
        refine CW.seq fun K8 hK8 => ?_
        refine CW.region [0, 1, 2, 3, 4, 5, 6] rfl ?_
        refine LW.ex rfl rfl rfl rfl (Ex.move rfl) hS.rd ?_
        refine LW.ex rfl rfl rfl rfl (Ex.lenSl rfl Try.underlying120 rfl) hS.rd ?_
        refine LW.ex rfl rfl rfl rfl (Ex.buildS st46 rfl rfl rfl) hS.rd ?_
        refine LW.hv rfl rfl rfl rfl (Hv.buildSl hS Try.underlying31 ti3 rfl rfl rfl rfl rfl rfl) fun v w45 ⟨b45, hv, hb45, hS⟩ => ?_
        subst hv
        refine LW.hv rfl rfl rfl rfl (Hv.alloc ti46 hS) fun v w11 ⟨b11, hv, hb11, hS⟩ => ?_
        subst hv
        refine LW.hu rfl rfl rfl (Hv.storeN (k := 0) ti46 hS rfl rfl rfl rfl (by simp [Value.oneCell'])) fun _ w_5 hS => ?_
        dsimp only [List.set] at hS
        refine LW.ex rfl rfl rfl rfl (Ex.assign rfl) hS.rd ?_
        refine LW.nil fun aa ha => hK8 _ _ _ ?_ aa ha
        refine CW.seq fun K9 hK9 => ?_
        refine CW.seq fun K10 hK10 => ?_
        refine CW.region [0, 1, 2] rfl ?_
        refine LW.ex rfl rfl rfl rfl (Ex.move rfl) hS.rd ?_
        refine LW.ex rfl rfl rfl rfl (Ex.lenSl rfl Try.underlying120 rfl) hS.rd ?_
        refine LW.ex rfl rfl rfl rfl (Ex.move rfl) hS.rd ?_
        refine LW.nil fun aa ha => hK10 _ _ _ ?_ aa ha
        refine CW.block ?_
        obtain ⟨gN, rfl⟩ := hS.sl_some 3 rfl (by omega)
        have hS := hS.row_sl (k := 1) rfl 0 1 rfl (by simp [maxLen])
        dsimp only [List.set] at hS
        have hS := nil_sl 66 4 hS
        refine CW.loop (fun qq frm wl10 => ∃ (i : Nat) (adl : Option Addr) (ll : Nat) (cl : Nat) (ks : List Link) (adt : Option Addr) (ct : Nat), i ≤ (nodesL x m.Words.length p).length ∧ ll = ks.length ∧ ll ≤ i * 100 ∧ qq = (nodesL x m.Words.length p).length - i ∧ frm = [(3, .pointer (some ⟨b3, 0, none⟩)), (4, .pointer (some ⟨b4, 0, none⟩)), (6, .pointer (some ⟨b6, 0, none⟩)), (9, .slice (some ⟨gN, 0, none⟩) (nodesL x m.Words.length p).length cN), (10, .map (some mb)), (11, .pointer (some ⟨b11, 0, none⟩)), (12, .slice adt i ct), (46, .slice (some ⟨gN, 0, none⟩) (nodesL x m.Words.length p).length cN), (47, .int .i64 (((nodesL x m.Words.length p).length : Nat) : Int)), (48, .int .i64 i)] ∧ St w wl10 μ [Own.sl adl ll cl 66 4 (ks.flatMap linkL), Own.obj b11 [.int .i64 (nodesL x m.Words.length p).length, .slice adl ll cl] 46, Own.sl adt i ct 3 1 (((nodesL x m.Words.length p).take i).map fun z => Value.int .i64 z.b), Own.mp KPair.val (fun (i : Nat) => .int .i64 i) mb kv, Own.sl (some ⟨gN, 0, none⟩) (nodesL x m.Words.length p).length cN 125 2 ((nodesL x m.Words.length p).flatMap i2L), Own.obj b6 [.int .i64 0, .slice none 0 0] 46, Own.obj b4 [.slice a0 m.Words.length c0, .slice a1 m.Counts.length c1, .slice a2 m.Pairs.length c2, .int .i64 m.Back] 34, Own.obj b3 [.int .i64 x.N, .slice a3 x.Edges.length c3] 38] ∧ (ks = linksTo x m (nodesL x m.Words.length p) i)) _ ⟨0, none, 0, 0, [], some ⟨b45, 0, none⟩, 0, (by first | omega | (simp; done) | (simp; omega)), (by first | omega | (simp; done) | (simp; omega)), (by first | omega | (simp; done) | (simp; omega)), rfl, rfl, hS, rfl⟩ ⟨rfl, rfl, rfl, rfl, rfl, rfl, rfl, rfl, rfl, rfl, trivial⟩ ?_
        clear hS
        rintro qq frm wl10 ⟨i, adl, ll, cl, ks, adt, ct, hi, hll, hlb, hq, rfl, hS, hks⟩
        refine CW.seq fun K11 hK11 => ?_
        refine CW.region [0] rfl ?_
        refine LW.ex rfl rfl rfl rfl (Ex.lss rfl rfl rfl) hS.rd ?_
        refine LW.splitB (fun h10_0 => ?_) (fun h10_0 => ?_)
        · have h10_0 := of_decide_eq_true h10_0
          refine LW.nil fun aa ha => hK11 _ _ _ ?_ aa ha
          refine CW.seq fun K12 hK12 => ?_
          refine CW.yes rfl ?_
          refine CW.skip fun aa ha => hK12 _ _ _ ?_ aa ha
          refine CW.seq fun K13 hK13 => ?_
          refine CW.block ?_
          refine CW.seq fun K14 hK14 => ?_
          have hi2 : i < (nodesL x m.Words.length p).length := by omega
          have f0 := flat2 (enc := i2L) (k := 2) (fun _ => rfl) (nodesL x m.Words.length p) i 0 hi2 (by omega) (v := .int .i64 (nodesL x m.Words.length p)[i].a) rfl
          have f1 := flat2 (enc := i2L) (k := 2) (fun _ => rfl) (nodesL x m.Words.length p) i 1 hi2 (by omega) (v := .int .i64 (nodesL x m.Words.length p)[i].b) rfl
          have hsi := hnsm _ (List.getElem_mem hi2)
          have hwi := hnwd _ (List.getElem_mem hi2)
          refine CW.region [0, 1, 2, 3, 4, 5] rfl ?_
          refine LW.ex rfl rfl rfl rfl (Ex.move rfl) hS.rd ?_
          refine LW.ex rfl rfl rfl rfl (Ex.indexSl Try.underlying120 ti125 rfl rfl rfl (by omega)) hS.rd ?_
          refine LW.ex rfl rfl rfl rfl (Ex.load2c ti125 rfl rfl (slT (v := .int .i64 (nodesL x m.Words.length p)[i].a) (by rw [Nat.zero_add]; exact f0)) (slT (v := .int .i64 (nodesL x m.Words.length p)[i].b) (by rw [Nat.zero_add]; exact f1))) hS.rd ?_
          refine LW.hv rfl rfl rfl rfl (Hv.alloc ti125 hS) fun v w14 ⟨b14, hv, hb14, hS⟩ => ?_
          subst hv
          refine LW.ex rfl rfl rfl rfl (Ex.assign rfl) hS.rd ?_
          refine LW.hu rfl rfl rfl (Hv.storeN (k := 0) ti125 hS rfl rfl rfl rfl (by simp [Value.oneCell'])) fun _ w_5 hS => ?_
          dsimp only [List.set] at hS
          refine LW.nil fun aa ha => hK14 _ _ _ ?_ aa ha
          refine CW.seq fun K15 hK15 => ?_
          refine CW.region [0, 1, 2, 3, 4, 5] rfl ?_
          refine LW.ex rfl rfl rfl rfl (Ex.move rfl) hS.rd ?_
          refine LW.ex rfl rfl rfl rfl (Ex.indexArr (j := 1) Try.underlying125 ti3 rfl rfl rfl (by omega)) hS.rd ?_
          refine LW.ex rfl rfl rfl rfl (Ex.load1 ti3 rfl rfl (by first | exact obT rfl | exact Rd.imm ‹_› | exact slT ‹_›)) hS.rd ?_
          refine LW.hv rfl rfl rfl rfl (Hv.buildSl hS Try.underlying31 ti3 rfl rfl rfl rfl rfl rfl) fun v w56 ⟨b56, hv, hb56, hS⟩ => ?_
          subst hv
          refine LW.hv rfl rfl rfl rfl (Hv.append (k := 4) rfl Try.underlying31 ti3 rfl hS rfl rfl rfl rfl (Rd.objAll (k := 0) rfl hS.rd) (by simp [Value.oneCell']) (by unfold maxLen; omega) (by omega)) fun v w57 ⟨ad57, c57, hv, hS⟩ => ?_
          subst hv
          dsimp only [List.set] at hS
          have hS := hS.drop 0 rfl
          dsimp only [List.eraseIdx] at hS
          rw [show (((nodesL x m.Words.length p).take i).map fun z => Value.int .i64 z.b) ++ [Value.int .i64 (nodesL x m.Words.length p)[i].b] = ((nodesL x m.Words.length p).take (i + 1)).map fun z => Value.int .i64 z.b by rw [List.take_succ_eq_append_getElem hi2, List.map_append]; rfl] at hS
          refine LW.ex rfl rfl rfl rfl (Ex.assign rfl) hS.rd ?_
          refine LW.nil fun aa ha => hK15 _ _ _ ?_ aa ha
          refine CW.seq fun K16 hK16 => ?_
          refine CW.region [0, 1, 2, 3, 4, 5, 6, 7, 8] rfl ?_
          refine LW.ex rfl rfl rfl rfl (Ex.load2c ti38 rfl rfl (by first | exact obT rfl | exact Rd.imm ‹_› | exact slT ‹_›) (by first | exact obT rfl | exact Rd.imm ‹_› | exact slT ‹_›)) hS.rd ?_
          refine LW.ex rfl rfl rfl rfl (Ex.indexArr (j := 0) Try.underlying125 ti3 rfl rfl rfl (by omega)) hS.rd ?_
          refine LW.ex rfl rfl rfl rfl (Ex.load1 ti3 rfl rfl (by first | exact obT rfl | exact Rd.imm ‹_› | exact slT ‹_›)) hS.rd ?_
          refine LW.hv rfl rfl rfl rfl (Hv.callS hS rfl rfl rfl cb56 (from_c x hx (nodesL x m.Words.length p)[i].a (by omega) _ _ μ _ hS.imm hxl)) fun v w62 ⟨hv, hS⟩ => ?_
          subst hv
          refine LW.ex rfl rfl rfl rfl (Ex.move rfl) hS.rd ?_
          refine LW.ex rfl rfl rfl rfl (Ex.extract rfl rfl) hS.rd ?_
          refine LW.ex rfl rfl rfl rfl (Ex.extract rfl rfl) hS.rd ?_
          refine LW.ex rfl rfl rfl rfl (Ex.assign rfl) hS.rd ?_
          refine LW.ex rfl rfl rfl rfl (Ex.assign rfl) hS.rd ?_
          refine LW.nil fun aa ha => hK16 _ _ _ ?_ aa ha
          refine CW.seq fun K17 hK17 => ?_
          refine CW.seq fun K18 hK18 => ?_
          obtain ⟨ys, hy1, hy2, hy3⟩ := hxl.part (lo_mono x (nodesL x m.Words.length p)[i].a) (lo_le x ((nodesL x m.Words.length p)[i].a + 1))
          obtain ⟨z, hz⟩ : ∃ z, z = (nodesL x m.Words.length p)[i] := ⟨_, rfl⟩
          have hlh := lo_mono x z.a
          have hhl := lo_le x (z.a + 1)
          have hlr := linksOf_range hx m (nodesL x m.Words.length p) i z
          rw [← hz] at hS hsi hwi hy1 hy2 hy3 ⊢
          obtain ⟨A, hA⟩ : ∃ A, A = lo x z.a := ⟨_, rfl⟩
          obtain ⟨B, hB⟩ : ∃ B, B = lo x (z.a + 1) := ⟨_, rfl⟩
          rw [← hA] at hlh hy1 hy2 hy3 hlr ⊢
          rw [← hB] at hlh hhl hy1 hy2 hlr ⊢
          obtain ⟨adE, hadE⟩ : ∃ adE, adE = (if c3 = A then a3 else a3.map (·.add (A * 4))) := ⟨_, rfl⟩
          rw [← hadE]
          have hy3 : Sl μ adE (c3 - A) ys := by rw [hadE]; exact hy3
          refine CW.region [0, 1, 2, 3, 4, 5, 6] rfl ?_
          refine LW.ex rfl rfl rfl rfl (Ex.fieldO 1 Try.underlying46 rfl rfl ti44 rfl) hS.rd ?_
          refine LW.ex rfl rfl rfl rfl (Ex.load1 ti44 rfl rfl (by first | exact obT rfl | exact Rd.imm ‹_› | exact slT ‹_›)) hS.rd ?_
          refine LW.ex rfl rfl rfl rfl (Ex.lenSl rfl Try.underlying44 rfl) hS.rd ?_
          refine LW.ex rfl rfl rfl rfl (Ex.move rfl) hS.rd ?_
          refine LW.ex rfl rfl rfl rfl (Ex.lenSl rfl Try.underlying36 rfl) hS.rd ?_
          refine LW.ex rfl rfl rfl rfl (Ex.add rfl rfl (by first | exact inc64 (by omega) | exact addN (by omega) | exact w64 (by omega) (by omega))) hS.rd ?_
          refine LW.ex rfl rfl rfl rfl (Ex.gtr rfl rfl rfl) hS.rd ?_
          refine LW.splitB (fun h14_6 => ?_) (fun h14_6 => ?_)
          · have h14_6 := of_decide_eq_true h14_6
            omega
          · have h14_6 := of_decide_eq_false h14_6
            refine LW.nil fun aa ha => hK18 _ _ _ ?_ aa ha
            refine CW.no rfl ?_
            refine CW.skip fun aa ha => hK17 _ _ _ ?_ aa ha
            refine CW.seq fun K19 hK19 => ?_
            refine CW.region [0, 1, 2] rfl ?_
            refine LW.ex rfl rfl rfl rfl (Ex.move rfl) hS.rd ?_
            refine LW.ex rfl rfl rfl rfl (Ex.lenSl rfl Try.underlying36 rfl) hS.rd ?_
            refine LW.ex rfl rfl rfl rfl (Ex.move rfl) hS.rd ?_
            refine LW.nil fun aa ha => hK19 _ _ _ ?_ aa ha
            refine CW.block ?_
            refine CW.loop (fun qq frm wl17 => ∃ (k : Nat) (adl2 : Option Addr) (ll2 : Nat) (cl2 : Nat) (ks2 : List Link), k ≤ B - A ∧ ll2 = ks2.length ∧ ll2 ≤ i * 100 + k ∧ qq = B - A - k ∧ frm = [(3, .pointer (some ⟨b3, 0, none⟩)), (4, .pointer (some ⟨b4, 0, none⟩)), (6, .pointer (some ⟨b6, 0, none⟩)), (9, .slice (some ⟨gN, 0, none⟩) (nodesL x m.Words.length p).length cN), (10, .map (some mb)), (11, .pointer (some ⟨b11, 0, none⟩)), (12, .slice ad57 (i + 1) c57), (13, .int .i64 i), (14, .pointer (some ⟨b14, 0, none⟩)), (16, .int .i64 A), (46, .slice (some ⟨gN, 0, none⟩) (nodesL x m.Words.length p).length cN), (47, .int .i64 (((nodesL x m.Words.length p).length : Nat) : Int)), (48, .int .i64 i), (73, .slice adE (B - A) (c3 - A)), (74, .int .i64 ((B - A : Nat) : Int)), (75, .int .i64 k)] ∧ St w wl17 μ [Own.obj b14 [.int .i64 z.a, .int .i64 z.b] 125, Own.sl adl2 ll2 cl2 66 4 (ks2.flatMap linkL), Own.obj b11 [.int .i64 (nodesL x m.Words.length p).length, .slice adl2 ll2 cl2] 46, Own.sl ad57 (i + 1) c57 3 1 (((nodesL x m.Words.length p).take (i + 1)).map fun z => Value.int .i64 z.b), Own.mp KPair.val (fun (i : Nat) => .int .i64 i) mb kv, Own.sl (some ⟨gN, 0, none⟩) (nodesL x m.Words.length p).length cN 125 2 ((nodesL x m.Words.length p).flatMap i2L), Own.obj b6 [.int .i64 0, .slice none 0 0] 46, Own.obj b4 [.slice a0 m.Words.length c0, .slice a1 m.Counts.length c1, .slice a2 m.Pairs.length c2, .int .i64 m.Back] 34, Own.obj b3 [.int .i64 x.N, .slice a3 x.Edges.length c3] 38] ∧ (ks2 = ks ++ (List.range' A k).map (mkLink x m (nodesL x m.Words.length p) i z))) _ ⟨0, adl, ll, cl, ks, (by first | omega | (simp; done) | (simp; omega)), (by first | omega | (simp; done) | (simp; omega)), (by first | omega | (simp; done) | (simp; omega)), rfl, rfl, hS, by simp⟩ ⟨rfl, rfl, rfl, rfl, rfl, rfl, rfl, rfl, rfl, rfl, rfl, rfl, rfl, rfl, rfl, rfl, trivial⟩ ?_
            clear hS
            rintro qq frm wl17 ⟨k, adl2, ll2, cl2, ks2, hk, hll2, hlb2, hq, rfl, hS, hks2⟩
            refine CW.seq fun K20 hK20 => ?_
            refine CW.region [0] rfl ?_
            refine LW.ex rfl rfl rfl rfl (Ex.lss rfl rfl rfl) hS.rd ?_
            refine LW.splitB (fun h17_0 => ?_) (fun h17_0 => ?_)
            · have h17_0 := of_decide_eq_true h17_0
              refine LW.nil fun aa ha => hK20 _ _ _ ?_ aa ha
              refine CW.seq fun K21 hK21 => ?_
              refine CW.yes rfl ?_
              refine CW.skip fun aa ha => hK21 _ _ _ ?_ aa ha
              refine CW.seq fun K22 hK22 => ?_
              refine CW.block ?_
              refine CW.seq fun K23 hK23 => ?_
              have hk2 : k < ys.length := by omega
              have hk3 : A + k < x.Edges.length := by omega
              have hye : ys[k] = x.Edges[A + k] := by subst hy1; rw [List.getElem_take, List.getElem_drop]
              have hedk := hed _ (List.getElem_mem hk3)
              have hpc := hM.pairC0 z.b x.Edges[A + k].Word
              have hwk : x.Edges[A + k].Word < m.Words.length := by have h := hw; unfold wordsIn at h; rw [List.all_eq_true] at h; exact of_decide_eq_true (h _ (List.getElem_mem hk3))
              obtain ⟨e, hee⟩ : ∃ e, e = x.Edges[A + k] := ⟨_, rfl⟩
              have hea : edAt x (A + k) = e := by rw [edAt_of hk3, hee]
              obtain ⟨bl, ol, rfl, k0, k1, k2, k3⟩ := hy3.at hk2
              rw [hye, ← hee] at k0 k1 k2 k3
              have hto := toN_at hx hw p hk3
              rw [← hee] at hto hedk hpc hwk
              refine CW.region [0, 1, 2, 3, 4, 5] rfl ?_
              refine LW.ex rfl rfl rfl rfl (Ex.move rfl) hS.rd ?_
              refine LW.ex rfl rfl rfl rfl (Ex.indexSl Try.underlying36 ti43 rfl rfl rfl (by omega)) hS.rd ?_
              refine LW.ex rfl rfl rfl rfl (Ex.load4c ti43 rfl rfl (by first | exact obT rfl | exact Rd.imm ‹_› | exact slT ‹_›) (by first | exact obT rfl | exact Rd.imm ‹_› | exact slT ‹_›) (by first | exact obT rfl | exact Rd.imm ‹_› | exact slT ‹_›) (by first | exact obT rfl | exact Rd.imm ‹_› | exact slT ‹_›)) hS.rd ?_
              refine LW.hv rfl rfl rfl rfl (Hv.alloc ti43 hS) fun v w18 ⟨b18, hv, hb18, hS⟩ => ?_
              subst hv
              refine LW.ex rfl rfl rfl rfl (Ex.assign rfl) hS.rd ?_
              refine LW.hu rfl rfl rfl (Hv.storeN (k := 0) ti43 hS rfl rfl rfl rfl (by simp [Value.oneCell'])) fun _ w_5 hS => ?_
              dsimp only [List.set] at hS
              refine LW.nil fun aa ha => hK23 _ _ _ ?_ aa ha
              refine CW.seq fun K24 hK24 => ?_
              refine CW.region [0, 1, 2, 3] rfl ?_
              refine LW.ex rfl rfl rfl rfl (Ex.move rfl) hS.rd ?_
              refine LW.ex rfl rfl rfl rfl (Ex.lenSl rfl Try.underlying120 rfl) hS.rd ?_
              refine LW.ex rfl rfl rfl rfl (Ex.sub (r := (((nodesL x m.Words.length p).length - 1 : Nat) : Int)) rfl rfl (by rw [w64 (by omega) (by omega)]; omega)) hS.rd ?_
              refine LW.ex rfl rfl rfl rfl (Ex.assign rfl) hS.rd ?_
              refine LW.nil fun aa ha => hK24 _ _ _ ?_ aa ha
              refine CW.seq fun K25 hK25 => ?_
              have hJ20 : ∀ (wj : World) , St w wj μ [Own.obj b18 (edgeL e) 43, Own.obj b14 [.int .i64 z.a, .int .i64 z.b] 125, Own.sl adl2 ll2 cl2 66 4 (ks2.flatMap linkL), Own.obj b11 [.int .i64 (nodesL x m.Words.length p).length, .slice adl2 ll2 cl2] 46, Own.sl ad57 (i + 1) c57 3 1 (((nodesL x m.Words.length p).take (i + 1)).map fun z => Value.int .i64 z.b), Own.mp KPair.val (fun (i : Nat) => .int .i64 i) mb kv, Own.sl (some ⟨gN, 0, none⟩) (nodesL x m.Words.length p).length cN 125 2 ((nodesL x m.Words.length p).flatMap i2L), Own.obj b6 [.int .i64 0, .slice none 0 0] 46, Own.obj b4 [.slice a0 m.Words.length c0, .slice a1 m.Counts.length c1, .slice a2 m.Pairs.length c2, .int .i64 m.Back] 34, Own.obj b3 [.int .i64 x.N, .slice a3 x.Edges.length c3] 38] → KW K25 119 [(3, .pointer (some ⟨b3, 0, none⟩)), (4, .pointer (some ⟨b4, 0, none⟩)), (6, .pointer (some ⟨b6, 0, none⟩)), (9, .slice (some ⟨gN, 0, none⟩) (nodesL x m.Words.length p).length cN), (10, .map (some mb)), (11, .pointer (some ⟨b11, 0, none⟩)), (12, .slice ad57 (i + 1) c57), (13, .int .i64 i), (14, .pointer (some ⟨b14, 0, none⟩)), (16, .int .i64 A), (17, .int .i64 k), (18, .pointer (some ⟨b18, 0, none⟩)), (19, .int .i64 (toN (nodesL x m.Words.length p) x e : Nat)), (46, .slice (some ⟨gN, 0, none⟩) (nodesL x m.Words.length p).length cN), (47, .int .i64 (((nodesL x m.Words.length p).length : Nat) : Int)), (48, .int .i64 i), (73, .slice (some ⟨bl, ol, none⟩) (B - A) (c3 - A)), (74, .int .i64 ((B - A : Nat) : Int)), (75, .int .i64 k)] wj := by
                intro wj  hS 
                refine hK25 _ _ _ ?_
                have hS := hS.drew
                refine CW.draw 18 (.ex 0 <| .ex 1 <| .ex 2 <| .ex 3 <| .ex 4 <| .ex 5 <| .ex 6 <| .ex 7 <| .ex 8 <| .ex 9 <| .ex 10 <| .ex 11 <| .ex 12 <| .ex 13 <| .one 14 <| .ex 15 <| .ex 16 <| .one 17 <| .done) [18, 19, 20] (Rd _ _) mixed (by kernel_rfl) rfl rfl hS.rd ?_
                refine PW.ex rfl rfl rfl rfl (Ex.fieldO 1 Try.underlying46 rfl rfl ti44 rfl) ?_
                refine PW.ex rfl rfl rfl rfl (Ex.load1 ti44 rfl rfl (by first | exact obT rfl | exact Rd.imm ‹_› | exact slT ‹_›)) ?_
                refine PW.ex rfl rfl rfl rfl (Ex.move rfl) ?_
                refine PW.ex rfl rfl rfl rfl (Ex.move rfl) ?_
                refine PW.ex rfl rfl rfl rfl (Ex.move rfl) ?_
                refine PW.ex rfl rfl rfl rfl (Ex.move rfl) ?_
                refine PW.ex rfl rfl rfl rfl (Ex.add (r := ((A + k : Nat) : Int)) rfl rfl (addN (by omega))) ?_
                refine PW.ex rfl rfl rfl rfl (Ex.fieldO 3 Try.underlying43 rfl rfl ti3 rfl) ?_
                refine PW.ex rfl rfl rfl rfl (Ex.load1 ti3 rfl rfl (by first | exact obT rfl | exact Rd.imm ‹_› | exact slT ‹_›)) ?_
                refine PW.ex rfl rfl rfl rfl (Ex.load4c ti34 rfl rfl (by first | exact obT rfl | exact Rd.imm ‹_› | exact slT ‹_›) (by first | exact obT rfl | exact Rd.imm ‹_› | exact slT ‹_›) (by first | exact obT rfl | exact Rd.imm ‹_› | exact slT ‹_›) (by first | exact obT rfl | exact Rd.imm ‹_› | exact slT ‹_›)) ?_
                refine PW.ex rfl rfl rfl rfl (Ex.indexArr (j := 1) Try.underlying125 ti3 rfl rfl rfl (by omega)) ?_
                refine PW.ex rfl rfl rfl rfl (Ex.load1 ti3 rfl rfl (by first | exact obT rfl | exact Rd.imm ‹_› | exact slT ‹_›)) ?_
                refine PW.ex rfl rfl rfl rfl (Ex.fieldO 2 Try.underlying43 rfl rfl ti3 rfl) ?_
                refine PW.ex rfl rfl rfl rfl (Ex.load1 ti3 rfl rfl (by first | exact obT rfl | exact Rd.imm ‹_› | exact slT ‹_›)) ?_
                refine PW.hv rfl rfl rfl rfl (Hv.callS hS rfl rfl rfl cb41 (cpair_c m hM z.b e.Word hwi (by omega) (by omega) _ _ _ _ _ _ μ _ hS.imm hm0 hm1 hm2)) (fun _ _ h => h.2.rd) fun v w109 ⟨hv, hS⟩ => ?_
                subst hv
                refine PW.ex rfl rfl rfl rfl (Ex.add rfl rfl (w64 (by omega) (by omega))) ?_
                refine PW.ex rfl rfl rfl rfl (Ex.buildS st66 rfl rfl rfl) ?_
                refine PW.hv rfl rfl rfl rfl (Hv.buildSl hS Try.underlying44 ti66 rfl rfl rfl rfl rfl rfl) (fun _ _ ⟨_, _, _, h⟩ => h.rd.tail) fun v w112 ⟨b112, hv, hb112, hS⟩ => ?_
                subst hv
                refine PW.nil ?_
                refine LW.hv rfl rfl rfl rfl (Hv.append (k := 3) rfl Try.underlying44 ti66 rfl hS rfl rfl rfl rfl (Rd.objAll (k := 0) rfl hS.rd) (by simp [Value.oneCell']) (by unfold maxLen; omega) (by omega)) fun v w113 ⟨ad113, c113, hv, hS⟩ => ?_
                subst hv
                dsimp only [List.set] at hS
                have hS := hS.drop 0 rfl
                dsimp only [List.eraseIdx] at hS
                refine LW.ex rfl rfl rfl rfl (Ex.fieldO 1 Try.underlying46 rfl rfl ti44 rfl) hS.rd ?_
                refine LW.hu rfl rfl rfl (Hv.storeObj (k := 3) ti44 hS rfl rfl rfl rfl (by first | assumption | (simp; done) | omega | exact Nat.zero_lt_succ _)) fun _ w_20 hS => ?_
                dsimp only [List.set] at hS
                refine LW.nil fun aa ha => hK22 _ _ _ ?_ aa ha
                refine CW.region [0, 1] rfl ?_
                refine LW.ex rfl rfl rfl rfl (Ex.add rfl rfl (by first | exact inc64 (by omega) | exact addN (by omega) | exact w64 (by omega) (by omega))) hS.rd ?_
                refine LW.ex rfl rfl rfl rfl (Ex.move rfl) hS.rd ?_
                refine LW.nil fun aa ha => ?_
                have hS := hS.drop 0 rfl
                dsimp only [List.eraseIdx] at hS
                rw [show ks2.flatMap linkL ++ [Value.int .i64 i, .int .i64 (toN (nodesL x m.Words.length p) x e : Nat), .int .i64 ((A + k : Nat) : Int), .int .i64 (e.Cost + pairC m z.b e.Word)] = (ks2 ++ [mkLink x m (nodesL x m.Words.length p) i z (A + k)]).flatMap linkL by rw [List.flatMap_append, List.flatMap_singleton]; unfold mkLink; rw [hea]; rfl] at hS
                refine ⟨_, _, ?m17, ⟨k + 1, ad113, ll2 + 1, c113, ks2 ++ [mkLink x m (nodesL x m.Words.length p) i z (A + k)], (by first | omega | (simp; done) | (simp; omega)), (by first | omega | (simp; done) | (simp; omega)), (by first | omega | (simp; done) | (simp; omega)), rfl, rfl, hS, by rw [hks2, List.append_assoc, List.range'_1_concat, List.map_append]; rfl⟩, ha.sub ⟨rfl, rfl, rfl, rfl, rfl, rfl, rfl, rfl, rfl, rfl, rfl, rfl, rfl, rfl, rfl, rfl, trivial⟩⟩
                case m17 => (rw [hq]; exact Nat.sub_lt_sub_left (Int.ofNat_lt.1 h17_0) (Nat.lt_succ_self k))
              refine CW.seq fun K26 hK26 => ?_
              refine CW.region [0, 1, 2, 3, 4] rfl ?_
              refine LW.ex rfl rfl rfl rfl (Ex.fieldO 1 Try.underlying43 rfl rfl ti3 rfl) hS.rd ?_
              refine LW.ex rfl rfl rfl rfl (Ex.load1 ti3 rfl rfl (by first | exact obT rfl | exact Rd.imm ‹_› | exact slT ‹_›)) hS.rd ?_
              refine LW.ex rfl rfl rfl rfl (Ex.fieldO 0 Try.underlying38 rfl rfl ti3 rfl) hS.rd ?_
              refine LW.ex rfl rfl rfl rfl (Ex.load1 ti3 rfl rfl (by first | exact obT rfl | exact Rd.imm ‹_› | exact slT ‹_›)) hS.rd ?_
              refine LW.ex rfl rfl rfl rfl (Ex.lss rfl rfl rfl) hS.rd ?_
              refine LW.splitB (fun h20_4 => ?_) (fun h20_4 => ?_)
              · have h20_4 := of_decide_eq_true h20_4
                refine LW.nil fun aa ha => hK26 _ _ _ ?_ aa ha
                refine CW.yes rfl ?_
                obtain ⟨j, hj, hj0, hje, hjt⟩ := hto h20_4
                have hsj := hnsm _ (List.getElem_mem hj)
                have hget : aget kv (keyN (nodesL x m.Words.length p)[j] hsj) = some (toN (nodesL x m.Words.length p) x e) := by rw [hjt]; exact hkv j hj _ hj0 rfl
                have hkey : KPair.val (keyN (nodesL x m.Words.length p)[j] hsj) = .agg #[.int .i64 e.To, .int .i64 e.Word] := by show Value.agg #[.int .i64 (nodesL x m.Words.length p)[j].a, .int .i64 (nodesL x m.Words.length p)[j].b] = _; rw [hje]
                refine CW.region [0, 1, 2, 3, 4, 5, 6, 7] rfl ?_
                refine LW.ex rfl rfl rfl rfl (Ex.move rfl) hS.rd ?_
                refine LW.ex rfl rfl rfl rfl (Ex.fieldO 1 Try.underlying43 rfl rfl ti3 rfl) hS.rd ?_
                refine LW.ex rfl rfl rfl rfl (Ex.load1 ti3 rfl rfl (by first | exact obT rfl | exact Rd.imm ‹_› | exact slT ‹_›)) hS.rd ?_
                refine LW.ex rfl rfl rfl rfl (Ex.fieldO 2 Try.underlying43 rfl rfl ti3 rfl) hS.rd ?_
                refine LW.ex rfl rfl rfl rfl (Ex.load1 ti3 rfl rfl (by first | exact obT rfl | exact Rd.imm ‹_› | exact slT ‹_›)) hS.rd ?_
                refine LW.ex rfl rfl rfl rfl (Ex.buildA ti125 ti3 rfl rfl rfl) hS.rd ?_
                refine LW.ex rfl rfl rfl rfl (Ex.lookup1_some (a := keyN (nodesL x m.Words.length p)[j] hsj) (v := toN (nodesL x m.Words.length p) x e) Try.underlying121 ti3 encNd 5 rfl rfl (by rw [hkey]; rfl) hget) hS.rd ?_
                refine LW.ex rfl rfl rfl rfl (Ex.assign rfl) hS.rd ?_
                refine LW.nil fun aa ha => ?_
                refine hJ20 _  hS  aa (ha.sub ⟨rfl, rfl, rfl, rfl, rfl, rfl, rfl, rfl, rfl, rfl, rfl, rfl, rfl, rfl, rfl, rfl, rfl, rfl, rfl, trivial⟩)
              · have h20_4 := of_decide_eq_false h20_4
                refine LW.nil fun aa ha => hK26 _ _ _ ?_ aa ha
                refine CW.no rfl ?_
                refine CW.skip fun aa ha => ?_
                have hjt : toN (nodesL x m.Words.length p) x e = (nodesL x m.Words.length p).length - 1 := by unfold toN; rw [if_neg h20_4]
                rw [← hjt] at ha
                refine hJ20 _  hS  aa (ha.sub ⟨rfl, rfl, rfl, rfl, rfl, rfl, rfl, rfl, rfl, rfl, rfl, rfl, rfl, rfl, rfl, rfl, rfl, rfl, rfl, trivial⟩)
            · have h17_0 := of_decide_eq_false h17_0
              refine LW.nil fun aa ha => hK20 _ _ _ ?_ aa ha
              refine CW.seq fun K27 hK27 => ?_
              refine CW.no rfl ?_
              refine CW.exit fun aa ha => hK13 _ _ _ ?_ aa ha
              refine CW.region [0, 1] rfl ?_
              refine LW.ex rfl rfl rfl rfl (Ex.add rfl rfl (by first | exact inc64 (by omega) | exact addN (by omega) | exact w64 (by omega) (by omega))) hS.rd ?_
              refine LW.ex rfl rfl rfl rfl (Ex.move rfl) hS.rd ?_
              refine LW.nil fun aa ha => ?_
              have hS := hS.drop 0 rfl
              dsimp only [List.eraseIdx] at hS
              refine ⟨_, _, ?m10, ⟨i + 1, adl2, ll2, cl2, ks2, ad57, c57, (by first | omega | (simp; done) | (simp; omega)), (by first | omega | (simp; done) | (simp; omega)), (by first | omega | (simp; done) | (simp; omega)), rfl, rfl, hS, by rw [linksTo_succ x m _ hi2, ← hz, hlr, ← hks, hks2, show k = B - A by omega]⟩, ha.sub ⟨rfl, rfl, rfl, rfl, rfl, rfl, rfl, rfl, rfl, rfl, trivial⟩⟩
              case m10 => omega
        · have h10_0 := of_decide_eq_false h10_0
          refine LW.nil fun aa ha => hK11 _ _ _ ?_ aa ha
          refine CW.seq fun K28 hK28 => ?_
          refine CW.no rfl ?_
          refine CW.exit fun aa ha => hK9 _ _ _ ?_ aa ha
          refine CW.seq fun K29 hK29 => ?_
          refine CW.region [0, 1, 2, 3, 4] rfl ?_
          refine LW.ex rfl rfl rfl rfl (Ex.load2c ti46 rfl rfl (by first | exact obT rfl | exact Rd.imm ‹_› | exact slT ‹_›) (by first | exact obT rfl | exact Rd.imm ‹_› | exact slT ‹_›)) hS.rd ?_
          refine LW.ex rfl rfl rfl rfl (Ex.move rfl) hS.rd ?_
          refine LW.hu rfl rfl rfl (Hv.storeN (k := 5) ti46 hS rfl rfl rfl rfl (by simp [Value.oneCell'])) fun _ w_2 hS => ?_
          dsimp only [List.set] at hS
          refine LW.ex rfl rfl rfl rfl (Ex.assign rfl) hS.rd ?_
          refine LW.ex rfl rfl rfl rfl (Ex.assign rfl) hS.rd ?_
          refine LW.nil fun aa ha => hK29 _ _ _ ?_ aa ha
          refine CW.ret fun aa ha => ?_
          have hie : i = (nodesL x m.Words.length p).length := by omega
          subst hll
          obtain ⟨bs, μ1, hmm1, hS, hφ⟩ := hS.shut 0 rfl
          dsimp only [List.eraseIdx] at hS
          obtain ⟨bs2, μ2, hmm2, hS, hφ2⟩ := hS.shut 1 rfl
          dsimp only [List.eraseIdx] at hS
          refine ret3 ha Try.results33 ⟨b6, _, _, _, _, rfl, ti46, rfl, (fun j u hu => Rd.objAll (k := 3) rfl hS.rd j u hu), rfl⟩ rfl rfl ?_
          have h1 : Sl μ2 adl cl ks := (Sl.of_own hφ (linkReps _ ks) rfl).mono hmm2
          have hlast : ((nodesL x m.Words.length p).take i).map (·.b) = (nodesL x m.Words.length p).map (·.b) := by rw [hie, List.take_length]
          have h2 : Sl μ2 adt ct ((nodesL x m.Words.length p).map (·.b)) := by
            refine Sl.of_own hφ2 ?_ (by rw [List.length_map, hie])
            have := RepL.ints μ2 ((nodesL x m.Words.length p).map (·.b))
            rw [hie, List.take_length]
            rw [List.map_map] at this
            exact this
          rw [hbR]
          refine ⟨_, μ2, rfl, hS.below, hmm1.trans hmm2, hS.imm, adl, cl, adt, ct, ?_, ?_, h2⟩
          · unfold graphR; simp only; rw [hks, hie, List.length_map]
          · unfold graphR; simp only; rw [← hie, ← hks]; exact h1
    · skip
      refine LW.ex rfl rfl rfl rfl (Ex.not rfl rfl) hS.rd ?_
      refine LW.ex rfl rfl rfl rfl (Ex.assign rfl) hS.rd ?_
      refine LW.nil fun aa ha => hK4 _ _ _ ?_ aa ha
      refine CW.yes rfl ?_
      refine CW.seq fun K30 hK30 => ?_
      refine CW.region [0, 1, 2, 3] rfl ?_
      refine LW.ex rfl rfl rfl rfl (Ex.buildS st46 rfl rfl rfl) hS.rd ?_
      refine LW.hu rfl rfl rfl (Hv.storeN (k := 0) ti46 hS rfl rfl rfl rfl (by simp [Value.oneCell'])) fun _ w_1 hS => ?_
      dsimp only [List.set] at hS
      refine LW.ex rfl rfl rfl rfl (Ex.assign rfl) hS.rd ?_
      refine LW.ex rfl rfl rfl rfl (Ex.assign rfl) hS.rd ?_
      refine LW.nil fun aa ha => hK30 _ _ _ ?_ aa ha
      refine CW.ret fun aa ha => ?_
      refine ret3 ha Try.results33 ⟨b6, _, _, _, _, rfl, ti46, rfl, (fun j u hu => Rd.objAll (k := 0) rfl hS.rd j u hu), rfl⟩ rfl rfl ?_
      have e : buildR x m p = ⟨⟨0, []⟩, [], 1⟩ := by unfold buildR; rw [if_pos h1_1, if_neg (by rw [h3_3]; decide)]
      rw [e]; exact ⟨_, μ, rfl, hS.below, Mem.ext.refl _ _, hS.imm, IsBuilt.zero μ 1⟩
  · skip
    refine LW.ex rfl rfl rfl rfl (Ex.not rfl rfl) hS.rd ?_
    refine LW.ex rfl rfl rfl rfl (Ex.assign rfl) hS.rd ?_
    refine LW.nil fun aa ha => hK3 _ _ _ ?_ aa ha
    refine CW.yes rfl ?_
    refine CW.seq fun K31 hK31 => ?_
    refine CW.region [0, 1, 2, 3] rfl ?_
    refine LW.ex rfl rfl rfl rfl (Ex.buildS st46 rfl rfl rfl) hS.rd ?_
    refine LW.hu rfl rfl rfl (Hv.storeN (k := 0) ti46 hS rfl rfl rfl rfl (by simp [Value.oneCell'])) fun _ w_1 hS => ?_
    dsimp only [List.set] at hS
    refine LW.ex rfl rfl rfl rfl (Ex.assign rfl) hS.rd ?_
    refine LW.ex rfl rfl rfl rfl (Ex.assign rfl) hS.rd ?_
    refine LW.nil fun aa ha => hK31 _ _ _ ?_ aa ha
    refine CW.ret fun aa ha => ?_
    refine ret3 ha Try.results33 ⟨b6, _, _, _, _, rfl, ti46, rfl, (fun j u hu => Rd.objAll (k := 0) rfl hS.rd j u hu), rfl⟩ rfl rfl ?_
    have e : buildR x m p = ⟨⟨0, []⟩, [], 110⟩ := by unfold buildR; rw [if_neg (by rw [h1_1]; decide)]
    rw [e]; exact ⟨_, μ, rfl, hS.below, Mem.ext.refl _ _, hS.imm, IsBuilt.zero μ 110⟩
end Go.Proofs.Ytgnpjhellmfhoaa

