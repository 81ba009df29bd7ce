/-
  Context: the walk of ContextMatchesReference.
-/
import Derived.Test.YtgnpjhellmfhoaaCxZ
namespace Go.Proofs.Ytgnpjhellmfhoaa
open Go.RowKit Sy

theorem linksTo_label {x : Lat} {m : Mdl} {l : List I2} {n : Nat} : ∀ k ∈ linksTo x m l n, 0 ≤ k.Label ∧ k.Label < x.Edges.length := by
  intro k hk
  unfold linksTo linksOf at hk
  rw [List.mem_flatMap] at hk
  obtain ⟨p, _, hk⟩ := hk
  obtain ⟨i, hi, rfl⟩ := List.mem_map.1 hk
  have := List.mem_range.1 (List.mem_filter.1 hi).1
  unfold mkLink; simp only; omega
theorem build_label {x : Lat} {m : Mdl} {p : Int} : ∀ k ∈ (buildR x m p).G.Links, 0 ≤ k.Label ∧ k.Label < x.Edges.length := by
  unfold buildR
  split
  · split
    · exact linksTo_label
    · intro k hk; cases hk
  · intro k hk; cases hk
theorem words_small (y : Raw) : ∀ s ∈ (madeM y).Words, s.size ≤ 9223372036854775807 := fun s hs => by
  have := ((madeM_words y).2.1 s hs).2; omega
/-- The lattice, its last edge turned or not. -/
def Turned (x : Lat) (E : List Edge) : Prop := E.length = x.Edges.length ∧ ∀ e ∈ E, -1099511627776 ≤ e.To ∧ e.To ≤ 1099511627776
theorem turned_self {x : Lat} (hx : okX x = true) : Turned x x.Edges := ⟨rfl, fun e he => by
  obtain ⟨h1, h2, _⟩ := okX_edges hx
  have := h2 e he; omega⟩
theorem turned_set {x : Lat} (hx : okX x = true) (i : Nat) (n : Int) (hi : i < x.Edges.length) : Turned x (x.Edges.set i ⟨x.Edges[i].From, x.Edges[i].To, n, x.Edges[i].Cost⟩) := by
  refine ⟨by simp, fun e he => ?_⟩
  obtain ⟨_, h2⟩ := turned_self hx
  rcases List.mem_or_eq_of_mem_set he with h | h
  · exact h2 e h
  · subst h; have := h2 x.Edges[i] (List.getElem_mem hi); exact this
set_option maxRecDepth 100000 in
set_option maxHeartbeats 4000000 in
theorem law1_c (l : List B4) (y : Raw) (q : B4) (adl r0 r1 r2 : Option Addr) (cl d0 d1 d2 : Nat) (μ : Mem) (w : World) (hμ : Imm μ w) (sl : Sl μ adl cl l) (h0 : Sl μ r0 d0 y.Words) (h1 : Sl μ r1 d1 y.Counts) (h2 : Sl μ r2 d2 y.Uses) :
    Calls Try.prog 3 #[.slice adl l.length cl, .agg #[.slice r0 y.Words.length d0, .slice r1 y.Counts.length d1, .slice r2 y.Uses.length d2, .int .u8 y.Back.toNat], b4V q] w (RetS w (.bool true)) := by
  obtain ⟨m, hm⟩ : ∃ m, m = madeM y := ⟨_, rfl⟩
  have hmok : MdlOk m := by rw [hm]; exact madeM_ok y
  have hmw : ∀ s ∈ m.Words, s.size ≤ 9223372036854775807 := by rw [hm]; exact words_small y
  have hmN := hmok.nSmall
  obtain ⟨hW1, hW2, hW3, hW4⟩ := madeM_words y
  rw [← hm] at hW1 hW2 hW3 hW4
  obtain ⟨x, hx⟩ : ∃ x, x = madeX l q.a m.Words.length := ⟨_, rfl⟩
  obtain ⟨x1, x2, x3, x4, x5⟩ := madeX_ok l q.a (n := m.Words.length) (by omega) (by omega)
  rw [← hx] at x1 x2 x3 x4 x5
  have hqa := q.a.toNat_lt
  have hqb := q.b.toNat_lt
  have hqc := q.c.toNat_lt
  have hqd := q.d.toNat_lt
  obtain ⟨W, hWy⟩ : ∃ W, W = wayR x [q.c, q.d, q.a] := ⟨_, rfl⟩
  have hwk := way_ok x1 x5 [q.c, q.d, q.a] 40 0 0 (by omega) (by omega) (by omega)
  rw [show wayGo x [q.c, q.d, q.a] 40 0 0 = W from hWy.symm] at hwk
  obtain ⟨hwk1, hwk2, hwk3⟩ := hwk
  obtain ⟨pv, hpv⟩ : ∃ pv : Int, pv = ((q.b.toNat % 12 : Nat) : Int) - 2 := ⟨_, rfl⟩
  have hS := St.start w μ hμ
  refine calls_start 188 [.slice adl l.length cl, .agg #[.slice r0 y.Words.length d0, .slice r1 y.Counts.length d1, .slice r2 y.Uses.length d2, .int .u8 y.Back.toNat], b4V q] Try.func3 rfl Try.ntmps3 rfl rfl ?_
  refine CW.seq fun K1 hK1 => ?_
  refine CW.region [0, 1, 2] rfl ?_
  refine LW.hv rfl rfl rfl rfl (Hv.boxS hS rfl rfl) fun v w4 ⟨b4, hv, hb4, hS⟩ => ?_
  subst hv
  refine LW.hv rfl rfl rfl rfl (Hv.boxS hS rfl rfl) fun v w5 ⟨b5, hv, hb5, hS⟩ => ?_
  subst hv
  refine LW.ex rfl rfl rfl rfl (Ex.assign rfl) hS.rd ?_
  refine LW.nil fun aa ha => hK1 _ _ _ ?_ aa ha
  refine CW.seq fun K2 hK2 => ?_
  refine CW.region [0, 1] rfl ?_
  refine LW.hv rfl rfl rfl rfl (Hv.callS hS rfl rfl rfl cb9 (sanity_c _)) fun v w26 ⟨hv, hS⟩ => ?_
  subst hv
  refine LW.ex rfl rfl rfl rfl (Ex.assign rfl) hS.rd ?_
  refine LW.nil fun aa ha => hK2 _ _ _ ?_ aa ha
  refine CW.seq fun K3 hK3 => ?_
  refine CW.region [0, 1, 2, 3] rfl ?_
  refine LW.ex rfl rfl rfl rfl (Ex.load4c ti27 rfl rfl (by first | exact obT rfl | exact Rd.imm ‹_› | exact slT ‹_›) (by first | exact obT rfl | exact Rd.imm ‹_› | exact slT ‹_›) (by first | exact obT rfl | exact Rd.imm ‹_› | exact slT ‹_›) (by first | exact obT rfl | exact Rd.imm ‹_› | exact slT ‹_›)) hS.rd ?_
  refine LW.hv rfl rfl rfl rfl (Hv.callV hS rfl rfl rfl cb10 (madeM_c y _ _ _ _ _ _ μ _ hS.imm h0 h1 h2)) fun v w28 ⟨μ28, hv28, hm28, hS⟩ => ?_
  obtain ⟨a0, c0, a1, c1, a2, c2, hv, hm0, hm1, hm2⟩ := hv28
  subst hv
  rw [← hm] at hm0 hm1 hm2 ⊢
  have sl := sl.mono hm28
  refine LW.hv rfl rfl rfl rfl (Hv.alloc ti34 hS) fun v w8 ⟨b8, hv, hb8, hS⟩ => ?_
  subst hv
  refine LW.hu rfl rfl rfl (Hv.storeN (k := 0) ti34 hS rfl rfl rfl rfl (by simp [Value.oneCell'])) fun _ w_3 hS => ?_
  dsimp only [List.set] at hS
  refine LW.nil fun aa ha => hK3 _ _ _ ?_ aa ha
  refine CW.seq fun K4 hK4 => ?_
  have hJr3 : ∀ (wj : World) (b9 : Nat) (ax : Option Addr) (cx : Nat), St w wj μ28 [Own.sl ax x.Edges.length cx 43 4 (x.Edges.flatMap edgeL), Own.obj b9 [.int .i64 x.N, .slice ax x.Edges.length cx] 38, Own.obj b8 [.slice a0 m.Words.length c0, .slice a1 m.Counts.length c1, .slice a2 m.Pairs.length c2, .int .i64 m.Back] 34, Own.obj b5 (b4L q) 28, Own.obj b4 [.slice r0 y.Words.length d0, .slice r1 y.Counts.length d1, .slice r2 y.Uses.length d2, .int .u8 y.Back.toNat] 27] → KW K4 188 [(5, .pointer (some ⟨b5, 0, none⟩)), (7, .bool true), (8, .pointer (some ⟨b8, 0, none⟩)), (9, .pointer (some ⟨b9, 0, none⟩)), (10, .int .i64 pv)] wj := by
    intro wj b9 ax cx hS 
    refine hK4 _ _ _ ?_
    refine CW.seq fun K5 hK5 => ?_
    refine CW.region [0, 1, 2, 3, 4, 5, 6, 7, 8, 9, 10, 11, 12, 13] rfl ?_
    refine LW.ex rfl rfl rfl rfl (Ex.load2c ti38 rfl rfl (by first | exact obT rfl | exact Rd.imm ‹_› | exact slT ‹_›) (by first | exact obT rfl | exact Rd.imm ‹_› | exact slT ‹_›)) hS.rd ?_
    refine LW.ex rfl rfl rfl rfl (Ex.indexArr (j := 2) Try.underlying28 ti5 rfl rfl rfl (by omega)) hS.rd ?_
    refine LW.ex rfl rfl rfl rfl (Ex.load1 ti5 rfl rfl (by first | exact obT rfl | exact Rd.imm ‹_› | exact slT ‹_›)) hS.rd ?_
    refine LW.ex rfl rfl rfl rfl (Ex.indexArr (j := 3) Try.underlying28 ti5 rfl rfl rfl (by omega)) hS.rd ?_
    refine LW.ex rfl rfl rfl rfl (Ex.load1 ti5 rfl rfl (by first | exact obT rfl | exact Rd.imm ‹_› | exact slT ‹_›)) hS.rd ?_
    refine LW.ex rfl rfl rfl rfl (Ex.indexArr (j := 0) Try.underlying28 ti5 rfl rfl rfl (by omega)) hS.rd ?_
    refine LW.ex rfl rfl rfl rfl (Ex.load1 ti5 rfl rfl (by first | exact obT rfl | exact Rd.imm ‹_› | exact slT ‹_›)) hS.rd ?_
    refine LW.hv rfl rfl rfl rfl (Hv.buildSl hS Try.underlying24 ti5 rfl rfl rfl rfl rfl rfl) fun v w49 ⟨b49, hv, hb49, hS⟩ => ?_
    subst hv
    refine LW.hv rfl rfl rfl rfl (Hv.callM rfl rfl rfl cb12 (way_m x [q.c, q.d, q.a] hS rfl (by omega) (by simp))) fun v w50 ⟨adW, cW, hv, hS⟩ => ?_
    subst hv
    rw [← hWy] at hS ⊢
    refine LW.ex rfl rfl rfl rfl (Ex.move rfl) hS.rd ?_
    refine LW.ex rfl rfl rfl rfl (Ex.extract rfl rfl) hS.rd ?_
    refine LW.ex rfl rfl rfl rfl (Ex.extract rfl rfl) hS.rd ?_
    refine LW.splitB (fun h4_11 => ?_) (fun h4_11 => ?_)
    · skip
      refine LW.ex rfl rfl rfl rfl (Ex.assign rfl) hS.rd ?_
      refine LW.ex rfl rfl rfl rfl (Ex.assign rfl) hS.rd ?_
      refine LW.nil fun aa ha => hK5 _ _ _ ?_ aa ha
      refine CW.seq fun K6 hK6 => ?_
      obtain ⟨bs, μw, hmw1, hS, hφ⟩ := hS.shut 0 rfl
      dsimp only [List.eraseIdx] at hS
      have hsW : Sl μw adW cW (W.1.map fun (k : Nat) => (k : Int)) := Sl.of_own hφ (RepL.nats _ _) (by rw [List.length_map])
      have hS := hS.drop 0 rfl
      dsimp only [List.eraseIdx] at hS
      have hm0 := hm0.mono hmw1
      have hm1 := hm1.mono hmw1
      have hm2 := hm2.mono hmw1
      obtain ⟨es, hes⟩ : ∃ es : List Int, es = W.1.map fun (k : Nat) => (k : Int) := ⟨_, rfl⟩
      have hel : W.1.length = es.length := by rw [hes, List.length_map]
      rw [← hes] at hsW
      rw [hel]
      have hJ5 : ∀ (wj : World) (E : List Edge), St w wj μw [Own.sl ax x.Edges.length cx 43 4 (E.flatMap edgeL), Own.obj b9 [.int .i64 x.N, .slice ax x.Edges.length cx] 38, Own.obj b8 [.slice a0 m.Words.length c0, .slice a1 m.Counts.length c1, .slice a2 m.Pairs.length c2, .int .i64 m.Back] 34, Own.obj b5 (b4L q) 28, Own.obj b4 [.slice r0 y.Words.length d0, .slice r1 y.Counts.length d1, .slice r2 y.Uses.length d2, .int .u8 y.Back.toNat] 27] → (Turned x E) → KW K6 188 [(5, .pointer (some ⟨b5, 0, none⟩)), (7, .bool true), (8, .pointer (some ⟨b8, 0, none⟩)), (9, .pointer (some ⟨b9, 0, none⟩)), (10, .int .i64 pv), (11, .slice adW es.length cW), (12, .bool true)] wj := by
        intro wj E hS hT
        refine hK6 _ _ _ ?_
        obtain ⟨hT1, hT2⟩ := hT
        obtain ⟨bs, μ2, hm22, hS, hφ⟩ := hS.shut 0 rfl
        dsimp only [List.eraseIdx] at hS
        have hx2 : Sl μ2 ax cx E := Sl.of_own hφ (edgeReps _ _) hT1.symm
        rw [← hT1] at hS
        have hsW := hsW.mono hm22
        have hm0 := hm0.mono hm22
        have hm1 := hm1.mono hm22
        have hm2 := hm2.mono hm22
        obtain ⟨X, hX⟩ : ∃ X : Lat, X = ⟨x.N, E⟩ := ⟨_, rfl⟩
        have hXE : E = X.Edges := by rw [hX]
        have hXN : x.N = X.N := by rw [hX]
        rw [hXE] at hx2 hS hT1 hT2
        rw [hXN] at hS
        refine CW.seq fun K7 hK7 => ?_
        have hJr7 : ∀ (wj : World) (b13 : Nat) (b14 : Nat) (p0 p1 p2 p3 : Option Addr) (q0 q1 q2 q3 : Nat) (μ5 : Mem), St w wj μ5 [Own.obj b14 [.int .i64 (buildR X m pv).G.N, .slice p2 (buildR X m pv).G.Links.length q2, .slice p3 (buildR X m pv).Last.length q3, .int .i64 (buildR X m pv).E] 49, Own.obj b13 [.int .i64 (buildR X m pv).G.N, .slice p0 (buildR X m pv).G.Links.length q0, .slice p1 (buildR X m pv).Last.length q1, .int .i64 (buildR X m pv).E] 49, Own.obj b9 [.int .i64 X.N, .slice ax X.Edges.length cx] 38, Own.obj b8 [.slice a0 m.Words.length c0, .slice a1 m.Counts.length c1, .slice a2 m.Pairs.length c2, .int .i64 m.Back] 34, Own.obj b5 (b4L q) 28, Own.obj b4 [.slice r0 y.Words.length d0, .slice r1 y.Counts.length d1, .slice r2 y.Uses.length d2, .int .u8 y.Back.toNat] 27] → (Sl μ5 ax cx X.Edges) → (Sl μ5 a0 c0 m.Words) → (Sl μ5 a1 c1 m.Counts) → (Sl μ5 a2 c2 m.Pairs) → (Sl μ5 adW cW es) → (Sl μ5 p0 q0 (buildR X m pv).G.Links) → (Sl μ5 p1 q1 (buildR X m pv).Last) → (Sl μ5 p2 q2 (buildR X m pv).G.Links) → (Sl μ5 p3 q3 (buildR X m pv).Last) → KW K7 188 [(5, .pointer (some ⟨b5, 0, none⟩)), (7, .bool true), (8, .pointer (some ⟨b8, 0, none⟩)), (9, .pointer (some ⟨b9, 0, none⟩)), (10, .int .i64 pv), (11, .slice adW es.length cW), (12, .bool true), (13, .pointer (some ⟨b13, 0, none⟩)), (14, .pointer (some ⟨b14, 0, none⟩))] wj := by
          intro wj b13 b14 p0 p1 p2 p3 q0 q1 q2 q3 μ5 hS hx5 hm05 hm15 hm25 hsW5 hs0 hs1 hs2 hs3
          refine hK7 _ _ _ ?_
          refine CW.seq fun K8 hK8 => ?_
          have hesl : es.length ≤ 40 := by rw [← hel]; exact hwk3
          obtain ⟨B, hB⟩ : ∃ B, B = buildR X m pv := ⟨_, rfl⟩
          have hBl : ∀ k ∈ B.G.Links, 0 ≤ k.Label ∧ k.Label < X.Edges.length := by rw [hB]; exact build_label
          rw [← hB] at hS hs0 hs1 hs2 hs3
          refine CW.region [0, 1, 2, 3, 4, 5, 6, 7, 8, 9] rfl ?_
          refine LW.ex rfl rfl rfl rfl (Ex.load2c ti38 rfl rfl (by first | exact obT rfl | exact Rd.imm ‹_› | exact slT ‹_›) (by first | exact obT rfl | exact Rd.imm ‹_› | exact slT ‹_›)) hS.rd ?_
          refine LW.ex rfl rfl rfl rfl (Ex.load4c ti34 rfl rfl (by first | exact obT rfl | exact Rd.imm ‹_› | exact slT ‹_›) (by first | exact obT rfl | exact Rd.imm ‹_› | exact slT ‹_›) (by first | exact obT rfl | exact Rd.imm ‹_› | exact slT ‹_›) (by first | exact obT rfl | exact Rd.imm ‹_› | exact slT ‹_›)) hS.rd ?_
          refine LW.ex rfl rfl rfl rfl (Ex.move rfl) hS.rd ?_
          refine LW.ex rfl rfl rfl rfl (Ex.move rfl) hS.rd ?_
          refine LW.hv rfl rfl rfl rfl (Hv.callS hS rfl rfl rfl cb15 (ccost_c X m pv es hmw hT2 (by omega) _ _ _ _ _ _ _ _ _ _ μ5 _ hS.imm hx5 hm05 hm15 hm25 hsW5)) fun v w87 ⟨hv, hS⟩ => ?_
          subst hv
          refine LW.ex rfl rfl rfl rfl (Ex.move rfl) hS.rd ?_
          refine LW.ex rfl rfl rfl rfl (Ex.extract rfl rfl) hS.rd ?_
          refine LW.ex rfl rfl rfl rfl (Ex.extract rfl rfl) hS.rd ?_
          refine LW.ex rfl rfl rfl rfl (Ex.assign rfl) hS.rd ?_
          refine LW.ex rfl rfl rfl rfl (Ex.assign rfl) hS.rd ?_
          refine LW.nil fun aa ha => hK8 _ _ _ ?_ aa ha
          refine CW.seq fun K9 hK9 => ?_
          refine CW.region [0, 1, 2, 3, 4, 5, 6, 7, 8, 9, 10] rfl ?_
          refine LW.ex rfl rfl rfl rfl (Ex.load2c ti38 rfl rfl (by first | exact obT rfl | exact Rd.imm ‹_› | exact slT ‹_›) (by first | exact obT rfl | exact Rd.imm ‹_› | exact slT ‹_›)) hS.rd ?_
          refine LW.ex rfl rfl rfl rfl (Ex.load4c ti34 rfl rfl (by first | exact obT rfl | exact Rd.imm ‹_› | exact slT ‹_›) (by first | exact obT rfl | exact Rd.imm ‹_› | exact slT ‹_›) (by first | exact obT rfl | exact Rd.imm ‹_› | exact slT ‹_›) (by first | exact obT rfl | exact Rd.imm ‹_› | exact slT ‹_›)) hS.rd ?_
          refine LW.ex rfl rfl rfl rfl (Ex.move rfl) hS.rd ?_
          refine LW.ex rfl rfl rfl rfl (Ex.buildS st55 rfl rfl rfl) hS.rd ?_
          refine LW.ex rfl rfl rfl rfl (Ex.move rfl) hS.rd ?_
          refine LW.hv rfl rfl rfl rfl (Hv.callS hS rfl rfl rfl cb16 (rcost_c X m pv es hmw hmN (by omega) (by omega) _ _ _ _ _ _ _ _ _ _ μ5 _ hS.imm hx5 hm05 hm15 hm25 hsW5)) fun v w96 ⟨hv, hS⟩ => ?_
          subst hv
          refine LW.ex rfl rfl rfl rfl (Ex.move rfl) hS.rd ?_
          refine LW.ex rfl rfl rfl rfl (Ex.extract rfl rfl) hS.rd ?_
          refine LW.ex rfl rfl rfl rfl (Ex.extract rfl rfl) hS.rd ?_
          refine LW.ex rfl rfl rfl rfl (Ex.assign rfl) hS.rd ?_
          refine LW.ex rfl rfl rfl rfl (Ex.assign rfl) hS.rd ?_
          refine LW.nil fun aa ha => hK9 _ _ _ ?_ aa ha
          refine CW.seq fun K10 hK10 => ?_
          refine CW.seq fun K11 hK11 => ?_
          refine CW.region [0, 1, 2, 3, 4, 5, 6, 7, 8, 9, 10, 11, 12, 13] rfl ?_
          refine LW.ex rfl rfl rfl rfl (Ex.load4c ti49 rfl rfl (by first | exact obT rfl | exact Rd.imm ‹_› | exact slT ‹_›) (by first | exact obT rfl | exact Rd.imm ‹_› | exact slT ‹_›) (by first | exact obT rfl | exact Rd.imm ‹_› | exact slT ‹_›) (by first | exact obT rfl | exact Rd.imm ‹_› | exact slT ‹_›)) hS.rd ?_
          refine LW.ex rfl rfl rfl rfl (Ex.load4c ti49 rfl rfl (by first | exact obT rfl | exact Rd.imm ‹_› | exact slT ‹_›) (by first | exact obT rfl | exact Rd.imm ‹_› | exact slT ‹_›) (by first | exact obT rfl | exact Rd.imm ‹_› | exact slT ‹_›) (by first | exact obT rfl | exact Rd.imm ‹_› | exact slT ‹_›)) hS.rd ?_
          refine LW.hv rfl rfl rfl rfl (Hv.callS hS rfl rfl rfl cb17 (sameB_c B B _ _ _ _ _ _ _ _ μ5 _ hS.imm hs0 hs1 hs2 hs3)) fun v w101 ⟨hv, hS⟩ => ?_
          subst hv
          refine LW.splitB (fun h10_2 => ?_) (fun h10_2 => ?_)
          · skip
            refine LW.ex rfl rfl rfl rfl (Ex.not rfl rfl) hS.rd ?_
            refine LW.ex rfl rfl rfl rfl (Ex.move rfl) hS.rd ?_
            refine LW.ex rfl rfl rfl rfl (Ex.move rfl) hS.rd ?_
            refine LW.ex rfl rfl rfl rfl (Ex.move rfl) hS.rd ?_
            refine LW.ex rfl rfl rfl rfl (Ex.neq rfl rfl rfl) hS.rd ?_
            refine LW.splitB (fun h10_7 => ?_) (fun h10_7 => ?_)
            · have h10_7 := of_decide_eq_true h10_7
              exact absurd rfl h10_7
            · have h10_7 := of_decide_eq_false h10_7
              refine LW.ex rfl rfl rfl rfl (by first | exact Ex.pick_yes rfl rfl | exact Ex.pick_no rfl rfl) hS.rd ?_
              refine LW.ex rfl rfl rfl rfl (Ex.move rfl) hS.rd ?_
              refine LW.ex rfl rfl rfl rfl (Ex.move rfl) hS.rd ?_
              refine LW.ex rfl rfl rfl rfl (Ex.move rfl) hS.rd ?_
              refine LW.ex rfl rfl rfl rfl (Ex.neqB Try.underlying4 rfl rfl rfl) hS.rd ?_
              refine LW.splitB (fun h10_12 => ?_) (fun h10_12 => ?_)
              · simp at h10_12
              · skip
                refine LW.ex rfl rfl rfl rfl (by first | exact Ex.pick_yes rfl rfl | exact Ex.pick_no rfl rfl) hS.rd ?_
                refine LW.nil fun aa ha => hK11 _ _ _ ?_ aa ha
                refine CW.no rfl ?_
                refine CW.skip fun aa ha => hK10 _ _ _ ?_ aa ha
                refine CW.seq fun K12 hK12 => ?_
                refine CW.region [0, 1, 2, 3, 4, 5] rfl ?_
                refine LW.ex rfl rfl rfl rfl (Ex.move rfl) hS.rd ?_
                refine LW.ex rfl rfl rfl rfl (Ex.move rfl) hS.rd ?_
                refine LW.ex rfl rfl rfl rfl (Ex.lenSl rfl Try.underlying31 rfl) hS.rd ?_
                refine LW.ex rfl rfl rfl rfl (Ex.quo (r := ((es.length / 2 : Nat) : Int)) rfl rfl (by omega) (tdivW (a := es.length) (b := 2) rfl rfl rfl (by omega))) hS.rd ?_
                refine LW.ex rfl rfl rfl rfl (Ex.sliceTo Try.underlying31 ti3 rfl rfl rfl (by have := hsW5.1; omega)) hS.rd ?_
                refine LW.ex rfl rfl rfl rfl (Ex.assign rfl) hS.rd ?_
                refine LW.nil fun aa ha => hK12 _ _ _ ?_ aa ha
                refine CW.seq fun K13 hK13 => ?_
                obtain ⟨ys, hyl, hys⟩ : ∃ ys : List Int, es.length / 2 = ys.length ∧ Sl μ5 adW cW ys := ⟨es.take (es.length / 2), by rw [List.length_take]; omega, hsW5.take _⟩
                rw [hyl]
                refine CW.region [0, 1, 2, 3, 4, 5, 6, 7, 8, 9] rfl ?_
                refine LW.ex rfl rfl rfl rfl (Ex.load2c ti38 rfl rfl (by first | exact obT rfl | exact Rd.imm ‹_› | exact slT ‹_›) (by first | exact obT rfl | exact Rd.imm ‹_› | exact slT ‹_›)) hS.rd ?_
                refine LW.ex rfl rfl rfl rfl (Ex.load4c ti34 rfl rfl (by first | exact obT rfl | exact Rd.imm ‹_› | exact slT ‹_›) (by first | exact obT rfl | exact Rd.imm ‹_› | exact slT ‹_›) (by first | exact obT rfl | exact Rd.imm ‹_› | exact slT ‹_›) (by first | exact obT rfl | exact Rd.imm ‹_› | exact slT ‹_›)) hS.rd ?_
                refine LW.ex rfl rfl rfl rfl (Ex.move rfl) hS.rd ?_
                refine LW.ex rfl rfl rfl rfl (Ex.move rfl) hS.rd ?_
                refine LW.hv rfl rfl rfl rfl (Hv.callS hS rfl rfl rfl cb15 (ccost_c X m pv ys hmw hT2 (by omega) _ _ _ _ _ _ _ _ _ _ μ5 _ hS.imm hx5 hm05 hm15 hm25 hys)) fun v w123 ⟨hv, hS⟩ => ?_
                subst hv
                refine LW.ex rfl rfl rfl rfl (Ex.move rfl) hS.rd ?_
                refine LW.ex rfl rfl rfl rfl (Ex.extract rfl rfl) hS.rd ?_
                refine LW.ex rfl rfl rfl rfl (Ex.extract rfl rfl) hS.rd ?_
                refine LW.ex rfl rfl rfl rfl (Ex.assign rfl) hS.rd ?_
                refine LW.ex rfl rfl rfl rfl (Ex.assign rfl) hS.rd ?_
                refine LW.nil fun aa ha => hK13 _ _ _ ?_ aa ha
                refine CW.seq fun K14 hK14 => ?_
                refine CW.region [0, 1, 2, 3, 4, 5, 6, 7, 8, 9, 10] rfl ?_
                refine LW.ex rfl rfl rfl rfl (Ex.load2c ti38 rfl rfl (by first | exact obT rfl | exact Rd.imm ‹_› | exact slT ‹_›) (by first | exact obT rfl | exact Rd.imm ‹_› | exact slT ‹_›)) hS.rd ?_
                refine LW.ex rfl rfl rfl rfl (Ex.load4c ti34 rfl rfl (by first | exact obT rfl | exact Rd.imm ‹_› | exact slT ‹_›) (by first | exact obT rfl | exact Rd.imm ‹_› | exact slT ‹_›) (by first | exact obT rfl | exact Rd.imm ‹_› | exact slT ‹_›) (by first | exact obT rfl | exact Rd.imm ‹_› | exact slT ‹_›)) hS.rd ?_
                refine LW.ex rfl rfl rfl rfl (Ex.move rfl) hS.rd ?_
                refine LW.ex rfl rfl rfl rfl (Ex.buildS st55 rfl rfl rfl) hS.rd ?_
                refine LW.ex rfl rfl rfl rfl (Ex.move rfl) hS.rd ?_
                refine LW.hv rfl rfl rfl rfl (Hv.callS hS rfl rfl rfl cb16 (rcost_c X m pv ys hmw hmN (by omega) (by omega) _ _ _ _ _ _ _ _ _ _ μ5 _ hS.imm hx5 hm05 hm15 hm25 hys)) fun v w132 ⟨hv, hS⟩ => ?_
                subst hv
                refine LW.ex rfl rfl rfl rfl (Ex.move rfl) hS.rd ?_
                refine LW.ex rfl rfl rfl rfl (Ex.extract rfl rfl) hS.rd ?_
                refine LW.ex rfl rfl rfl rfl (Ex.extract rfl rfl) hS.rd ?_
                refine LW.ex rfl rfl rfl rfl (Ex.assign rfl) hS.rd ?_
                refine LW.ex rfl rfl rfl rfl (Ex.assign rfl) hS.rd ?_
                refine LW.nil fun aa ha => hK14 _ _ _ ?_ aa ha
                refine CW.seq fun K15 hK15 => ?_
                refine CW.seq fun K16 hK16 => ?_
                refine CW.region [0, 1, 2, 3, 4, 5, 6, 7] rfl ?_
                refine LW.ex rfl rfl rfl rfl (Ex.move rfl) hS.rd ?_
                refine LW.ex rfl rfl rfl rfl (Ex.move rfl) hS.rd ?_
                refine LW.ex rfl rfl rfl rfl (Ex.neq rfl rfl rfl) hS.rd ?_
                refine LW.splitB (fun h15_2 => ?_) (fun h15_2 => ?_)
                · have h15_2 := of_decide_eq_true h15_2
                  exact absurd rfl h15_2
                · have h15_2 := of_decide_eq_false h15_2
                  refine LW.ex rfl rfl rfl rfl (Ex.move rfl) hS.rd ?_
                  refine LW.ex rfl rfl rfl rfl (Ex.move rfl) hS.rd ?_
                  refine LW.ex rfl rfl rfl rfl (Ex.move rfl) hS.rd ?_
                  refine LW.ex rfl rfl rfl rfl (Ex.neqB Try.underlying4 rfl rfl rfl) hS.rd ?_
                  refine LW.splitB (fun h15_6 => ?_) (fun h15_6 => ?_)
                  · simp at h15_6
                  · skip
                    refine LW.ex rfl rfl rfl rfl (by first | exact Ex.pick_yes rfl rfl | exact Ex.pick_no rfl rfl) hS.rd ?_
                    refine LW.nil fun aa ha => hK16 _ _ _ ?_ aa ha
                    refine CW.no rfl ?_
                    refine CW.skip fun aa ha => hK15 _ _ _ ?_ aa ha
                    refine CW.seq fun K17 hK17 => ?_
                    refine CW.seq fun K18 hK18 => ?_
                    refine CW.region [0, 1, 2, 3, 4, 5, 6, 7, 8, 9, 10, 11, 12, 13] rfl ?_
                    refine LW.ex rfl rfl rfl rfl (Ex.fieldO 3 Try.underlying49 rfl rfl ti47 rfl) hS.rd ?_
                    refine LW.ex rfl rfl rfl rfl (Ex.load1 ti47 rfl rfl (by first | exact obT rfl | exact Rd.imm ‹_› | exact slT ‹_›)) hS.rd ?_
                    refine LW.ex rfl rfl rfl rfl (Ex.neq rfl rfl rfl) hS.rd ?_
                    refine LW.splitB (fun h17_2 => ?_) (fun h17_2 => ?_)
                    · have h17_2 := of_decide_eq_true h17_2
                      refine LW.ex rfl rfl rfl rfl (Ex.move rfl) hS.rd ?_
                      refine LW.skip rfl rfl rfl rfl ?_
                      refine LW.skip rfl rfl rfl rfl ?_
                      refine LW.ex rfl rfl rfl rfl (by first | exact Ex.pick_yes rfl rfl | exact Ex.pick_no rfl rfl) hS.rd ?_
                      refine LW.ex rfl rfl rfl rfl (Ex.move rfl) hS.rd ?_
                      refine LW.skip rfl rfl rfl rfl ?_
                      refine LW.skip rfl rfl rfl rfl ?_
                      refine LW.skip rfl rfl rfl rfl ?_
                      refine LW.skip rfl rfl rfl rfl ?_
                      refine LW.skip rfl rfl rfl rfl ?_
                      refine LW.ex rfl rfl rfl rfl (by first | exact Ex.pick_yes rfl rfl | exact Ex.pick_no rfl rfl) hS.rd ?_
                      refine LW.nil fun aa ha => hK18 _ _ _ ?_ aa ha
                      refine CW.yes rfl ?_
                      refine CW.seq fun K19 hK19 => ?_
                      refine CW.region [0, 1] rfl ?_
                      refine LW.ex rfl rfl rfl rfl (Ex.move rfl) hS.rd ?_
                      refine LW.ex rfl rfl rfl rfl (Ex.assign rfl) hS.rd ?_
                      refine LW.nil fun aa ha => hK19 _ _ _ ?_ aa ha
                      refine CW.ret fun aa ha => ?_
                      refine ret_one ha Try.results3 rfl ?_
                      exact hS.retS
                    · have h17_2 := of_decide_eq_false h17_2
                      refine LW.ex rfl rfl rfl rfl (Ex.move rfl) hS.rd ?_
                      refine LW.ex rfl rfl rfl rfl (Ex.move rfl) hS.rd ?_
                      refine LW.ex rfl rfl rfl rfl (Ex.not rfl rfl) hS.rd ?_
                      refine LW.ex rfl rfl rfl rfl (by first | exact Ex.pick_yes rfl rfl | exact Ex.pick_no rfl rfl) hS.rd ?_
                      refine LW.ex rfl rfl rfl rfl (Ex.move rfl) hS.rd ?_
                      refine LW.ex rfl rfl rfl rfl (Ex.fieldO 0 Try.underlying49 rfl rfl ti46 rfl) hS.rd ?_
                      refine LW.ex rfl rfl rfl rfl (Ex.fieldO 1 Try.underlying46 rfl rfl ti44 rfl) hS.rd ?_
                      refine LW.ex rfl rfl rfl rfl (Ex.load1 ti44 rfl rfl (by first | exact obT rfl | exact Rd.imm ‹_› | exact slT ‹_›)) hS.rd ?_
                      refine LW.ex rfl rfl rfl rfl (Ex.lenSl rfl Try.underlying44 rfl) hS.rd ?_
                      refine LW.ex rfl rfl rfl rfl (Ex.eql rfl rfl rfl) hS.rd ?_
                      refine LW.splitB (fun h17_12 => ?_) (fun h17_12 => ?_)
                      · have h17_12 := of_decide_eq_true h17_12
                        refine LW.ex rfl rfl rfl rfl (by first | exact Ex.pick_yes rfl rfl | exact Ex.pick_no rfl rfl) hS.rd ?_
                        refine LW.nil fun aa ha => hK18 _ _ _ ?_ aa ha
                        refine CW.yes rfl ?_
                        refine CW.seq fun K20 hK20 => ?_
                        refine CW.region [0, 1] rfl ?_
                        refine LW.ex rfl rfl rfl rfl (Ex.move rfl) hS.rd ?_
                        refine LW.ex rfl rfl rfl rfl (Ex.assign rfl) hS.rd ?_
                        refine LW.nil fun aa ha => hK20 _ _ _ ?_ aa ha
                        refine CW.ret fun aa ha => ?_
                        refine ret_one ha Try.results3 rfl ?_
                        exact hS.retS
                      · have h17_12 := of_decide_eq_false h17_12
                        refine LW.ex rfl rfl rfl rfl (by first | exact Ex.pick_yes rfl rfl | exact Ex.pick_no rfl rfl) hS.rd ?_
                        refine LW.nil fun aa ha => hK18 _ _ _ ?_ aa ha
                        refine CW.no rfl ?_
                        refine CW.skip fun aa ha => hK17 _ _ _ ?_ aa ha
                        refine CW.seq fun K21 hK21 => ?_
                        have hBn : B.G.Links.length ≠ 0 := by omega
                        have hBL := hs2.1
                        have hBL2 := hs2.2.1
                        simp only [maxLen] at hBL2
                        refine CW.region [0, 1, 2, 3, 4] rfl ?_
                        refine LW.ex rfl rfl rfl rfl (Ex.fieldO 0 Try.underlying49 rfl rfl ti46 rfl) hS.rd ?_
                        refine LW.ex rfl rfl rfl rfl (Ex.fieldO 1 Try.underlying46 rfl rfl ti44 rfl) hS.rd ?_
                        refine LW.ex rfl rfl rfl rfl (Ex.load1 ti44 rfl rfl (by first | exact obT rfl | exact Rd.imm ‹_› | exact slT ‹_›)) hS.rd ?_
                        refine LW.ex rfl rfl rfl rfl (Ex.lenSl rfl Try.underlying44 rfl) hS.rd ?_
                        refine LW.ex rfl rfl rfl rfl (Ex.assign rfl) hS.rd ?_
                        refine LW.nil fun aa ha => hK21 _ _ _ ?_ aa ha
                        refine CW.seq fun K22 hK22 => ?_
                        obtain ⟨n, hn⟩ : ∃ n, n = B.G.Links.length := ⟨_, rfl⟩
                        have hm1' := Nat.mod_lt q.c.toNat (show 0 < n by omega)
                        have hm2' := Nat.mod_lt q.d.toNat (show 0 < n by omega)
                        have hS := hS.drew
                        refine CW.draw 13 (.ex 0 <| .ex 1 <| .ex 2 <| .ex 3 <| .ex 4 <| .ex 5 <| .ex 6 <| .ex 7 <| .ex 8 <| .ex 9 <| .two 10 (.ex 11 <| .one 12 <| .done) 12 (.one 10 <| .ex 11 <| .done)) [13] (Rd _ _) mixed (by kernel_rfl) rfl rfl hS.rd ?_
                        refine PW.ex rfl rfl rfl rfl (Ex.indexArr (j := 2) Try.underlying28 ti5 rfl rfl rfl (by omega)) ?_
                        refine PW.ex rfl rfl rfl rfl (Ex.load1 ti5 rfl rfl (by first | exact obT rfl | exact Rd.imm ‹_› | exact slT ‹_›)) ?_
                        refine PW.ex rfl rfl rfl rfl (Ex.conv Try.underlying5 Try.underlying3 rfl (by first | exact w64 (by omega) (by omega) | exact wu8 (by omega) (by omega))) ?_
                        refine PW.ex rfl rfl rfl rfl (Ex.move rfl) ?_
                        refine PW.ex rfl rfl rfl rfl (Ex.rem (r := ((q.c.toNat % n : Nat) : Int)) rfl rfl (by omega) (by rw [← hn]; exact remN _ _)) ?_
                        refine PW.ex rfl rfl rfl rfl (Ex.indexArr (j := 3) Try.underlying28 ti5 rfl rfl rfl (by omega)) ?_
                        refine PW.ex rfl rfl rfl rfl (Ex.load1 ti5 rfl rfl (by first | exact obT rfl | exact Rd.imm ‹_› | exact slT ‹_›)) ?_
                        refine PW.ex rfl rfl rfl rfl (Ex.conv Try.underlying5 Try.underlying3 rfl (by first | exact w64 (by omega) (by omega) | exact wu8 (by omega) (by omega))) ?_
                        refine PW.ex rfl rfl rfl rfl (Ex.move rfl) ?_
                        refine PW.ex rfl rfl rfl rfl (Ex.rem (r := ((q.d.toNat % n : Nat) : Int)) rfl rfl (by omega) (by rw [← hn]; exact remN _ _)) ?_
                        refine PW.two rfl rfl rfl rfl rfl rfl rfl rfl (Hv.buildSl hS Try.underlying31 ti3 rfl rfl rfl rfl rfl rfl) (fun _ _ ⟨_, _, _, h⟩ => h.rd.tail) (Hv.alloc ti58 hS) (fun _ _ ⟨_, _, _, h⟩ => h.rd.tail) (fun v w172 ⟨b172, hv, hb172, hS⟩ => ?gA23) (fun v w25 ⟨b25, hv, hb25, hS⟩ => ?gB23)
                        case gA23 =>
                          skip
                          subst hv
                          refine PW.ex rfl rfl rfl rfl (Ex.buildS st58 rfl rfl rfl) ?_
                          refine PW.hv rfl rfl rfl rfl (Hv.alloc ti58 hS) (fun _ _ ⟨_, _, _, h⟩ => h.rd.tail.tail) fun v w25 ⟨b25, hv, hb25, hS⟩ => ?_
                          subst hv
                          refine PW.nil ?_
                          first | (have hS := (hS : St w _ _ (Own.obj b25 _ _ :: _))) | (have hS := hS.swap)
                          refine LW.hu rfl rfl rfl (Hv.storeN (k := 0) ti58 hS rfl rfl rfl rfl (by simp [Value.oneCell'])) fun _ w_13 hS => ?_
                          dsimp only [List.set] at hS
                          refine LW.nil fun aa ha => hK22 _ _ _ ?_ aa ha
                          refine CW.seq fun K24 hK24 => ?_
                          obtain ⟨μ6, hm6, hS, hls⟩ := hS.shutRow (k := 1) (xs := [((q.c.toNat % n : Nat) : Int), ((q.d.toNat % n : Nat) : Int)]) rfl (RepL.ints _ [((q.c.toNat % n : Nat) : Int), ((q.d.toNat % n : Nat) : Int)]) (by simp [maxLen])
                          dsimp only [List.eraseIdx] at hS
                          have hx6 := hx5.mono hm6
                          have hs6 := hs2.mono hm6
                          have hli : LinksIn X B.G [((q.c.toNat % n : Nat) : Int), ((q.d.toNat % n : Nat) : Int)] := ⟨fun i hi => by
                            rcases List.mem_cons.1 hi with rfl | hi
                            · omega
                            · obtain rfl := List.mem_singleton.1 hi; omega, hBl⟩
                          have hS := hS.drew
                          refine CW.draw 15 (.ex 0 <| .ex 1 <| .ex 2 <| .ex 3 <| .ex 5 <| .ex 6 <| .ex 7 <| .ex 8 <| .one 4 <| .one 9 <| .one 10 <| .ex 11 <| .ex 12 <| .ex 13 <| .ex 14 <| .done) [] (Rd _ _) mixed (by kernel_rfl) rfl rfl hS.rd ?_
                          refine PW.ex rfl rfl rfl rfl (Ex.load2c ti38 rfl rfl (by first | exact obT rfl | exact Rd.imm ‹_› | exact slT ‹_›) (by first | exact obT rfl | exact Rd.imm ‹_› | exact slT ‹_›)) ?_
                          refine PW.ex rfl rfl rfl rfl (Ex.fieldO 0 Try.underlying49 rfl rfl ti46 rfl) ?_
                          refine PW.ex rfl rfl rfl rfl (Ex.load2c ti46 rfl rfl (by first | exact obT rfl | exact Rd.imm ‹_› | exact slT ‹_›) (by first | exact obT rfl | exact Rd.imm ‹_› | exact slT ‹_›)) ?_
                          refine PW.ex rfl rfl rfl rfl (Ex.load2c ti58 rfl rfl (by first | exact obT rfl | exact Rd.imm ‹_› | exact slT ‹_›) (by first | exact obT rfl | exact Rd.imm ‹_› | exact slT ‹_›)) ?_
                          refine PW.ex rfl rfl rfl rfl (Ex.load2c ti38 rfl rfl (by first | exact obT rfl | exact Rd.imm ‹_› | exact slT ‹_›) (by first | exact obT rfl | exact Rd.imm ‹_› | exact slT ‹_›)) ?_
                          refine PW.ex rfl rfl rfl rfl (Ex.fieldO 0 Try.underlying49 rfl rfl ti46 rfl) ?_
                          refine PW.ex rfl rfl rfl rfl (Ex.load2c ti46 rfl rfl (by first | exact obT rfl | exact Rd.imm ‹_› | exact slT ‹_›) (by first | exact obT rfl | exact Rd.imm ‹_› | exact slT ‹_›)) ?_
                          refine PW.ex rfl rfl rfl rfl (Ex.load2c ti58 rfl rfl (by first | exact obT rfl | exact Rd.imm ‹_› | exact slT ‹_›) (by first | exact obT rfl | exact Rd.imm ‹_› | exact slT ‹_›)) ?_
                          refine PW.hv rfl rfl rfl rfl (Hv.callV hS rfl rfl rfl cb19 (cwords_c X B.G _ 0 hli (by simp) _ _ _ _ _ _ _ _ hS.imm hx6 hs6 hls)) (fun _ _ ⟨_, _, hm, h⟩ => Rd.le hm h.rd) fun v w178 ⟨μ178, hv178, hm178, hS⟩ => ?_
                          obtain ⟨a178, c178, hv, hs178⟩ := hv178
                          subst hv
                          have hx6 := hx6.mono hm178
                          have hs6 := hs6.mono hm178
                          have hls := hls.mono hm178
                          refine PW.hv rfl rfl rfl rfl (Hv.callV hS rfl rfl rfl cb20 (rwords2_c X B.G _ 0 hli (by simp) _ _ _ _ _ _ _ _ hS.imm hx6 hs6 hls)) (fun _ _ ⟨_, _, hm, h⟩ => Rd.le hm178 (Rd.le hm h.rd)) fun v w183 ⟨μ183, hv183, hm183, hS⟩ => ?_
                          obtain ⟨a183, c183, hv, hs183⟩ := hv183
                          subst hv
                          have hs178 := hs178.mono hm183
                          refine PW.hv rfl rfl rfl rfl (Hv.callS hS rfl rfl rfl cb18 (ints_c _ _ _ _ _ _ _ _ hS.imm hs178 hs183)) (fun _ _ h => Rd.le hm178 (Rd.le hm183 (h.2.rd))) fun v w184 ⟨hv, hS⟩ => ?_
                          subst hv
                          refine PW.splitB (fun h21_10 => ?_) (fun h21_10 => ?_)
                          · skip
                            refine PW.ex rfl rfl rfl rfl (Ex.move rfl) ?_
                            refine PW.ex rfl rfl rfl rfl (Ex.move rfl) ?_
                            refine PW.ex rfl rfl rfl rfl (by first | exact Ex.pick_yes rfl rfl | exact Ex.pick_no rfl rfl) ?_
                            refine PW.ex rfl rfl rfl rfl (Ex.assign rfl) ?_
                            refine PW.nil ?_
                            refine LW.nil fun aa ha => hK24 _ _ _ ?_ aa ha
                            refine CW.ret fun aa ha => ?_
                            refine ret_one ha Try.results3 rfl ?_
                            exact hS.retS
                          · simp at h21_10
                        case gB23 =>
                          skip
                          subst hv
                          refine PW.hv rfl rfl rfl rfl (Hv.buildSl hS Try.underlying31 ti3 rfl rfl rfl rfl rfl rfl) (fun _ _ ⟨_, _, _, h⟩ => h.rd.tail.tail) fun v w172 ⟨b172, hv, hb172, hS⟩ => ?_
                          subst hv
                          refine PW.ex rfl rfl rfl rfl (Ex.buildS st58 rfl rfl rfl) ?_
                          refine PW.nil ?_
                          first | (have hS := (hS : St w _ _ (Own.obj b25 _ _ :: _))) | (have hS := hS.swap)
                          refine LW.hu rfl rfl rfl (Hv.storeN (k := 0) ti58 hS rfl rfl rfl rfl (by simp [Value.oneCell'])) fun _ w_13 hS => ?_
                          dsimp only [List.set] at hS
                          refine LW.nil fun aa ha => hK22 _ _ _ ?_ aa ha
                          refine CW.seq fun K25 hK25 => ?_
                          obtain ⟨μ6, hm6, hS, hls⟩ := hS.shutRow (k := 1) (xs := [((q.c.toNat % n : Nat) : Int), ((q.d.toNat % n : Nat) : Int)]) rfl (RepL.ints _ [((q.c.toNat % n : Nat) : Int), ((q.d.toNat % n : Nat) : Int)]) (by simp [maxLen])
                          dsimp only [List.eraseIdx] at hS
                          have hx6 := hx5.mono hm6
                          have hs6 := hs2.mono hm6
                          have hli : LinksIn X B.G [((q.c.toNat % n : Nat) : Int), ((q.d.toNat % n : Nat) : Int)] := ⟨fun i hi => by
                            rcases List.mem_cons.1 hi with rfl | hi
                            · omega
                            · obtain rfl := List.mem_singleton.1 hi; omega, hBl⟩
                          have hS := hS.drew
                          refine CW.draw 15 (.ex 0 <| .ex 1 <| .ex 2 <| .ex 3 <| .ex 5 <| .ex 6 <| .ex 7 <| .ex 8 <| .one 4 <| .one 9 <| .one 10 <| .ex 11 <| .ex 12 <| .ex 13 <| .ex 14 <| .done) [] (Rd _ _) mixed (by kernel_rfl) rfl rfl hS.rd ?_
                          refine PW.ex rfl rfl rfl rfl (Ex.load2c ti38 rfl rfl (by first | exact obT rfl | exact Rd.imm ‹_› | exact slT ‹_›) (by first | exact obT rfl | exact Rd.imm ‹_› | exact slT ‹_›)) ?_
                          refine PW.ex rfl rfl rfl rfl (Ex.fieldO 0 Try.underlying49 rfl rfl ti46 rfl) ?_
                          refine PW.ex rfl rfl rfl rfl (Ex.load2c ti46 rfl rfl (by first | exact obT rfl | exact Rd.imm ‹_› | exact slT ‹_›) (by first | exact obT rfl | exact Rd.imm ‹_› | exact slT ‹_›)) ?_
                          refine PW.ex rfl rfl rfl rfl (Ex.load2c ti58 rfl rfl (by first | exact obT rfl | exact Rd.imm ‹_› | exact slT ‹_›) (by first | exact obT rfl | exact Rd.imm ‹_› | exact slT ‹_›)) ?_
                          refine PW.ex rfl rfl rfl rfl (Ex.load2c ti38 rfl rfl (by first | exact obT rfl | exact Rd.imm ‹_› | exact slT ‹_›) (by first | exact obT rfl | exact Rd.imm ‹_› | exact slT ‹_›)) ?_
                          refine PW.ex rfl rfl rfl rfl (Ex.fieldO 0 Try.underlying49 rfl rfl ti46 rfl) ?_
                          refine PW.ex rfl rfl rfl rfl (Ex.load2c ti46 rfl rfl (by first | exact obT rfl | exact Rd.imm ‹_› | exact slT ‹_›) (by first | exact obT rfl | exact Rd.imm ‹_› | exact slT ‹_›)) ?_
                          refine PW.ex rfl rfl rfl rfl (Ex.load2c ti58 rfl rfl (by first | exact obT rfl | exact Rd.imm ‹_› | exact slT ‹_›) (by first | exact obT rfl | exact Rd.imm ‹_› | exact slT ‹_›)) ?_
                          refine PW.hv rfl rfl rfl rfl (Hv.callV hS rfl rfl rfl cb19 (cwords_c X B.G _ 0 hli (by simp) _ _ _ _ _ _ _ _ hS.imm hx6 hs6 hls)) (fun _ _ ⟨_, _, hm, h⟩ => Rd.le hm h.rd) fun v w178 ⟨μ178, hv178, hm178, hS⟩ => ?_
                          obtain ⟨a178, c178, hv, hs178⟩ := hv178
                          subst hv
                          have hx6 := hx6.mono hm178
                          have hs6 := hs6.mono hm178
                          have hls := hls.mono hm178
                          refine PW.hv rfl rfl rfl rfl (Hv.callV hS rfl rfl rfl cb20 (rwords2_c X B.G _ 0 hli (by simp) _ _ _ _ _ _ _ _ hS.imm hx6 hs6 hls)) (fun _ _ ⟨_, _, hm, h⟩ => Rd.le hm178 (Rd.le hm h.rd)) fun v w183 ⟨μ183, hv183, hm183, hS⟩ => ?_
                          obtain ⟨a183, c183, hv, hs183⟩ := hv183
                          subst hv
                          have hs178 := hs178.mono hm183
                          refine PW.hv rfl rfl rfl rfl (Hv.callS hS rfl rfl rfl cb18 (ints_c _ _ _ _ _ _ _ _ hS.imm hs178 hs183)) (fun _ _ h => Rd.le hm178 (Rd.le hm183 (h.2.rd))) fun v w184 ⟨hv, hS⟩ => ?_
                          subst hv
                          refine PW.splitB (fun h21_10 => ?_) (fun h21_10 => ?_)
                          · skip
                            refine PW.ex rfl rfl rfl rfl (Ex.move rfl) ?_
                            refine PW.ex rfl rfl rfl rfl (Ex.move rfl) ?_
                            refine PW.ex rfl rfl rfl rfl (by first | exact Ex.pick_yes rfl rfl | exact Ex.pick_no rfl rfl) ?_
                            refine PW.ex rfl rfl rfl rfl (Ex.assign rfl) ?_
                            refine PW.nil ?_
                            refine LW.nil fun aa ha => hK25 _ _ _ ?_ aa ha
                            refine CW.ret fun aa ha => ?_
                            refine ret_one ha Try.results3 rfl ?_
                            exact hS.retS
                          · simp at h21_10
          · rw [sameB_self] at h10_2; cases h10_2
        have hS := hS.drew
        refine CW.draw 10 (.ex 0 <| .ex 1 <| .ex 2 <| .ex 4 <| .ex 5 <| .ex 6 <| .three 3 (.three 7 (.two 8 (.one 9 <| .done) 9 (.one 8 <| .done)) 8 (.two 7 (.one 9 <| .done) 9 (.one 7 <| .done)) 9 (.two 7 (.one 8 <| .done) 8 (.one 7 <| .done))) 8 (.two 3 (.two 7 (.one 9 <| .done) 9 (.one 7 <| .done)) 9 (.one 3 <| .one 7 <| .done)) 9 (.two 3 (.two 7 (.one 8 <| .done) 8 (.one 7 <| .done)) 8 (.one 3 <| .one 7 <| .done))) [10, 11] (Rd _ _) mixed (by kernel_rfl) rfl rfl hS.rd ?_
        refine PW.ex rfl rfl rfl rfl (Ex.load2c ti38 rfl rfl (by first | exact obT rfl | exact Rd.imm ‹_› | exact slT ‹_›) (by first | exact obT rfl | exact Rd.imm ‹_› | exact slT ‹_›)) ?_
        refine PW.ex rfl rfl rfl rfl (Ex.load4c ti34 rfl rfl (by first | exact obT rfl | exact Rd.imm ‹_› | exact slT ‹_›) (by first | exact obT rfl | exact Rd.imm ‹_› | exact slT ‹_›) (by first | exact obT rfl | exact Rd.imm ‹_› | exact slT ‹_›) (by first | exact obT rfl | exact Rd.imm ‹_› | exact slT ‹_›)) ?_
        refine PW.ex rfl rfl rfl rfl (Ex.move rfl) ?_
        refine PW.ex rfl rfl rfl rfl (Ex.load2c ti38 rfl rfl (by first | exact obT rfl | exact Rd.imm ‹_› | exact slT ‹_›) (by first | exact obT rfl | exact Rd.imm ‹_› | exact slT ‹_›)) ?_
        refine PW.ex rfl rfl rfl rfl (Ex.load4c ti34 rfl rfl (by first | exact obT rfl | exact Rd.imm ‹_› | exact slT ‹_›) (by first | exact obT rfl | exact Rd.imm ‹_› | exact slT ‹_›) (by first | exact obT rfl | exact Rd.imm ‹_› | exact slT ‹_›) (by first | exact obT rfl | exact Rd.imm ‹_› | exact slT ‹_›)) ?_
        refine PW.ex rfl rfl rfl rfl (Ex.move rfl) ?_
        refine PW.three rfl rfl rfl rfl rfl rfl rfl rfl rfl rfl rfl rfl (Hv.callV hS rfl rfl rfl cb13 (lbuild_c X m pv hmw hT2 (by omega) _ _ _ _ _ _ _ _ _ _ hS.imm hx2 hm0 hm1 hm2)) (fun _ _ ⟨_, _, hm, h⟩ => Rd.le hm h.rd) (Hv.alloc ti49 hS) (fun _ _ ⟨_, _, _, h⟩ => h.rd.tail) (Hv.alloc ti49 hS) (fun _ _ ⟨_, _, _, h⟩ => h.rd.tail) (fun v w77 ⟨μ77, hv77, hm77, hS⟩ => ?gA26) (fun v w13 ⟨b13, hv, hb13, hS⟩ => ?gB26) (fun v w14 ⟨b14, hv, hb14, hS⟩ => ?gC26)
        case gA26 =>
          skip
          obtain ⟨p0, q0, p1, q1, hv, hs0, hs1⟩ := hv77
          subst hv
          have hx2 := hx2.mono hm77
          have hm0 := hm0.mono hm77
          have hm1 := hm1.mono hm77
          have hm2 := hm2.mono hm77
          have hsW := hsW.mono hm77
          refine PW.three rfl rfl rfl rfl rfl rfl rfl rfl rfl rfl rfl rfl (Hv.callV hS rfl rfl rfl cb14 (rbuild_c X m pv hmw hmN (by omega) _ _ _ _ _ _ _ _ _ _ hS.imm hx2 hm0 hm1 hm2)) (fun _ _ ⟨_, _, hm, h⟩ => Rd.le hm77 (Rd.le hm h.rd)) (Hv.alloc ti49 hS) (fun _ _ ⟨_, _, _, h⟩ => Rd.le hm77 (h.rd.tail)) (Hv.alloc ti49 hS) (fun _ _ ⟨_, _, _, h⟩ => Rd.le hm77 (h.rd.tail)) (fun v w81 ⟨μ81, hv81, hm81, hS⟩ => ?gA27) (fun v w13 ⟨b13, hv, hb13, hS⟩ => ?gB27) (fun v w14 ⟨b14, hv, hb14, hS⟩ => ?gC27)
          case gA27 =>
            skip
            obtain ⟨p2, q2, p3, q3, hv, hs2, hs3⟩ := hv81
            subst hv
            have hx2 := hx2.mono hm81
            have hm0 := hm0.mono hm81
            have hm1 := hm1.mono hm81
            have hm2 := hm2.mono hm81
            have hsW := hsW.mono hm81
            have hs0 := hs0.mono hm81
            have hs1 := hs1.mono hm81
            refine PW.two rfl rfl rfl rfl rfl rfl rfl rfl (Hv.alloc ti49 hS) (fun _ _ ⟨_, _, _, h⟩ => Rd.le hm77 (Rd.le hm81 (h.rd.tail))) (Hv.alloc ti49 hS) (fun _ _ ⟨_, _, _, h⟩ => Rd.le hm77 (Rd.le hm81 (h.rd.tail))) (fun v w13 ⟨b13, hv, hb13, hS⟩ => ?gA28) (fun v w14 ⟨b14, hv, hb14, hS⟩ => ?gB28)
            case gA28 =>
              skip
              subst hv
              refine PW.hv rfl rfl rfl rfl (Hv.alloc ti49 hS) (fun _ _ ⟨_, _, _, h⟩ => Rd.le hm77 (Rd.le hm81 (h.rd.tail.tail))) fun v w14 ⟨b14, hv, hb14, hS⟩ => ?_
              subst hv
              refine PW.nil ?_
              first | (have hS := (hS : St w _ _ (Own.obj b14 _ _ :: _))) | (have hS := hS.swap)
              refine LW.hu rfl rfl rfl (Hv.storeN (k := 1) ti49 hS rfl rfl rfl rfl (by simp [Value.oneCell'])) fun _ w_10 hS => ?_
              dsimp only [List.set] at hS
              refine LW.hu rfl rfl rfl (Hv.storeN (k := 0) ti49 hS rfl rfl rfl rfl (by simp [Value.oneCell'])) fun _ w_11 hS => ?_
              dsimp only [List.set] at hS
              refine LW.nil fun aa ha => ?_
              refine hJr7 _ (b13) (b14) (p0) (p1) (p2) (p3) (q0) (q1) (q2) (q3) (μ81) hS (hx2) (hm0) (hm1) (hm2) (hsW) (hs0) (hs1) (hs2) (hs3) aa (ha.sub ⟨rfl, rfl, rfl, rfl, rfl, rfl, rfl, rfl, rfl, trivial⟩)
            case gB28 =>
              skip
              subst hv
              refine PW.hv rfl rfl rfl rfl (Hv.alloc ti49 hS) (fun _ _ ⟨_, _, _, h⟩ => Rd.le hm77 (Rd.le hm81 (h.rd.tail.tail))) fun v w13 ⟨b13, hv, hb13, hS⟩ => ?_
              subst hv
              refine PW.nil ?_
              first | (have hS := (hS : St w _ _ (Own.obj b14 _ _ :: _))) | (have hS := hS.swap)
              refine LW.hu rfl rfl rfl (Hv.storeN (k := 1) ti49 hS rfl rfl rfl rfl (by simp [Value.oneCell'])) fun _ w_10 hS => ?_
              dsimp only [List.set] at hS
              refine LW.hu rfl rfl rfl (Hv.storeN (k := 0) ti49 hS rfl rfl rfl rfl (by simp [Value.oneCell'])) fun _ w_11 hS => ?_
              dsimp only [List.set] at hS
              refine LW.nil fun aa ha => ?_
              refine hJr7 _ (b13) (b14) (p0) (p1) (p2) (p3) (q0) (q1) (q2) (q3) (μ81) hS (hx2) (hm0) (hm1) (hm2) (hsW) (hs0) (hs1) (hs2) (hs3) aa (ha.sub ⟨rfl, rfl, rfl, rfl, rfl, rfl, rfl, rfl, rfl, trivial⟩)
          case gB27 =>
            skip
            subst hv
            refine PW.two rfl rfl rfl rfl rfl rfl rfl rfl (Hv.callV hS rfl rfl rfl cb14 (rbuild_c X m pv hmw hmN (by omega) _ _ _ _ _ _ _ _ _ _ hS.imm hx2 hm0 hm1 hm2)) (fun _ _ ⟨_, _, hm, h⟩ => Rd.le hm77 (Rd.le hm h.rd.tail)) (Hv.alloc ti49 hS) (fun _ _ ⟨_, _, _, h⟩ => Rd.le hm77 (h.rd.tail.tail)) (fun v w81 ⟨μ81, hv81, hm81, hS⟩ => ?gA29) (fun v w14 ⟨b14, hv, hb14, hS⟩ => ?gB29)
            case gA29 =>
              skip
              obtain ⟨p2, q2, p3, q3, hv, hs2, hs3⟩ := hv81
              subst hv
              have hx2 := hx2.mono hm81
              have hm0 := hm0.mono hm81
              have hm1 := hm1.mono hm81
              have hm2 := hm2.mono hm81
              have hsW := hsW.mono hm81
              have hs0 := hs0.mono hm81
              have hs1 := hs1.mono hm81
              refine PW.hv rfl rfl rfl rfl (Hv.alloc ti49 hS) (fun _ _ ⟨_, _, _, h⟩ => Rd.le hm77 (Rd.le hm81 (h.rd.tail.tail))) fun v w14 ⟨b14, hv, hb14, hS⟩ => ?_
              subst hv
              refine PW.nil ?_
              first | (have hS := (hS : St w _ _ (Own.obj b14 _ _ :: _))) | (have hS := hS.swap)
              refine LW.hu rfl rfl rfl (Hv.storeN (k := 1) ti49 hS rfl rfl rfl rfl (by simp [Value.oneCell'])) fun _ w_10 hS => ?_
              dsimp only [List.set] at hS
              refine LW.hu rfl rfl rfl (Hv.storeN (k := 0) ti49 hS rfl rfl rfl rfl (by simp [Value.oneCell'])) fun _ w_11 hS => ?_
              dsimp only [List.set] at hS
              refine LW.nil fun aa ha => ?_
              refine hJr7 _ (b13) (b14) (p0) (p1) (p2) (p3) (q0) (q1) (q2) (q3) (μ81) hS (hx2) (hm0) (hm1) (hm2) (hsW) (hs0) (hs1) (hs2) (hs3) aa (ha.sub ⟨rfl, rfl, rfl, rfl, rfl, rfl, rfl, rfl, rfl, trivial⟩)
            case gB29 =>
              skip
              subst hv
              refine PW.hv rfl rfl rfl rfl (Hv.callV hS rfl rfl rfl cb14 (rbuild_c X m pv hmw hmN (by omega) _ _ _ _ _ _ _ _ _ _ hS.imm hx2 hm0 hm1 hm2)) (fun _ _ ⟨_, _, hm, h⟩ => Rd.le hm77 (Rd.le hm h.rd.tail.tail)) fun v w81 ⟨μ81, hv81, hm81, hS⟩ => ?_
              obtain ⟨p2, q2, p3, q3, hv, hs2, hs3⟩ := hv81
              subst hv
              have hx2 := hx2.mono hm81
              have hm0 := hm0.mono hm81
              have hm1 := hm1.mono hm81
              have hm2 := hm2.mono hm81
              have hsW := hsW.mono hm81
              have hs0 := hs0.mono hm81
              have hs1 := hs1.mono hm81
              refine PW.nil ?_
              first | (have hS := (hS : St w _ _ (Own.obj b14 _ _ :: _))) | (have hS := hS.swap)
              refine LW.hu rfl rfl rfl (Hv.storeN (k := 1) ti49 hS rfl rfl rfl rfl (by simp [Value.oneCell'])) fun _ w_10 hS => ?_
              dsimp only [List.set] at hS
              refine LW.hu rfl rfl rfl (Hv.storeN (k := 0) ti49 hS rfl rfl rfl rfl (by simp [Value.oneCell'])) fun _ w_11 hS => ?_
              dsimp only [List.set] at hS
              refine LW.nil fun aa ha => ?_
              refine hJr7 _ (b13) (b14) (p0) (p1) (p2) (p3) (q0) (q1) (q2) (q3) (μ81) hS (hx2) (hm0) (hm1) (hm2) (hsW) (hs0) (hs1) (hs2) (hs3) aa (ha.sub ⟨rfl, rfl, rfl, rfl, rfl, rfl, rfl, rfl, rfl, trivial⟩)
          case gC27 =>
            skip
            subst hv
            refine PW.two rfl rfl rfl rfl rfl rfl rfl rfl (Hv.callV hS rfl rfl rfl cb14 (rbuild_c X m pv hmw hmN (by omega) _ _ _ _ _ _ _ _ _ _ hS.imm hx2 hm0 hm1 hm2)) (fun _ _ ⟨_, _, hm, h⟩ => Rd.le hm77 (Rd.le hm h.rd.tail)) (Hv.alloc ti49 hS) (fun _ _ ⟨_, _, _, h⟩ => Rd.le hm77 (h.rd.tail.tail)) (fun v w81 ⟨μ81, hv81, hm81, hS⟩ => ?gA30) (fun v w13 ⟨b13, hv, hb13, hS⟩ => ?gB30)
            case gA30 =>
              skip
              obtain ⟨p2, q2, p3, q3, hv, hs2, hs3⟩ := hv81
              subst hv
              have hx2 := hx2.mono hm81
              have hm0 := hm0.mono hm81
              have hm1 := hm1.mono hm81
              have hm2 := hm2.mono hm81
              have hsW := hsW.mono hm81
              have hs0 := hs0.mono hm81
              have hs1 := hs1.mono hm81
              refine PW.hv rfl rfl rfl rfl (Hv.alloc ti49 hS) (fun _ _ ⟨_, _, _, h⟩ => Rd.le hm77 (Rd.le hm81 (h.rd.tail.tail))) fun v w13 ⟨b13, hv, hb13, hS⟩ => ?_
              subst hv
              refine PW.nil ?_
              first | (have hS := (hS : St w _ _ (Own.obj b14 _ _ :: _))) | (have hS := hS.swap)
              refine LW.hu rfl rfl rfl (Hv.storeN (k := 1) ti49 hS rfl rfl rfl rfl (by simp [Value.oneCell'])) fun _ w_10 hS => ?_
              dsimp only [List.set] at hS
              refine LW.hu rfl rfl rfl (Hv.storeN (k := 0) ti49 hS rfl rfl rfl rfl (by simp [Value.oneCell'])) fun _ w_11 hS => ?_
              dsimp only [List.set] at hS
              refine LW.nil fun aa ha => ?_
              refine hJr7 _ (b13) (b14) (p0) (p1) (p2) (p3) (q0) (q1) (q2) (q3) (μ81) hS (hx2) (hm0) (hm1) (hm2) (hsW) (hs0) (hs1) (hs2) (hs3) aa (ha.sub ⟨rfl, rfl, rfl, rfl, rfl, rfl, rfl, rfl, rfl, trivial⟩)
            case gB30 =>
              skip
              subst hv
              refine PW.hv rfl rfl rfl rfl (Hv.callV hS rfl rfl rfl cb14 (rbuild_c X m pv hmw hmN (by omega) _ _ _ _ _ _ _ _ _ _ hS.imm hx2 hm0 hm1 hm2)) (fun _ _ ⟨_, _, hm, h⟩ => Rd.le hm77 (Rd.le hm h.rd.tail.tail)) fun v w81 ⟨μ81, hv81, hm81, hS⟩ => ?_
              obtain ⟨p2, q2, p3, q3, hv, hs2, hs3⟩ := hv81
              subst hv
              have hx2 := hx2.mono hm81
              have hm0 := hm0.mono hm81
              have hm1 := hm1.mono hm81
              have hm2 := hm2.mono hm81
              have hsW := hsW.mono hm81
              have hs0 := hs0.mono hm81
              have hs1 := hs1.mono hm81
              refine PW.nil ?_
              first | (have hS := (hS : St w _ _ (Own.obj b14 _ _ :: _))) | (have hS := hS.swap)
              refine LW.hu rfl rfl rfl (Hv.storeN (k := 1) ti49 hS rfl rfl rfl rfl (by simp [Value.oneCell'])) fun _ w_10 hS => ?_
              dsimp only [List.set] at hS
              refine LW.hu rfl rfl rfl (Hv.storeN (k := 0) ti49 hS rfl rfl rfl rfl (by simp [Value.oneCell'])) fun _ w_11 hS => ?_
              dsimp only [List.set] at hS
              refine LW.nil fun aa ha => ?_
              refine hJr7 _ (b13) (b14) (p0) (p1) (p2) (p3) (q0) (q1) (q2) (q3) (μ81) hS (hx2) (hm0) (hm1) (hm2) (hsW) (hs0) (hs1) (hs2) (hs3) aa (ha.sub ⟨rfl, rfl, rfl, rfl, rfl, rfl, rfl, rfl, rfl, trivial⟩)
        case gB26 =>
          skip
          subst hv
          refine PW.two rfl rfl rfl rfl rfl rfl rfl rfl (Hv.callV hS rfl rfl rfl cb13 (lbuild_c X m pv hmw hT2 (by omega) _ _ _ _ _ _ _ _ _ _ hS.imm hx2 hm0 hm1 hm2)) (fun _ _ ⟨_, _, hm, h⟩ => Rd.le hm h.rd.tail) (Hv.alloc ti49 hS) (fun _ _ ⟨_, _, _, h⟩ => h.rd.tail.tail) (fun v w77 ⟨μ77, hv77, hm77, hS⟩ => ?gA31) (fun v w14 ⟨b14, hv, hb14, hS⟩ => ?gB31)
          case gA31 =>
            skip
            obtain ⟨p0, q0, p1, q1, hv, hs0, hs1⟩ := hv77
            subst hv
            have hx2 := hx2.mono hm77
            have hm0 := hm0.mono hm77
            have hm1 := hm1.mono hm77
            have hm2 := hm2.mono hm77
            have hsW := hsW.mono hm77
            refine PW.two rfl rfl rfl rfl rfl rfl rfl rfl (Hv.callV hS rfl rfl rfl cb14 (rbuild_c X m pv hmw hmN (by omega) _ _ _ _ _ _ _ _ _ _ hS.imm hx2 hm0 hm1 hm2)) (fun _ _ ⟨_, _, hm, h⟩ => Rd.le hm77 (Rd.le hm h.rd.tail)) (Hv.alloc ti49 hS) (fun _ _ ⟨_, _, _, h⟩ => Rd.le hm77 (h.rd.tail.tail)) (fun v w81 ⟨μ81, hv81, hm81, hS⟩ => ?gA32) (fun v w14 ⟨b14, hv, hb14, hS⟩ => ?gB32)
            case gA32 =>
              skip
              obtain ⟨p2, q2, p3, q3, hv, hs2, hs3⟩ := hv81
              subst hv
              have hx2 := hx2.mono hm81
              have hm0 := hm0.mono hm81
              have hm1 := hm1.mono hm81
              have hm2 := hm2.mono hm81
              have hsW := hsW.mono hm81
              have hs0 := hs0.mono hm81
              have hs1 := hs1.mono hm81
              refine PW.hv rfl rfl rfl rfl (Hv.alloc ti49 hS) (fun _ _ ⟨_, _, _, h⟩ => Rd.le hm77 (Rd.le hm81 (h.rd.tail.tail))) fun v w14 ⟨b14, hv, hb14, hS⟩ => ?_
              subst hv
              refine PW.nil ?_
              first | (have hS := (hS : St w _ _ (Own.obj b14 _ _ :: _))) | (have hS := hS.swap)
              refine LW.hu rfl rfl rfl (Hv.storeN (k := 1) ti49 hS rfl rfl rfl rfl (by simp [Value.oneCell'])) fun _ w_10 hS => ?_
              dsimp only [List.set] at hS
              refine LW.hu rfl rfl rfl (Hv.storeN (k := 0) ti49 hS rfl rfl rfl rfl (by simp [Value.oneCell'])) fun _ w_11 hS => ?_
              dsimp only [List.set] at hS
              refine LW.nil fun aa ha => ?_
              refine hJr7 _ (b13) (b14) (p0) (p1) (p2) (p3) (q0) (q1) (q2) (q3) (μ81) hS (hx2) (hm0) (hm1) (hm2) (hsW) (hs0) (hs1) (hs2) (hs3) aa (ha.sub ⟨rfl, rfl, rfl, rfl, rfl, rfl, rfl, rfl, rfl, trivial⟩)
            case gB32 =>
              skip
              subst hv
              refine PW.hv rfl rfl rfl rfl (Hv.callV hS rfl rfl rfl cb14 (rbuild_c X m pv hmw hmN (by omega) _ _ _ _ _ _ _ _ _ _ hS.imm hx2 hm0 hm1 hm2)) (fun _ _ ⟨_, _, hm, h⟩ => Rd.le hm77 (Rd.le hm h.rd.tail.tail)) fun v w81 ⟨μ81, hv81, hm81, hS⟩ => ?_
              obtain ⟨p2, q2, p3, q3, hv, hs2, hs3⟩ := hv81
              subst hv
              have hx2 := hx2.mono hm81
              have hm0 := hm0.mono hm81
              have hm1 := hm1.mono hm81
              have hm2 := hm2.mono hm81
              have hsW := hsW.mono hm81
              have hs0 := hs0.mono hm81
              have hs1 := hs1.mono hm81
              refine PW.nil ?_
              first | (have hS := (hS : St w _ _ (Own.obj b14 _ _ :: _))) | (have hS := hS.swap)
              refine LW.hu rfl rfl rfl (Hv.storeN (k := 1) ti49 hS rfl rfl rfl rfl (by simp [Value.oneCell'])) fun _ w_10 hS => ?_
              dsimp only [List.set] at hS
              refine LW.hu rfl rfl rfl (Hv.storeN (k := 0) ti49 hS rfl rfl rfl rfl (by simp [Value.oneCell'])) fun _ w_11 hS => ?_
              dsimp only [List.set] at hS
              refine LW.nil fun aa ha => ?_
              refine hJr7 _ (b13) (b14) (p0) (p1) (p2) (p3) (q0) (q1) (q2) (q3) (μ81) hS (hx2) (hm0) (hm1) (hm2) (hsW) (hs0) (hs1) (hs2) (hs3) aa (ha.sub ⟨rfl, rfl, rfl, rfl, rfl, rfl, rfl, rfl, rfl, trivial⟩)
          case gB31 =>
            skip
            subst hv
            refine PW.hv rfl rfl rfl rfl (Hv.callV hS rfl rfl rfl cb13 (lbuild_c X m pv hmw hT2 (by omega) _ _ _ _ _ _ _ _ _ _ hS.imm hx2 hm0 hm1 hm2)) (fun _ _ ⟨_, _, hm, h⟩ => Rd.le hm h.rd.tail.tail) fun v w77 ⟨μ77, hv77, hm77, hS⟩ => ?_
            obtain ⟨p0, q0, p1, q1, hv, hs0, hs1⟩ := hv77
            subst hv
            have hx2 := hx2.mono hm77
            have hm0 := hm0.mono hm77
            have hm1 := hm1.mono hm77
            have hm2 := hm2.mono hm77
            have hsW := hsW.mono hm77
            refine PW.hv rfl rfl rfl rfl (Hv.callV hS rfl rfl rfl cb14 (rbuild_c X m pv hmw hmN (by omega) _ _ _ _ _ _ _ _ _ _ hS.imm hx2 hm0 hm1 hm2)) (fun _ _ ⟨_, _, hm, h⟩ => Rd.le hm77 (Rd.le hm h.rd.tail.tail)) fun v w81 ⟨μ81, hv81, hm81, hS⟩ => ?_
            obtain ⟨p2, q2, p3, q3, hv, hs2, hs3⟩ := hv81
            subst hv
            have hx2 := hx2.mono hm81
            have hm0 := hm0.mono hm81
            have hm1 := hm1.mono hm81
            have hm2 := hm2.mono hm81
            have hsW := hsW.mono hm81
            have hs0 := hs0.mono hm81
            have hs1 := hs1.mono hm81
            refine PW.nil ?_
            first | (have hS := (hS : St w _ _ (Own.obj b14 _ _ :: _))) | (have hS := hS.swap)
            refine LW.hu rfl rfl rfl (Hv.storeN (k := 1) ti49 hS rfl rfl rfl rfl (by simp [Value.oneCell'])) fun _ w_10 hS => ?_
            dsimp only [List.set] at hS
            refine LW.hu rfl rfl rfl (Hv.storeN (k := 0) ti49 hS rfl rfl rfl rfl (by simp [Value.oneCell'])) fun _ w_11 hS => ?_
            dsimp only [List.set] at hS
            refine LW.nil fun aa ha => ?_
            refine hJr7 _ (b13) (b14) (p0) (p1) (p2) (p3) (q0) (q1) (q2) (q3) (μ81) hS (hx2) (hm0) (hm1) (hm2) (hsW) (hs0) (hs1) (hs2) (hs3) aa (ha.sub ⟨rfl, rfl, rfl, rfl, rfl, rfl, rfl, rfl, rfl, trivial⟩)
        case gC26 =>
          skip
          subst hv
          refine PW.two rfl rfl rfl rfl rfl rfl rfl rfl (Hv.callV hS rfl rfl rfl cb13 (lbuild_c X m pv hmw hT2 (by omega) _ _ _ _ _ _ _ _ _ _ hS.imm hx2 hm0 hm1 hm2)) (fun _ _ ⟨_, _, hm, h⟩ => Rd.le hm h.rd.tail) (Hv.alloc ti49 hS) (fun _ _ ⟨_, _, _, h⟩ => h.rd.tail.tail) (fun v w77 ⟨μ77, hv77, hm77, hS⟩ => ?gA33) (fun v w13 ⟨b13, hv, hb13, hS⟩ => ?gB33)
          case gA33 =>
            skip
            obtain ⟨p0, q0, p1, q1, hv, hs0, hs1⟩ := hv77
            subst hv
            have hx2 := hx2.mono hm77
            have hm0 := hm0.mono hm77
            have hm1 := hm1.mono hm77
            have hm2 := hm2.mono hm77
            have hsW := hsW.mono hm77
            refine PW.two rfl rfl rfl rfl rfl rfl rfl rfl (Hv.callV hS rfl rfl rfl cb14 (rbuild_c X m pv hmw hmN (by omega) _ _ _ _ _ _ _ _ _ _ hS.imm hx2 hm0 hm1 hm2)) (fun _ _ ⟨_, _, hm, h⟩ => Rd.le hm77 (Rd.le hm h.rd.tail)) (Hv.alloc ti49 hS) (fun _ _ ⟨_, _, _, h⟩ => Rd.le hm77 (h.rd.tail.tail)) (fun v w81 ⟨μ81, hv81, hm81, hS⟩ => ?gA34) (fun v w13 ⟨b13, hv, hb13, hS⟩ => ?gB34)
            case gA34 =>
              skip
              obtain ⟨p2, q2, p3, q3, hv, hs2, hs3⟩ := hv81
              subst hv
              have hx2 := hx2.mono hm81
              have hm0 := hm0.mono hm81
              have hm1 := hm1.mono hm81
              have hm2 := hm2.mono hm81
              have hsW := hsW.mono hm81
              have hs0 := hs0.mono hm81
              have hs1 := hs1.mono hm81
              refine PW.hv rfl rfl rfl rfl (Hv.alloc ti49 hS) (fun _ _ ⟨_, _, _, h⟩ => Rd.le hm77 (Rd.le hm81 (h.rd.tail.tail))) fun v w13 ⟨b13, hv, hb13, hS⟩ => ?_
              subst hv
              refine PW.nil ?_
              first | (have hS := (hS : St w _ _ (Own.obj b14 _ _ :: _))) | (have hS := hS.swap)
              refine LW.hu rfl rfl rfl (Hv.storeN (k := 1) ti49 hS rfl rfl rfl rfl (by simp [Value.oneCell'])) fun _ w_10 hS => ?_
              dsimp only [List.set] at hS
              refine LW.hu rfl rfl rfl (Hv.storeN (k := 0) ti49 hS rfl rfl rfl rfl (by simp [Value.oneCell'])) fun _ w_11 hS => ?_
              dsimp only [List.set] at hS
              refine LW.nil fun aa ha => ?_
              refine hJr7 _ (b13) (b14) (p0) (p1) (p2) (p3) (q0) (q1) (q2) (q3) (μ81) hS (hx2) (hm0) (hm1) (hm2) (hsW) (hs0) (hs1) (hs2) (hs3) aa (ha.sub ⟨rfl, rfl, rfl, rfl, rfl, rfl, rfl, rfl, rfl, trivial⟩)
            case gB34 =>
              skip
              subst hv
              refine PW.hv rfl rfl rfl rfl (Hv.callV hS rfl rfl rfl cb14 (rbuild_c X m pv hmw hmN (by omega) _ _ _ _ _ _ _ _ _ _ hS.imm hx2 hm0 hm1 hm2)) (fun _ _ ⟨_, _, hm, h⟩ => Rd.le hm77 (Rd.le hm h.rd.tail.tail)) fun v w81 ⟨μ81, hv81, hm81, hS⟩ => ?_
              obtain ⟨p2, q2, p3, q3, hv, hs2, hs3⟩ := hv81
              subst hv
              have hx2 := hx2.mono hm81
              have hm0 := hm0.mono hm81
              have hm1 := hm1.mono hm81
              have hm2 := hm2.mono hm81
              have hsW := hsW.mono hm81
              have hs0 := hs0.mono hm81
              have hs1 := hs1.mono hm81
              refine PW.nil ?_
              first | (have hS := (hS : St w _ _ (Own.obj b14 _ _ :: _))) | (have hS := hS.swap)
              refine LW.hu rfl rfl rfl (Hv.storeN (k := 1) ti49 hS rfl rfl rfl rfl (by simp [Value.oneCell'])) fun _ w_10 hS => ?_
              dsimp only [List.set] at hS
              refine LW.hu rfl rfl rfl (Hv.storeN (k := 0) ti49 hS rfl rfl rfl rfl (by simp [Value.oneCell'])) fun _ w_11 hS => ?_
              dsimp only [List.set] at hS
              refine LW.nil fun aa ha => ?_
              refine hJr7 _ (b13) (b14) (p0) (p1) (p2) (p3) (q0) (q1) (q2) (q3) (μ81) hS (hx2) (hm0) (hm1) (hm2) (hsW) (hs0) (hs1) (hs2) (hs3) aa (ha.sub ⟨rfl, rfl, rfl, rfl, rfl, rfl, rfl, rfl, rfl, trivial⟩)
          case gB33 =>
            skip
            subst hv
            refine PW.hv rfl rfl rfl rfl (Hv.callV hS rfl rfl rfl cb13 (lbuild_c X m pv hmw hT2 (by omega) _ _ _ _ _ _ _ _ _ _ hS.imm hx2 hm0 hm1 hm2)) (fun _ _ ⟨_, _, hm, h⟩ => Rd.le hm h.rd.tail.tail) fun v w77 ⟨μ77, hv77, hm77, hS⟩ => ?_
            obtain ⟨p0, q0, p1, q1, hv, hs0, hs1⟩ := hv77
            subst hv
            have hx2 := hx2.mono hm77
            have hm0 := hm0.mono hm77
            have hm1 := hm1.mono hm77
            have hm2 := hm2.mono hm77
            have hsW := hsW.mono hm77
            refine PW.hv rfl rfl rfl rfl (Hv.callV hS rfl rfl rfl cb14 (rbuild_c X m pv hmw hmN (by omega) _ _ _ _ _ _ _ _ _ _ hS.imm hx2 hm0 hm1 hm2)) (fun _ _ ⟨_, _, hm, h⟩ => Rd.le hm77 (Rd.le hm h.rd.tail.tail)) fun v w81 ⟨μ81, hv81, hm81, hS⟩ => ?_
            obtain ⟨p2, q2, p3, q3, hv, hs2, hs3⟩ := hv81
            subst hv
            have hx2 := hx2.mono hm81
            have hm0 := hm0.mono hm81
            have hm1 := hm1.mono hm81
            have hm2 := hm2.mono hm81
            have hsW := hsW.mono hm81
            have hs0 := hs0.mono hm81
            have hs1 := hs1.mono hm81
            refine PW.nil ?_
            first | (have hS := (hS : St w _ _ (Own.obj b14 _ _ :: _))) | (have hS := hS.swap)
            refine LW.hu rfl rfl rfl (Hv.storeN (k := 1) ti49 hS rfl rfl rfl rfl (by simp [Value.oneCell'])) fun _ w_10 hS => ?_
            dsimp only [List.set] at hS
            refine LW.hu rfl rfl rfl (Hv.storeN (k := 0) ti49 hS rfl rfl rfl rfl (by simp [Value.oneCell'])) fun _ w_11 hS => ?_
            dsimp only [List.set] at hS
            refine LW.nil fun aa ha => ?_
            refine hJr7 _ (b13) (b14) (p0) (p1) (p2) (p3) (q0) (q1) (q2) (q3) (μ81) hS (hx2) (hm0) (hm1) (hm2) (hsW) (hs0) (hs1) (hs2) (hs3) aa (ha.sub ⟨rfl, rfl, rfl, rfl, rfl, rfl, rfl, rfl, rfl, trivial⟩)
      refine CW.seq fun K35 hK35 => ?_
      refine CW.region [0, 1, 2, 3, 4, 5, 6, 7, 8, 9] rfl ?_
      refine LW.ex rfl rfl rfl rfl (Ex.indexArr (j := 2) Try.underlying28 ti5 rfl rfl rfl (by omega)) hS.rd ?_
      refine LW.ex rfl rfl rfl rfl (Ex.load1 ti5 rfl rfl (by first | exact obT rfl | exact Rd.imm ‹_› | exact slT ‹_›)) hS.rd ?_
      refine LW.ex rfl rfl rfl rfl (Ex.rem (r := ((q.c.toNat % 8 : Nat) : Int)) rfl rfl (by omega) (remN' _ 8 rfl)) hS.rd ?_
      refine LW.ex rfl rfl rfl rfl (Ex.eql rfl rfl rfl) hS.rd ?_
      refine LW.splitB (fun h5_3 => ?_) (fun h5_3 => ?_)
      · have h5_3 := of_decide_eq_true h5_3
        refine LW.ex rfl rfl rfl rfl (Ex.move rfl) hS.rd ?_
        refine LW.ex rfl rfl rfl rfl (Ex.fieldO 1 Try.underlying38 rfl rfl ti36 rfl) hS.rd ?_
        refine LW.ex rfl rfl rfl rfl (Ex.load1 ti36 rfl rfl (by first | exact obT rfl | exact Rd.imm ‹_› | exact slT ‹_›)) hS.rd ?_
        refine LW.ex rfl rfl rfl rfl (Ex.lenSl rfl Try.underlying36 rfl) hS.rd ?_
        refine LW.ex rfl rfl rfl rfl (Ex.gtr rfl rfl rfl) hS.rd ?_
        refine LW.splitB (fun h5_8 => ?_) (fun h5_8 => ?_)
        · have h5_8 := of_decide_eq_true h5_8
          refine LW.ex rfl rfl rfl rfl (by first | exact Ex.pick_yes rfl rfl | exact Ex.pick_no rfl rfl) hS.rd ?_
          refine LW.nil fun aa ha => hK35 _ _ _ ?_ aa ha
          refine CW.yes rfl ?_
          have hxl : x.Edges.length - 1 < x.Edges.length := by omega
          obtain ⟨gx, rfl⟩ := hS.sl_some 0 rfl (by omega)
          have hfs := flat_setc edgeL_len x.Edges (x.Edges.length - 1) 2 (.int .i64 m.Words.length) ⟨x.Edges[x.Edges.length - 1].From, x.Edges[x.Edges.length - 1].To, m.Words.length, x.Edges[x.Edges.length - 1].Cost⟩ hxl (by omega) rfl
          have hb11 : 0 + (x.Edges.length - 1) * 4 + 2 < (x.Edges.flatMap edgeL).length := by rw [flatMap_len edgeL_len]; omega
          refine CW.region [0, 1, 2, 3, 4, 5, 6, 7, 8, 9, 10, 11] rfl ?_
          refine LW.ex rfl rfl rfl rfl (Ex.fieldO 1 Try.underlying38 rfl rfl ti36 rfl) hS.rd ?_
          refine LW.ex rfl rfl rfl rfl (Ex.load1 ti36 rfl rfl (by first | exact obT rfl | exact Rd.imm ‹_› | exact slT ‹_›)) hS.rd ?_
          refine LW.ex rfl rfl rfl rfl (Ex.fieldO 1 Try.underlying38 rfl rfl ti36 rfl) hS.rd ?_
          refine LW.ex rfl rfl rfl rfl (Ex.load1 ti36 rfl rfl (by first | exact obT rfl | exact Rd.imm ‹_› | exact slT ‹_›)) hS.rd ?_
          refine LW.ex rfl rfl rfl rfl (Ex.lenSl rfl Try.underlying36 rfl) hS.rd ?_
          refine LW.ex rfl rfl rfl rfl (Ex.sub (r := ((x.Edges.length - 1 : Nat) : Int)) rfl rfl (by rw [w64 (by omega) (by omega)]; omega)) hS.rd ?_
          refine LW.ex rfl rfl rfl rfl (Ex.fieldO 0 Try.underlying34 rfl rfl ti30 rfl) hS.rd ?_
          refine LW.ex rfl rfl rfl rfl (Ex.load1 ti30 rfl rfl (by first | exact obT rfl | exact Rd.imm ‹_› | exact slT ‹_›)) hS.rd ?_
          refine LW.ex rfl rfl rfl rfl (Ex.lenSl rfl Try.underlying30 rfl) hS.rd ?_
          refine LW.ex rfl rfl rfl rfl (Ex.indexSl Try.underlying36 ti43 rfl rfl rfl (by omega)) hS.rd ?_
          refine LW.ex rfl rfl rfl rfl (Ex.fieldO 2 Try.underlying43 rfl rfl ti3 rfl) hS.rd ?_
          refine LW.hu rfl rfl rfl (Hv.storeSl (k := 0) ti3 hS rfl rfl rfl rfl (by first | assumption | (simp; done) | omega | exact Nat.zero_lt_succ _)) fun _ w_11 hS => ?_
          dsimp only [List.set] at hS
          rw [Nat.zero_add, hfs] at hS
          refine LW.nil fun aa ha => ?_
          refine hJ5 _ (x.Edges.set (x.Edges.length - 1) ⟨x.Edges[x.Edges.length - 1].From, x.Edges[x.Edges.length - 1].To, m.Words.length, x.Edges[x.Edges.length - 1].Cost⟩) hS (turned_set x1 _ _ _) aa (ha.sub ⟨rfl, rfl, rfl, rfl, rfl, rfl, rfl, trivial⟩)
        · have h5_8 := of_decide_eq_false h5_8
          refine LW.ex rfl rfl rfl rfl (by first | exact Ex.pick_yes rfl rfl | exact Ex.pick_no rfl rfl) hS.rd ?_
          refine LW.nil fun aa ha => hK35 _ _ _ ?_ aa ha
          refine CW.no rfl ?_
          refine CW.skip fun aa ha => ?_
          refine hJ5 _ (x.Edges) hS (turned_self x1) aa (ha.sub ⟨rfl, rfl, rfl, rfl, rfl, rfl, rfl, trivial⟩)
      · have h5_3 := of_decide_eq_false h5_3
        refine LW.ex rfl rfl rfl rfl (Ex.move rfl) hS.rd ?_
        refine LW.skip rfl rfl rfl rfl ?_
        refine LW.skip rfl rfl rfl rfl ?_
        refine LW.skip rfl rfl rfl rfl ?_
        refine LW.skip rfl rfl rfl rfl ?_
        refine LW.ex rfl rfl rfl rfl (by first | exact Ex.pick_yes rfl rfl | exact Ex.pick_no rfl rfl) hS.rd ?_
        refine LW.nil fun aa ha => hK35 _ _ _ ?_ aa ha
        refine CW.no rfl ?_
        refine CW.skip fun aa ha => ?_
        refine hJ5 _ (x.Edges) hS (turned_self x1) aa (ha.sub ⟨rfl, rfl, rfl, rfl, rfl, rfl, rfl, trivial⟩)
    · skip
      refine LW.ex rfl rfl rfl rfl (Ex.assign rfl) hS.rd ?_
      refine LW.ex rfl rfl rfl rfl (Ex.assign rfl) hS.rd ?_
      refine LW.nil fun aa ha => hK5 _ _ _ ?_ aa ha
      refine CW.seq fun K36 hK36 => ?_
      obtain ⟨bs, μw, hmw1, hS, hφ⟩ := hS.shut 0 rfl
      dsimp only [List.eraseIdx] at hS
      have hsW : Sl μw adW cW (W.1.map fun (k : Nat) => (k : Int)) := Sl.of_own hφ (RepL.nats _ _) (by rw [List.length_map])
      have hS := hS.drop 0 rfl
      dsimp only [List.eraseIdx] at hS
      have hm0 := hm0.mono hmw1
      have hm1 := hm1.mono hmw1
      have hm2 := hm2.mono hmw1
      obtain ⟨es, hes⟩ : ∃ es : List Int, es = W.1.map fun (k : Nat) => (k : Int) := ⟨_, rfl⟩
      have hel : W.1.length = es.length := by rw [hes, List.length_map]
      rw [← hes] at hsW
      rw [hel]
      have hJ5 : ∀ (wj : World) (E : List Edge), St w wj μw [Own.sl ax x.Edges.length cx 43 4 (E.flatMap edgeL), Own.obj b9 [.int .i64 x.N, .slice ax x.Edges.length cx] 38, Own.obj b8 [.slice a0 m.Words.length c0, .slice a1 m.Counts.length c1, .slice a2 m.Pairs.length c2, .int .i64 m.Back] 34, Own.obj b5 (b4L q) 28, Own.obj b4 [.slice r0 y.Words.length d0, .slice r1 y.Counts.length d1, .slice r2 y.Uses.length d2, .int .u8 y.Back.toNat] 27] → (Turned x E) → KW K36 188 [(5, .pointer (some ⟨b5, 0, none⟩)), (7, .bool true), (8, .pointer (some ⟨b8, 0, none⟩)), (9, .pointer (some ⟨b9, 0, none⟩)), (10, .int .i64 pv), (11, .slice adW es.length cW), (12, .bool false)] wj := by
        intro wj E hS hT
        refine hK36 _ _ _ ?_
        obtain ⟨hT1, hT2⟩ := hT
        obtain ⟨bs, μ2, hm22, hS, hφ⟩ := hS.shut 0 rfl
        dsimp only [List.eraseIdx] at hS
        have hx2 : Sl μ2 ax cx E := Sl.of_own hφ (edgeReps _ _) hT1.symm
        rw [← hT1] at hS
        have hsW := hsW.mono hm22
        have hm0 := hm0.mono hm22
        have hm1 := hm1.mono hm22
        have hm2 := hm2.mono hm22
        obtain ⟨X, hX⟩ : ∃ X : Lat, X = ⟨x.N, E⟩ := ⟨_, rfl⟩
        have hXE : E = X.Edges := by rw [hX]
        have hXN : x.N = X.N := by rw [hX]
        rw [hXE] at hx2 hS hT1 hT2
        rw [hXN] at hS
        refine CW.seq fun K37 hK37 => ?_
        have hJr7 : ∀ (wj : World) (b13 : Nat) (b14 : Nat) (p0 p1 p2 p3 : Option Addr) (q0 q1 q2 q3 : Nat) (μ5 : Mem), St w wj μ5 [Own.obj b14 [.int .i64 (buildR X m pv).G.N, .slice p2 (buildR X m pv).G.Links.length q2, .slice p3 (buildR X m pv).Last.length q3, .int .i64 (buildR X m pv).E] 49, Own.obj b13 [.int .i64 (buildR X m pv).G.N, .slice p0 (buildR X m pv).G.Links.length q0, .slice p1 (buildR X m pv).Last.length q1, .int .i64 (buildR X m pv).E] 49, Own.obj b9 [.int .i64 X.N, .slice ax X.Edges.length cx] 38, Own.obj b8 [.slice a0 m.Words.length c0, .slice a1 m.Counts.length c1, .slice a2 m.Pairs.length c2, .int .i64 m.Back] 34, Own.obj b5 (b4L q) 28, Own.obj b4 [.slice r0 y.Words.length d0, .slice r1 y.Counts.length d1, .slice r2 y.Uses.length d2, .int .u8 y.Back.toNat] 27] → (Sl μ5 ax cx X.Edges) → (Sl μ5 a0 c0 m.Words) → (Sl μ5 a1 c1 m.Counts) → (Sl μ5 a2 c2 m.Pairs) → (Sl μ5 adW cW es) → (Sl μ5 p0 q0 (buildR X m pv).G.Links) → (Sl μ5 p1 q1 (buildR X m pv).Last) → (Sl μ5 p2 q2 (buildR X m pv).G.Links) → (Sl μ5 p3 q3 (buildR X m pv).Last) → KW K37 188 [(5, .pointer (some ⟨b5, 0, none⟩)), (7, .bool true), (8, .pointer (some ⟨b8, 0, none⟩)), (9, .pointer (some ⟨b9, 0, none⟩)), (10, .int .i64 pv), (11, .slice adW es.length cW), (12, .bool false), (13, .pointer (some ⟨b13, 0, none⟩)), (14, .pointer (some ⟨b14, 0, none⟩))] wj := by
          intro wj b13 b14 p0 p1 p2 p3 q0 q1 q2 q3 μ5 hS hx5 hm05 hm15 hm25 hsW5 hs0 hs1 hs2 hs3
          refine hK37 _ _ _ ?_
          refine CW.seq fun K38 hK38 => ?_
          have hesl : es.length ≤ 40 := by rw [← hel]; exact hwk3
          obtain ⟨B, hB⟩ : ∃ B, B = buildR X m pv := ⟨_, rfl⟩
          have hBl : ∀ k ∈ B.G.Links, 0 ≤ k.Label ∧ k.Label < X.Edges.length := by rw [hB]; exact build_label
          rw [← hB] at hS hs0 hs1 hs2 hs3
          refine CW.region [0, 1, 2, 3, 4, 5, 6, 7, 8, 9] rfl ?_
          refine LW.ex rfl rfl rfl rfl (Ex.load2c ti38 rfl rfl (by first | exact obT rfl | exact Rd.imm ‹_› | exact slT ‹_›) (by first | exact obT rfl | exact Rd.imm ‹_› | exact slT ‹_›)) hS.rd ?_
          refine LW.ex rfl rfl rfl rfl (Ex.load4c ti34 rfl rfl (by first | exact obT rfl | exact Rd.imm ‹_› | exact slT ‹_›) (by first | exact obT rfl | exact Rd.imm ‹_› | exact slT ‹_›) (by first | exact obT rfl | exact Rd.imm ‹_› | exact slT ‹_›) (by first | exact obT rfl | exact Rd.imm ‹_› | exact slT ‹_›)) hS.rd ?_
          refine LW.ex rfl rfl rfl rfl (Ex.move rfl) hS.rd ?_
          refine LW.ex rfl rfl rfl rfl (Ex.move rfl) hS.rd ?_
          refine LW.hv rfl rfl rfl rfl (Hv.callS hS rfl rfl rfl cb15 (ccost_c X m pv es hmw hT2 (by omega) _ _ _ _ _ _ _ _ _ _ μ5 _ hS.imm hx5 hm05 hm15 hm25 hsW5)) fun v w87 ⟨hv, hS⟩ => ?_
          subst hv
          refine LW.ex rfl rfl rfl rfl (Ex.move rfl) hS.rd ?_
          refine LW.ex rfl rfl rfl rfl (Ex.extract rfl rfl) hS.rd ?_
          refine LW.ex rfl rfl rfl rfl (Ex.extract rfl rfl) hS.rd ?_
          refine LW.ex rfl rfl rfl rfl (Ex.assign rfl) hS.rd ?_
          refine LW.ex rfl rfl rfl rfl (Ex.assign rfl) hS.rd ?_
          refine LW.nil fun aa ha => hK38 _ _ _ ?_ aa ha
          refine CW.seq fun K39 hK39 => ?_
          refine CW.region [0, 1, 2, 3, 4, 5, 6, 7, 8, 9, 10] rfl ?_
          refine LW.ex rfl rfl rfl rfl (Ex.load2c ti38 rfl rfl (by first | exact obT rfl | exact Rd.imm ‹_› | exact slT ‹_›) (by first | exact obT rfl | exact Rd.imm ‹_› | exact slT ‹_›)) hS.rd ?_
          refine LW.ex rfl rfl rfl rfl (Ex.load4c ti34 rfl rfl (by first | exact obT rfl | exact Rd.imm ‹_› | exact slT ‹_›) (by first | exact obT rfl | exact Rd.imm ‹_› | exact slT ‹_›) (by first | exact obT rfl | exact Rd.imm ‹_› | exact slT ‹_›) (by first | exact obT rfl | exact Rd.imm ‹_› | exact slT ‹_›)) hS.rd ?_
          refine LW.ex rfl rfl rfl rfl (Ex.move rfl) hS.rd ?_
          refine LW.ex rfl rfl rfl rfl (Ex.buildS st55 rfl rfl rfl) hS.rd ?_
          refine LW.ex rfl rfl rfl rfl (Ex.move rfl) hS.rd ?_
          refine LW.hv rfl rfl rfl rfl (Hv.callS hS rfl rfl rfl cb16 (rcost_c X m pv es hmw hmN (by omega) (by omega) _ _ _ _ _ _ _ _ _ _ μ5 _ hS.imm hx5 hm05 hm15 hm25 hsW5)) fun v w96 ⟨hv, hS⟩ => ?_
          subst hv
          refine LW.ex rfl rfl rfl rfl (Ex.move rfl) hS.rd ?_
          refine LW.ex rfl rfl rfl rfl (Ex.extract rfl rfl) hS.rd ?_
          refine LW.ex rfl rfl rfl rfl (Ex.extract rfl rfl) hS.rd ?_
          refine LW.ex rfl rfl rfl rfl (Ex.assign rfl) hS.rd ?_
          refine LW.ex rfl rfl rfl rfl (Ex.assign rfl) hS.rd ?_
          refine LW.nil fun aa ha => hK39 _ _ _ ?_ aa ha
          refine CW.seq fun K40 hK40 => ?_
          refine CW.seq fun K41 hK41 => ?_
          refine CW.region [0, 1, 2, 3, 4, 5, 6, 7, 8, 9, 10, 11, 12, 13] rfl ?_
          refine LW.ex rfl rfl rfl rfl (Ex.load4c ti49 rfl rfl (by first | exact obT rfl | exact Rd.imm ‹_› | exact slT ‹_›) (by first | exact obT rfl | exact Rd.imm ‹_› | exact slT ‹_›) (by first | exact obT rfl | exact Rd.imm ‹_› | exact slT ‹_›) (by first | exact obT rfl | exact Rd.imm ‹_› | exact slT ‹_›)) hS.rd ?_
          refine LW.ex rfl rfl rfl rfl (Ex.load4c ti49 rfl rfl (by first | exact obT rfl | exact Rd.imm ‹_› | exact slT ‹_›) (by first | exact obT rfl | exact Rd.imm ‹_› | exact slT ‹_›) (by first | exact obT rfl | exact Rd.imm ‹_› | exact slT ‹_›) (by first | exact obT rfl | exact Rd.imm ‹_› | exact slT ‹_›)) hS.rd ?_
          refine LW.hv rfl rfl rfl rfl (Hv.callS hS rfl rfl rfl cb17 (sameB_c B B _ _ _ _ _ _ _ _ μ5 _ hS.imm hs0 hs1 hs2 hs3)) fun v w101 ⟨hv, hS⟩ => ?_
          subst hv
          refine LW.splitB (fun h10_2 => ?_) (fun h10_2 => ?_)
          · skip
            refine LW.ex rfl rfl rfl rfl (Ex.not rfl rfl) hS.rd ?_
            refine LW.ex rfl rfl rfl rfl (Ex.move rfl) hS.rd ?_
            refine LW.ex rfl rfl rfl rfl (Ex.move rfl) hS.rd ?_
            refine LW.ex rfl rfl rfl rfl (Ex.move rfl) hS.rd ?_
            refine LW.ex rfl rfl rfl rfl (Ex.neq rfl rfl rfl) hS.rd ?_
            refine LW.splitB (fun h10_7 => ?_) (fun h10_7 => ?_)
            · have h10_7 := of_decide_eq_true h10_7
              exact absurd rfl h10_7
            · have h10_7 := of_decide_eq_false h10_7
              refine LW.ex rfl rfl rfl rfl (by first | exact Ex.pick_yes rfl rfl | exact Ex.pick_no rfl rfl) hS.rd ?_
              refine LW.ex rfl rfl rfl rfl (Ex.move rfl) hS.rd ?_
              refine LW.ex rfl rfl rfl rfl (Ex.move rfl) hS.rd ?_
              refine LW.ex rfl rfl rfl rfl (Ex.move rfl) hS.rd ?_
              refine LW.ex rfl rfl rfl rfl (Ex.neqB Try.underlying4 rfl rfl rfl) hS.rd ?_
              refine LW.splitB (fun h10_12 => ?_) (fun h10_12 => ?_)
              · simp at h10_12
              · skip
                refine LW.ex rfl rfl rfl rfl (by first | exact Ex.pick_yes rfl rfl | exact Ex.pick_no rfl rfl) hS.rd ?_
                refine LW.nil fun aa ha => hK41 _ _ _ ?_ aa ha
                refine CW.no rfl ?_
                refine CW.skip fun aa ha => hK40 _ _ _ ?_ aa ha
                refine CW.seq fun K42 hK42 => ?_
                refine CW.region [0, 1, 2, 3, 4, 5] rfl ?_
                refine LW.ex rfl rfl rfl rfl (Ex.move rfl) hS.rd ?_
                refine LW.ex rfl rfl rfl rfl (Ex.move rfl) hS.rd ?_
                refine LW.ex rfl rfl rfl rfl (Ex.lenSl rfl Try.underlying31 rfl) hS.rd ?_
                refine LW.ex rfl rfl rfl rfl (Ex.quo (r := ((es.length / 2 : Nat) : Int)) rfl rfl (by omega) (tdivW (a := es.length) (b := 2) rfl rfl rfl (by omega))) hS.rd ?_
                refine LW.ex rfl rfl rfl rfl (Ex.sliceTo Try.underlying31 ti3 rfl rfl rfl (by have := hsW5.1; omega)) hS.rd ?_
                refine LW.ex rfl rfl rfl rfl (Ex.assign rfl) hS.rd ?_
                refine LW.nil fun aa ha => hK42 _ _ _ ?_ aa ha
                refine CW.seq fun K43 hK43 => ?_
                obtain ⟨ys, hyl, hys⟩ : ∃ ys : List Int, es.length / 2 = ys.length ∧ Sl μ5 adW cW ys := ⟨es.take (es.length / 2), by rw [List.length_take]; omega, hsW5.take _⟩
                rw [hyl]
                refine CW.region [0, 1, 2, 3, 4, 5, 6, 7, 8, 9] rfl ?_
                refine LW.ex rfl rfl rfl rfl (Ex.load2c ti38 rfl rfl (by first | exact obT rfl | exact Rd.imm ‹_› | exact slT ‹_›) (by first | exact obT rfl | exact Rd.imm ‹_› | exact slT ‹_›)) hS.rd ?_
                refine LW.ex rfl rfl rfl rfl (Ex.load4c ti34 rfl rfl (by first | exact obT rfl | exact Rd.imm ‹_› | exact slT ‹_›) (by first | exact obT rfl | exact Rd.imm ‹_› | exact slT ‹_›) (by first | exact obT rfl | exact Rd.imm ‹_› | exact slT ‹_›) (by first | exact obT rfl | exact Rd.imm ‹_› | exact slT ‹_›)) hS.rd ?_
                refine LW.ex rfl rfl rfl rfl (Ex.move rfl) hS.rd ?_
                refine LW.ex rfl rfl rfl rfl (Ex.move rfl) hS.rd ?_
                refine LW.hv rfl rfl rfl rfl (Hv.callS hS rfl rfl rfl cb15 (ccost_c X m pv ys hmw hT2 (by omega) _ _ _ _ _ _ _ _ _ _ μ5 _ hS.imm hx5 hm05 hm15 hm25 hys)) fun v w123 ⟨hv, hS⟩ => ?_
                subst hv
                refine LW.ex rfl rfl rfl rfl (Ex.move rfl) hS.rd ?_
                refine LW.ex rfl rfl rfl rfl (Ex.extract rfl rfl) hS.rd ?_
                refine LW.ex rfl rfl rfl rfl (Ex.extract rfl rfl) hS.rd ?_
                refine LW.ex rfl rfl rfl rfl (Ex.assign rfl) hS.rd ?_
                refine LW.ex rfl rfl rfl rfl (Ex.assign rfl) hS.rd ?_
                refine LW.nil fun aa ha => hK43 _ _ _ ?_ aa ha
                refine CW.seq fun K44 hK44 => ?_
                refine CW.region [0, 1, 2, 3, 4, 5, 6, 7, 8, 9, 10] rfl ?_
                refine LW.ex rfl rfl rfl rfl (Ex.load2c ti38 rfl rfl (by first | exact obT rfl | exact Rd.imm ‹_› | exact slT ‹_›) (by first | exact obT rfl | exact Rd.imm ‹_› | exact slT ‹_›)) hS.rd ?_
                refine LW.ex rfl rfl rfl rfl (Ex.load4c ti34 rfl rfl (by first | exact obT rfl | exact Rd.imm ‹_› | exact slT ‹_›) (by first | exact obT rfl | exact Rd.imm ‹_› | exact slT ‹_›) (by first | exact obT rfl | exact Rd.imm ‹_› | exact slT ‹_›) (by first | exact obT rfl | exact Rd.imm ‹_› | exact slT ‹_›)) hS.rd ?_
                refine LW.ex rfl rfl rfl rfl (Ex.move rfl) hS.rd ?_
                refine LW.ex rfl rfl rfl rfl (Ex.buildS st55 rfl rfl rfl) hS.rd ?_
                refine LW.ex rfl rfl rfl rfl (Ex.move rfl) hS.rd ?_
                refine LW.hv rfl rfl rfl rfl (Hv.callS hS rfl rfl rfl cb16 (rcost_c X m pv ys hmw hmN (by omega) (by omega) _ _ _ _ _ _ _ _ _ _ μ5 _ hS.imm hx5 hm05 hm15 hm25 hys)) fun v w132 ⟨hv, hS⟩ => ?_
                subst hv
                refine LW.ex rfl rfl rfl rfl (Ex.move rfl) hS.rd ?_
                refine LW.ex rfl rfl rfl rfl (Ex.extract rfl rfl) hS.rd ?_
                refine LW.ex rfl rfl rfl rfl (Ex.extract rfl rfl) hS.rd ?_
                refine LW.ex rfl rfl rfl rfl (Ex.assign rfl) hS.rd ?_
                refine LW.ex rfl rfl rfl rfl (Ex.assign rfl) hS.rd ?_
                refine LW.nil fun aa ha => hK44 _ _ _ ?_ aa ha
                refine CW.seq fun K45 hK45 => ?_
                refine CW.seq fun K46 hK46 => ?_
                refine CW.region [0, 1, 2, 3, 4, 5, 6, 7] rfl ?_
                refine LW.ex rfl rfl rfl rfl (Ex.move rfl) hS.rd ?_
                refine LW.ex rfl rfl rfl rfl (Ex.move rfl) hS.rd ?_
                refine LW.ex rfl rfl rfl rfl (Ex.neq rfl rfl rfl) hS.rd ?_
                refine LW.splitB (fun h15_2 => ?_) (fun h15_2 => ?_)
                · have h15_2 := of_decide_eq_true h15_2
                  exact absurd rfl h15_2
                · have h15_2 := of_decide_eq_false h15_2
                  refine LW.ex rfl rfl rfl rfl (Ex.move rfl) hS.rd ?_
                  refine LW.ex rfl rfl rfl rfl (Ex.move rfl) hS.rd ?_
                  refine LW.ex rfl rfl rfl rfl (Ex.move rfl) hS.rd ?_
                  refine LW.ex rfl rfl rfl rfl (Ex.neqB Try.underlying4 rfl rfl rfl) hS.rd ?_
                  refine LW.splitB (fun h15_6 => ?_) (fun h15_6 => ?_)
                  · simp at h15_6
                  · skip
                    refine LW.ex rfl rfl rfl rfl (by first | exact Ex.pick_yes rfl rfl | exact Ex.pick_no rfl rfl) hS.rd ?_
                    refine LW.nil fun aa ha => hK46 _ _ _ ?_ aa ha
                    refine CW.no rfl ?_
                    refine CW.skip fun aa ha => hK45 _ _ _ ?_ aa ha
                    refine CW.seq fun K47 hK47 => ?_
                    refine CW.seq fun K48 hK48 => ?_
                    refine CW.region [0, 1, 2, 3, 4, 5, 6, 7, 8, 9, 10, 11, 12, 13] rfl ?_
                    refine LW.ex rfl rfl rfl rfl (Ex.fieldO 3 Try.underlying49 rfl rfl ti47 rfl) hS.rd ?_
                    refine LW.ex rfl rfl rfl rfl (Ex.load1 ti47 rfl rfl (by first | exact obT rfl | exact Rd.imm ‹_› | exact slT ‹_›)) hS.rd ?_
                    refine LW.ex rfl rfl rfl rfl (Ex.neq rfl rfl rfl) hS.rd ?_
                    refine LW.splitB (fun h17_2 => ?_) (fun h17_2 => ?_)
                    · have h17_2 := of_decide_eq_true h17_2
                      refine LW.ex rfl rfl rfl rfl (Ex.move rfl) hS.rd ?_
                      refine LW.skip rfl rfl rfl rfl ?_
                      refine LW.skip rfl rfl rfl rfl ?_
                      refine LW.ex rfl rfl rfl rfl (by first | exact Ex.pick_yes rfl rfl | exact Ex.pick_no rfl rfl) hS.rd ?_
                      refine LW.ex rfl rfl rfl rfl (Ex.move rfl) hS.rd ?_
                      refine LW.skip rfl rfl rfl rfl ?_
                      refine LW.skip rfl rfl rfl rfl ?_
                      refine LW.skip rfl rfl rfl rfl ?_
                      refine LW.skip rfl rfl rfl rfl ?_
                      refine LW.skip rfl rfl rfl rfl ?_
                      refine LW.ex rfl rfl rfl rfl (by first | exact Ex.pick_yes rfl rfl | exact Ex.pick_no rfl rfl) hS.rd ?_
                      refine LW.nil fun aa ha => hK48 _ _ _ ?_ aa ha
                      refine CW.yes rfl ?_
                      refine CW.seq fun K49 hK49 => ?_
                      refine CW.region [0, 1] rfl ?_
                      refine LW.ex rfl rfl rfl rfl (Ex.move rfl) hS.rd ?_
                      refine LW.ex rfl rfl rfl rfl (Ex.assign rfl) hS.rd ?_
                      refine LW.nil fun aa ha => hK49 _ _ _ ?_ aa ha
                      refine CW.ret fun aa ha => ?_
                      refine ret_one ha Try.results3 rfl ?_
                      exact hS.retS
                    · have h17_2 := of_decide_eq_false h17_2
                      refine LW.ex rfl rfl rfl rfl (Ex.move rfl) hS.rd ?_
                      refine LW.ex rfl rfl rfl rfl (Ex.move rfl) hS.rd ?_
                      refine LW.ex rfl rfl rfl rfl (Ex.not rfl rfl) hS.rd ?_
                      refine LW.ex rfl rfl rfl rfl (by first | exact Ex.pick_yes rfl rfl | exact Ex.pick_no rfl rfl) hS.rd ?_
                      refine LW.ex rfl rfl rfl rfl (Ex.move rfl) hS.rd ?_
                      refine LW.skip rfl rfl rfl rfl ?_
                      refine LW.skip rfl rfl rfl rfl ?_
                      refine LW.skip rfl rfl rfl rfl ?_
                      refine LW.skip rfl rfl rfl rfl ?_
                      refine LW.skip rfl rfl rfl rfl ?_
                      refine LW.ex rfl rfl rfl rfl (by first | exact Ex.pick_yes rfl rfl | exact Ex.pick_no rfl rfl) hS.rd ?_
                      refine LW.nil fun aa ha => hK48 _ _ _ ?_ aa ha
                      refine CW.yes rfl ?_
                      refine CW.seq fun K50 hK50 => ?_
                      refine CW.region [0, 1] rfl ?_
                      refine LW.ex rfl rfl rfl rfl (Ex.move rfl) hS.rd ?_
                      refine LW.ex rfl rfl rfl rfl (Ex.assign rfl) hS.rd ?_
                      refine LW.nil fun aa ha => hK50 _ _ _ ?_ aa ha
                      refine CW.ret fun aa ha => ?_
                      refine ret_one ha Try.results3 rfl ?_
                      exact hS.retS
          · rw [sameB_self] at h10_2; cases h10_2
        have hS := hS.drew
        refine CW.draw 10 (.ex 0 <| .ex 1 <| .ex 2 <| .ex 4 <| .ex 5 <| .ex 6 <| .three 3 (.three 7 (.two 8 (.one 9 <| .done) 9 (.one 8 <| .done)) 8 (.two 7 (.one 9 <| .done) 9 (.one 7 <| .done)) 9 (.two 7 (.one 8 <| .done) 8 (.one 7 <| .done))) 8 (.two 3 (.two 7 (.one 9 <| .done) 9 (.one 7 <| .done)) 9 (.one 3 <| .one 7 <| .done)) 9 (.two 3 (.two 7 (.one 8 <| .done) 8 (.one 7 <| .done)) 8 (.one 3 <| .one 7 <| .done))) [10, 11] (Rd _ _) mixed (by kernel_rfl) rfl rfl hS.rd ?_
        refine PW.ex rfl rfl rfl rfl (Ex.load2c ti38 rfl rfl (by first | exact obT rfl | exact Rd.imm ‹_› | exact slT ‹_›) (by first | exact obT rfl | exact Rd.imm ‹_› | exact slT ‹_›)) ?_
        refine PW.ex rfl rfl rfl rfl (Ex.load4c ti34 rfl rfl (by first | exact obT rfl | exact Rd.imm ‹_› | exact slT ‹_›) (by first | exact obT rfl | exact Rd.imm ‹_› | exact slT ‹_›) (by first | exact obT rfl | exact Rd.imm ‹_› | exact slT ‹_›) (by first | exact obT rfl | exact Rd.imm ‹_› | exact slT ‹_›)) ?_
        refine PW.ex rfl rfl rfl rfl (Ex.move rfl) ?_
        refine PW.ex rfl rfl rfl rfl (Ex.load2c ti38 rfl rfl (by first | exact obT rfl | exact Rd.imm ‹_› | exact slT ‹_›) (by first | exact obT rfl | exact Rd.imm ‹_› | exact slT ‹_›)) ?_
        refine PW.ex rfl rfl rfl rfl (Ex.load4c ti34 rfl rfl (by first | exact obT rfl | exact Rd.imm ‹_› | exact slT ‹_›) (by first | exact obT rfl | exact Rd.imm ‹_› | exact slT ‹_›) (by first | exact obT rfl | exact Rd.imm ‹_› | exact slT ‹_›) (by first | exact obT rfl | exact Rd.imm ‹_› | exact slT ‹_›)) ?_
        refine PW.ex rfl rfl rfl rfl (Ex.move rfl) ?_
        refine PW.three rfl rfl rfl rfl rfl rfl rfl rfl rfl rfl rfl rfl (Hv.callV hS rfl rfl rfl cb13 (lbuild_c X m pv hmw hT2 (by omega) _ _ _ _ _ _ _ _ _ _ hS.imm hx2 hm0 hm1 hm2)) (fun _ _ ⟨_, _, hm, h⟩ => Rd.le hm h.rd) (Hv.alloc ti49 hS) (fun _ _ ⟨_, _, _, h⟩ => h.rd.tail) (Hv.alloc ti49 hS) (fun _ _ ⟨_, _, _, h⟩ => h.rd.tail) (fun v w77 ⟨μ77, hv77, hm77, hS⟩ => ?gA51) (fun v w13 ⟨b13, hv, hb13, hS⟩ => ?gB51) (fun v w14 ⟨b14, hv, hb14, hS⟩ => ?gC51)
        case gA51 =>
          skip
          obtain ⟨p0, q0, p1, q1, hv, hs0, hs1⟩ := hv77
          subst hv
          have hx2 := hx2.mono hm77
          have hm0 := hm0.mono hm77
          have hm1 := hm1.mono hm77
          have hm2 := hm2.mono hm77
          have hsW := hsW.mono hm77
          refine PW.three rfl rfl rfl rfl rfl rfl rfl rfl rfl rfl rfl rfl (Hv.callV hS rfl rfl rfl cb14 (rbuild_c X m pv hmw hmN (by omega) _ _ _ _ _ _ _ _ _ _ hS.imm hx2 hm0 hm1 hm2)) (fun _ _ ⟨_, _, hm, h⟩ => Rd.le hm77 (Rd.le hm h.rd)) (Hv.alloc ti49 hS) (fun _ _ ⟨_, _, _, h⟩ => Rd.le hm77 (h.rd.tail)) (Hv.alloc ti49 hS) (fun _ _ ⟨_, _, _, h⟩ => Rd.le hm77 (h.rd.tail)) (fun v w81 ⟨μ81, hv81, hm81, hS⟩ => ?gA52) (fun v w13 ⟨b13, hv, hb13, hS⟩ => ?gB52) (fun v w14 ⟨b14, hv, hb14, hS⟩ => ?gC52)
          case gA52 =>
            skip
            obtain ⟨p2, q2, p3, q3, hv, hs2, hs3⟩ := hv81
            subst hv
            have hx2 := hx2.mono hm81
            have hm0 := hm0.mono hm81
            have hm1 := hm1.mono hm81
            have hm2 := hm2.mono hm81
            have hsW := hsW.mono hm81
            have hs0 := hs0.mono hm81
            have hs1 := hs1.mono hm81
            refine PW.two rfl rfl rfl rfl rfl rfl rfl rfl (Hv.alloc ti49 hS) (fun _ _ ⟨_, _, _, h⟩ => Rd.le hm77 (Rd.le hm81 (h.rd.tail))) (Hv.alloc ti49 hS) (fun _ _ ⟨_, _, _, h⟩ => Rd.le hm77 (Rd.le hm81 (h.rd.tail))) (fun v w13 ⟨b13, hv, hb13, hS⟩ => ?gA53) (fun v w14 ⟨b14, hv, hb14, hS⟩ => ?gB53)
            case gA53 =>
              skip
              subst hv
              refine PW.hv rfl rfl rfl rfl (Hv.alloc ti49 hS) (fun _ _ ⟨_, _, _, h⟩ => Rd.le hm77 (Rd.le hm81 (h.rd.tail.tail))) fun v w14 ⟨b14, hv, hb14, hS⟩ => ?_
              subst hv
              refine PW.nil ?_
              first | (have hS := (hS : St w _ _ (Own.obj b14 _ _ :: _))) | (have hS := hS.swap)
              refine LW.hu rfl rfl rfl (Hv.storeN (k := 1) ti49 hS rfl rfl rfl rfl (by simp [Value.oneCell'])) fun _ w_10 hS => ?_
              dsimp only [List.set] at hS
              refine LW.hu rfl rfl rfl (Hv.storeN (k := 0) ti49 hS rfl rfl rfl rfl (by simp [Value.oneCell'])) fun _ w_11 hS => ?_
              dsimp only [List.set] at hS
              refine LW.nil fun aa ha => ?_
              refine hJr7 _ (b13) (b14) (p0) (p1) (p2) (p3) (q0) (q1) (q2) (q3) (μ81) hS (hx2) (hm0) (hm1) (hm2) (hsW) (hs0) (hs1) (hs2) (hs3) aa (ha.sub ⟨rfl, rfl, rfl, rfl, rfl, rfl, rfl, rfl, rfl, trivial⟩)
            case gB53 =>
              skip
              subst hv
              refine PW.hv rfl rfl rfl rfl (Hv.alloc ti49 hS) (fun _ _ ⟨_, _, _, h⟩ => Rd.le hm77 (Rd.le hm81 (h.rd.tail.tail))) fun v w13 ⟨b13, hv, hb13, hS⟩ => ?_
              subst hv
              refine PW.nil ?_
              first | (have hS := (hS : St w _ _ (Own.obj b14 _ _ :: _))) | (have hS := hS.swap)
              refine LW.hu rfl rfl rfl (Hv.storeN (k := 1) ti49 hS rfl rfl rfl rfl (by simp [Value.oneCell'])) fun _ w_10 hS => ?_
              dsimp only [List.set] at hS
              refine LW.hu rfl rfl rfl (Hv.storeN (k := 0) ti49 hS rfl rfl rfl rfl (by simp [Value.oneCell'])) fun _ w_11 hS => ?_
              dsimp only [List.set] at hS
              refine LW.nil fun aa ha => ?_
              refine hJr7 _ (b13) (b14) (p0) (p1) (p2) (p3) (q0) (q1) (q2) (q3) (μ81) hS (hx2) (hm0) (hm1) (hm2) (hsW) (hs0) (hs1) (hs2) (hs3) aa (ha.sub ⟨rfl, rfl, rfl, rfl, rfl, rfl, rfl, rfl, rfl, trivial⟩)
          case gB52 =>
            skip
            subst hv
            refine PW.two rfl rfl rfl rfl rfl rfl rfl rfl (Hv.callV hS rfl rfl rfl cb14 (rbuild_c X m pv hmw hmN (by omega) _ _ _ _ _ _ _ _ _ _ hS.imm hx2 hm0 hm1 hm2)) (fun _ _ ⟨_, _, hm, h⟩ => Rd.le hm77 (Rd.le hm h.rd.tail)) (Hv.alloc ti49 hS) (fun _ _ ⟨_, _, _, h⟩ => Rd.le hm77 (h.rd.tail.tail)) (fun v w81 ⟨μ81, hv81, hm81, hS⟩ => ?gA54) (fun v w14 ⟨b14, hv, hb14, hS⟩ => ?gB54)
            case gA54 =>
              skip
              obtain ⟨p2, q2, p3, q3, hv, hs2, hs3⟩ := hv81
              subst hv
              have hx2 := hx2.mono hm81
              have hm0 := hm0.mono hm81
              have hm1 := hm1.mono hm81
              have hm2 := hm2.mono hm81
              have hsW := hsW.mono hm81
              have hs0 := hs0.mono hm81
              have hs1 := hs1.mono hm81
              refine PW.hv rfl rfl rfl rfl (Hv.alloc ti49 hS) (fun _ _ ⟨_, _, _, h⟩ => Rd.le hm77 (Rd.le hm81 (h.rd.tail.tail))) fun v w14 ⟨b14, hv, hb14, hS⟩ => ?_
              subst hv
              refine PW.nil ?_
              first | (have hS := (hS : St w _ _ (Own.obj b14 _ _ :: _))) | (have hS := hS.swap)
              refine LW.hu rfl rfl rfl (Hv.storeN (k := 1) ti49 hS rfl rfl rfl rfl (by simp [Value.oneCell'])) fun _ w_10 hS => ?_
              dsimp only [List.set] at hS
              refine LW.hu rfl rfl rfl (Hv.storeN (k := 0) ti49 hS rfl rfl rfl rfl (by simp [Value.oneCell'])) fun _ w_11 hS => ?_
              dsimp only [List.set] at hS
              refine LW.nil fun aa ha => ?_
              refine hJr7 _ (b13) (b14) (p0) (p1) (p2) (p3) (q0) (q1) (q2) (q3) (μ81) hS (hx2) (hm0) (hm1) (hm2) (hsW) (hs0) (hs1) (hs2) (hs3) aa (ha.sub ⟨rfl, rfl, rfl, rfl, rfl, rfl, rfl, rfl, rfl, trivial⟩)
            case gB54 =>
              skip
              subst hv
              refine PW.hv rfl rfl rfl rfl (Hv.callV hS rfl rfl rfl cb14 (rbuild_c X m pv hmw hmN (by omega) _ _ _ _ _ _ _ _ _ _ hS.imm hx2 hm0 hm1 hm2)) (fun _ _ ⟨_, _, hm, h⟩ => Rd.le hm77 (Rd.le hm h.rd.tail.tail)) fun v w81 ⟨μ81, hv81, hm81, hS⟩ => ?_
              obtain ⟨p2, q2, p3, q3, hv, hs2, hs3⟩ := hv81
              subst hv
              have hx2 := hx2.mono hm81
              have hm0 := hm0.mono hm81
              have hm1 := hm1.mono hm81
              have hm2 := hm2.mono hm81
              have hsW := hsW.mono hm81
              have hs0 := hs0.mono hm81
              have hs1 := hs1.mono hm81
              refine PW.nil ?_
              first | (have hS := (hS : St w _ _ (Own.obj b14 _ _ :: _))) | (have hS := hS.swap)
              refine LW.hu rfl rfl rfl (Hv.storeN (k := 1) ti49 hS rfl rfl rfl rfl (by simp [Value.oneCell'])) fun _ w_10 hS => ?_
              dsimp only [List.set] at hS
              refine LW.hu rfl rfl rfl (Hv.storeN (k := 0) ti49 hS rfl rfl rfl rfl (by simp [Value.oneCell'])) fun _ w_11 hS => ?_
              dsimp only [List.set] at hS
              refine LW.nil fun aa ha => ?_
              refine hJr7 _ (b13) (b14) (p0) (p1) (p2) (p3) (q0) (q1) (q2) (q3) (μ81) hS (hx2) (hm0) (hm1) (hm2) (hsW) (hs0) (hs1) (hs2) (hs3) aa (ha.sub ⟨rfl, rfl, rfl, rfl, rfl, rfl, rfl, rfl, rfl, trivial⟩)
          case gC52 =>
            skip
            subst hv
            refine PW.two rfl rfl rfl rfl rfl rfl rfl rfl (Hv.callV hS rfl rfl rfl cb14 (rbuild_c X m pv hmw hmN (by omega) _ _ _ _ _ _ _ _ _ _ hS.imm hx2 hm0 hm1 hm2)) (fun _ _ ⟨_, _, hm, h⟩ => Rd.le hm77 (Rd.le hm h.rd.tail)) (Hv.alloc ti49 hS) (fun _ _ ⟨_, _, _, h⟩ => Rd.le hm77 (h.rd.tail.tail)) (fun v w81 ⟨μ81, hv81, hm81, hS⟩ => ?gA55) (fun v w13 ⟨b13, hv, hb13, hS⟩ => ?gB55)
            case gA55 =>
              skip
              obtain ⟨p2, q2, p3, q3, hv, hs2, hs3⟩ := hv81
              subst hv
              have hx2 := hx2.mono hm81
              have hm0 := hm0.mono hm81
              have hm1 := hm1.mono hm81
              have hm2 := hm2.mono hm81
              have hsW := hsW.mono hm81
              have hs0 := hs0.mono hm81
              have hs1 := hs1.mono hm81
              refine PW.hv rfl rfl rfl rfl (Hv.alloc ti49 hS) (fun _ _ ⟨_, _, _, h⟩ => Rd.le hm77 (Rd.le hm81 (h.rd.tail.tail))) fun v w13 ⟨b13, hv, hb13, hS⟩ => ?_
              subst hv
              refine PW.nil ?_
              first | (have hS := (hS : St w _ _ (Own.obj b14 _ _ :: _))) | (have hS := hS.swap)
              refine LW.hu rfl rfl rfl (Hv.storeN (k := 1) ti49 hS rfl rfl rfl rfl (by simp [Value.oneCell'])) fun _ w_10 hS => ?_
              dsimp only [List.set] at hS
              refine LW.hu rfl rfl rfl (Hv.storeN (k := 0) ti49 hS rfl rfl rfl rfl (by simp [Value.oneCell'])) fun _ w_11 hS => ?_
              dsimp only [List.set] at hS
              refine LW.nil fun aa ha => ?_
              refine hJr7 _ (b13) (b14) (p0) (p1) (p2) (p3) (q0) (q1) (q2) (q3) (μ81) hS (hx2) (hm0) (hm1) (hm2) (hsW) (hs0) (hs1) (hs2) (hs3) aa (ha.sub ⟨rfl, rfl, rfl, rfl, rfl, rfl, rfl, rfl, rfl, trivial⟩)
            case gB55 =>
              skip
              subst hv
              refine PW.hv rfl rfl rfl rfl (Hv.callV hS rfl rfl rfl cb14 (rbuild_c X m pv hmw hmN (by omega) _ _ _ _ _ _ _ _ _ _ hS.imm hx2 hm0 hm1 hm2)) (fun _ _ ⟨_, _, hm, h⟩ => Rd.le hm77 (Rd.le hm h.rd.tail.tail)) fun v w81 ⟨μ81, hv81, hm81, hS⟩ => ?_
              obtain ⟨p2, q2, p3, q3, hv, hs2, hs3⟩ := hv81
              subst hv
              have hx2 := hx2.mono hm81
              have hm0 := hm0.mono hm81
              have hm1 := hm1.mono hm81
              have hm2 := hm2.mono hm81
              have hsW := hsW.mono hm81
              have hs0 := hs0.mono hm81
              have hs1 := hs1.mono hm81
              refine PW.nil ?_
              first | (have hS := (hS : St w _ _ (Own.obj b14 _ _ :: _))) | (have hS := hS.swap)
              refine LW.hu rfl rfl rfl (Hv.storeN (k := 1) ti49 hS rfl rfl rfl rfl (by simp [Value.oneCell'])) fun _ w_10 hS => ?_
              dsimp only [List.set] at hS
              refine LW.hu rfl rfl rfl (Hv.storeN (k := 0) ti49 hS rfl rfl rfl rfl (by simp [Value.oneCell'])) fun _ w_11 hS => ?_
              dsimp only [List.set] at hS
              refine LW.nil fun aa ha => ?_
              refine hJr7 _ (b13) (b14) (p0) (p1) (p2) (p3) (q0) (q1) (q2) (q3) (μ81) hS (hx2) (hm0) (hm1) (hm2) (hsW) (hs0) (hs1) (hs2) (hs3) aa (ha.sub ⟨rfl, rfl, rfl, rfl, rfl, rfl, rfl, rfl, rfl, trivial⟩)
        case gB51 =>
          skip
          subst hv
          refine PW.two rfl rfl rfl rfl rfl rfl rfl rfl (Hv.callV hS rfl rfl rfl cb13 (lbuild_c X m pv hmw hT2 (by omega) _ _ _ _ _ _ _ _ _ _ hS.imm hx2 hm0 hm1 hm2)) (fun _ _ ⟨_, _, hm, h⟩ => Rd.le hm h.rd.tail) (Hv.alloc ti49 hS) (fun _ _ ⟨_, _, _, h⟩ => h.rd.tail.tail) (fun v w77 ⟨μ77, hv77, hm77, hS⟩ => ?gA56) (fun v w14 ⟨b14, hv, hb14, hS⟩ => ?gB56)
          case gA56 =>
            skip
            obtain ⟨p0, q0, p1, q1, hv, hs0, hs1⟩ := hv77
            subst hv
            have hx2 := hx2.mono hm77
            have hm0 := hm0.mono hm77
            have hm1 := hm1.mono hm77
            have hm2 := hm2.mono hm77
            have hsW := hsW.mono hm77
            refine PW.two rfl rfl rfl rfl rfl rfl rfl rfl (Hv.callV hS rfl rfl rfl cb14 (rbuild_c X m pv hmw hmN (by omega) _ _ _ _ _ _ _ _ _ _ hS.imm hx2 hm0 hm1 hm2)) (fun _ _ ⟨_, _, hm, h⟩ => Rd.le hm77 (Rd.le hm h.rd.tail)) (Hv.alloc ti49 hS) (fun _ _ ⟨_, _, _, h⟩ => Rd.le hm77 (h.rd.tail.tail)) (fun v w81 ⟨μ81, hv81, hm81, hS⟩ => ?gA57) (fun v w14 ⟨b14, hv, hb14, hS⟩ => ?gB57)
            case gA57 =>
              skip
              obtain ⟨p2, q2, p3, q3, hv, hs2, hs3⟩ := hv81
              subst hv
              have hx2 := hx2.mono hm81
              have hm0 := hm0.mono hm81
              have hm1 := hm1.mono hm81
              have hm2 := hm2.mono hm81
              have hsW := hsW.mono hm81
              have hs0 := hs0.mono hm81
              have hs1 := hs1.mono hm81
              refine PW.hv rfl rfl rfl rfl (Hv.alloc ti49 hS) (fun _ _ ⟨_, _, _, h⟩ => Rd.le hm77 (Rd.le hm81 (h.rd.tail.tail))) fun v w14 ⟨b14, hv, hb14, hS⟩ => ?_
              subst hv
              refine PW.nil ?_
              first | (have hS := (hS : St w _ _ (Own.obj b14 _ _ :: _))) | (have hS := hS.swap)
              refine LW.hu rfl rfl rfl (Hv.storeN (k := 1) ti49 hS rfl rfl rfl rfl (by simp [Value.oneCell'])) fun _ w_10 hS => ?_
              dsimp only [List.set] at hS
              refine LW.hu rfl rfl rfl (Hv.storeN (k := 0) ti49 hS rfl rfl rfl rfl (by simp [Value.oneCell'])) fun _ w_11 hS => ?_
              dsimp only [List.set] at hS
              refine LW.nil fun aa ha => ?_
              refine hJr7 _ (b13) (b14) (p0) (p1) (p2) (p3) (q0) (q1) (q2) (q3) (μ81) hS (hx2) (hm0) (hm1) (hm2) (hsW) (hs0) (hs1) (hs2) (hs3) aa (ha.sub ⟨rfl, rfl, rfl, rfl, rfl, rfl, rfl, rfl, rfl, trivial⟩)
            case gB57 =>
              skip
              subst hv
              refine PW.hv rfl rfl rfl rfl (Hv.callV hS rfl rfl rfl cb14 (rbuild_c X m pv hmw hmN (by omega) _ _ _ _ _ _ _ _ _ _ hS.imm hx2 hm0 hm1 hm2)) (fun _ _ ⟨_, _, hm, h⟩ => Rd.le hm77 (Rd.le hm h.rd.tail.tail)) fun v w81 ⟨μ81, hv81, hm81, hS⟩ => ?_
              obtain ⟨p2, q2, p3, q3, hv, hs2, hs3⟩ := hv81
              subst hv
              have hx2 := hx2.mono hm81
              have hm0 := hm0.mono hm81
              have hm1 := hm1.mono hm81
              have hm2 := hm2.mono hm81
              have hsW := hsW.mono hm81
              have hs0 := hs0.mono hm81
              have hs1 := hs1.mono hm81
              refine PW.nil ?_
              first | (have hS := (hS : St w _ _ (Own.obj b14 _ _ :: _))) | (have hS := hS.swap)
              refine LW.hu rfl rfl rfl (Hv.storeN (k := 1) ti49 hS rfl rfl rfl rfl (by simp [Value.oneCell'])) fun _ w_10 hS => ?_
              dsimp only [List.set] at hS
              refine LW.hu rfl rfl rfl (Hv.storeN (k := 0) ti49 hS rfl rfl rfl rfl (by simp [Value.oneCell'])) fun _ w_11 hS => ?_
              dsimp only [List.set] at hS
              refine LW.nil fun aa ha => ?_
              refine hJr7 _ (b13) (b14) (p0) (p1) (p2) (p3) (q0) (q1) (q2) (q3) (μ81) hS (hx2) (hm0) (hm1) (hm2) (hsW) (hs0) (hs1) (hs2) (hs3) aa (ha.sub ⟨rfl, rfl, rfl, rfl, rfl, rfl, rfl, rfl, rfl, trivial⟩)
          case gB56 =>
            skip
            subst hv
            refine PW.hv rfl rfl rfl rfl (Hv.callV hS rfl rfl rfl cb13 (lbuild_c X m pv hmw hT2 (by omega) _ _ _ _ _ _ _ _ _ _ hS.imm hx2 hm0 hm1 hm2)) (fun _ _ ⟨_, _, hm, h⟩ => Rd.le hm h.rd.tail.tail) fun v w77 ⟨μ77, hv77, hm77, hS⟩ => ?_
            obtain ⟨p0, q0, p1, q1, hv, hs0, hs1⟩ := hv77
            subst hv
            have hx2 := hx2.mono hm77
            have hm0 := hm0.mono hm77
            have hm1 := hm1.mono hm77
            have hm2 := hm2.mono hm77
            have hsW := hsW.mono hm77
            refine PW.hv rfl rfl rfl rfl (Hv.callV hS rfl rfl rfl cb14 (rbuild_c X m pv hmw hmN (by omega) _ _ _ _ _ _ _ _ _ _ hS.imm hx2 hm0 hm1 hm2)) (fun _ _ ⟨_, _, hm, h⟩ => Rd.le hm77 (Rd.le hm h.rd.tail.tail)) fun v w81 ⟨μ81, hv81, hm81, hS⟩ => ?_
            obtain ⟨p2, q2, p3, q3, hv, hs2, hs3⟩ := hv81
            subst hv
            have hx2 := hx2.mono hm81
            have hm0 := hm0.mono hm81
            have hm1 := hm1.mono hm81
            have hm2 := hm2.mono hm81
            have hsW := hsW.mono hm81
            have hs0 := hs0.mono hm81
            have hs1 := hs1.mono hm81
            refine PW.nil ?_
            first | (have hS := (hS : St w _ _ (Own.obj b14 _ _ :: _))) | (have hS := hS.swap)
            refine LW.hu rfl rfl rfl (Hv.storeN (k := 1) ti49 hS rfl rfl rfl rfl (by simp [Value.oneCell'])) fun _ w_10 hS => ?_
            dsimp only [List.set] at hS
            refine LW.hu rfl rfl rfl (Hv.storeN (k := 0) ti49 hS rfl rfl rfl rfl (by simp [Value.oneCell'])) fun _ w_11 hS => ?_
            dsimp only [List.set] at hS
            refine LW.nil fun aa ha => ?_
            refine hJr7 _ (b13) (b14) (p0) (p1) (p2) (p3) (q0) (q1) (q2) (q3) (μ81) hS (hx2) (hm0) (hm1) (hm2) (hsW) (hs0) (hs1) (hs2) (hs3) aa (ha.sub ⟨rfl, rfl, rfl, rfl, rfl, rfl, rfl, rfl, rfl, trivial⟩)
        case gC51 =>
          skip
          subst hv
          refine PW.two rfl rfl rfl rfl rfl rfl rfl rfl (Hv.callV hS rfl rfl rfl cb13 (lbuild_c X m pv hmw hT2 (by omega) _ _ _ _ _ _ _ _ _ _ hS.imm hx2 hm0 hm1 hm2)) (fun _ _ ⟨_, _, hm, h⟩ => Rd.le hm h.rd.tail) (Hv.alloc ti49 hS) (fun _ _ ⟨_, _, _, h⟩ => h.rd.tail.tail) (fun v w77 ⟨μ77, hv77, hm77, hS⟩ => ?gA58) (fun v w13 ⟨b13, hv, hb13, hS⟩ => ?gB58)
          case gA58 =>
            skip
            obtain ⟨p0, q0, p1, q1, hv, hs0, hs1⟩ := hv77
            subst hv
            have hx2 := hx2.mono hm77
            have hm0 := hm0.mono hm77
            have hm1 := hm1.mono hm77
            have hm2 := hm2.mono hm77
            have hsW := hsW.mono hm77
            refine PW.two rfl rfl rfl rfl rfl rfl rfl rfl (Hv.callV hS rfl rfl rfl cb14 (rbuild_c X m pv hmw hmN (by omega) _ _ _ _ _ _ _ _ _ _ hS.imm hx2 hm0 hm1 hm2)) (fun _ _ ⟨_, _, hm, h⟩ => Rd.le hm77 (Rd.le hm h.rd.tail)) (Hv.alloc ti49 hS) (fun _ _ ⟨_, _, _, h⟩ => Rd.le hm77 (h.rd.tail.tail)) (fun v w81 ⟨μ81, hv81, hm81, hS⟩ => ?gA59) (fun v w13 ⟨b13, hv, hb13, hS⟩ => ?gB59)
            case gA59 =>
              skip
              obtain ⟨p2, q2, p3, q3, hv, hs2, hs3⟩ := hv81
              subst hv
              have hx2 := hx2.mono hm81
              have hm0 := hm0.mono hm81
              have hm1 := hm1.mono hm81
              have hm2 := hm2.mono hm81
              have hsW := hsW.mono hm81
              have hs0 := hs0.mono hm81
              have hs1 := hs1.mono hm81
              refine PW.hv rfl rfl rfl rfl (Hv.alloc ti49 hS) (fun _ _ ⟨_, _, _, h⟩ => Rd.le hm77 (Rd.le hm81 (h.rd.tail.tail))) fun v w13 ⟨b13, hv, hb13, hS⟩ => ?_
              subst hv
              refine PW.nil ?_
              first | (have hS := (hS : St w _ _ (Own.obj b14 _ _ :: _))) | (have hS := hS.swap)
              refine LW.hu rfl rfl rfl (Hv.storeN (k := 1) ti49 hS rfl rfl rfl rfl (by simp [Value.oneCell'])) fun _ w_10 hS => ?_
              dsimp only [List.set] at hS
              refine LW.hu rfl rfl rfl (Hv.storeN (k := 0) ti49 hS rfl rfl rfl rfl (by simp [Value.oneCell'])) fun _ w_11 hS => ?_
              dsimp only [List.set] at hS
              refine LW.nil fun aa ha => ?_
              refine hJr7 _ (b13) (b14) (p0) (p1) (p2) (p3) (q0) (q1) (q2) (q3) (μ81) hS (hx2) (hm0) (hm1) (hm2) (hsW) (hs0) (hs1) (hs2) (hs3) aa (ha.sub ⟨rfl, rfl, rfl, rfl, rfl, rfl, rfl, rfl, rfl, trivial⟩)
            case gB59 =>
              skip
              subst hv
              refine PW.hv rfl rfl rfl rfl (Hv.callV hS rfl rfl rfl cb14 (rbuild_c X m pv hmw hmN (by omega) _ _ _ _ _ _ _ _ _ _ hS.imm hx2 hm0 hm1 hm2)) (fun _ _ ⟨_, _, hm, h⟩ => Rd.le hm77 (Rd.le hm h.rd.tail.tail)) fun v w81 ⟨μ81, hv81, hm81, hS⟩ => ?_
              obtain ⟨p2, q2, p3, q3, hv, hs2, hs3⟩ := hv81
              subst hv
              have hx2 := hx2.mono hm81
              have hm0 := hm0.mono hm81
              have hm1 := hm1.mono hm81
              have hm2 := hm2.mono hm81
              have hsW := hsW.mono hm81
              have hs0 := hs0.mono hm81
              have hs1 := hs1.mono hm81
              refine PW.nil ?_
              first | (have hS := (hS : St w _ _ (Own.obj b14 _ _ :: _))) | (have hS := hS.swap)
              refine LW.hu rfl rfl rfl (Hv.storeN (k := 1) ti49 hS rfl rfl rfl rfl (by simp [Value.oneCell'])) fun _ w_10 hS => ?_
              dsimp only [List.set] at hS
              refine LW.hu rfl rfl rfl (Hv.storeN (k := 0) ti49 hS rfl rfl rfl rfl (by simp [Value.oneCell'])) fun _ w_11 hS => ?_
              dsimp only [List.set] at hS
              refine LW.nil fun aa ha => ?_
              refine hJr7 _ (b13) (b14) (p0) (p1) (p2) (p3) (q0) (q1) (q2) (q3) (μ81) hS (hx2) (hm0) (hm1) (hm2) (hsW) (hs0) (hs1) (hs2) (hs3) aa (ha.sub ⟨rfl, rfl, rfl, rfl, rfl, rfl, rfl, rfl, rfl, trivial⟩)
          case gB58 =>
            skip
            subst hv
            refine PW.hv rfl rfl rfl rfl (Hv.callV hS rfl rfl rfl cb13 (lbuild_c X m pv hmw hT2 (by omega) _ _ _ _ _ _ _ _ _ _ hS.imm hx2 hm0 hm1 hm2)) (fun _ _ ⟨_, _, hm, h⟩ => Rd.le hm h.rd.tail.tail) fun v w77 ⟨μ77, hv77, hm77, hS⟩ => ?_
            obtain ⟨p0, q0, p1, q1, hv, hs0, hs1⟩ := hv77
            subst hv
            have hx2 := hx2.mono hm77
            have hm0 := hm0.mono hm77
            have hm1 := hm1.mono hm77
            have hm2 := hm2.mono hm77
            have hsW := hsW.mono hm77
            refine PW.hv rfl rfl rfl rfl (Hv.callV hS rfl rfl rfl cb14 (rbuild_c X m pv hmw hmN (by omega) _ _ _ _ _ _ _ _ _ _ hS.imm hx2 hm0 hm1 hm2)) (fun _ _ ⟨_, _, hm, h⟩ => Rd.le hm77 (Rd.le hm h.rd.tail.tail)) fun v w81 ⟨μ81, hv81, hm81, hS⟩ => ?_
            obtain ⟨p2, q2, p3, q3, hv, hs2, hs3⟩ := hv81
            subst hv
            have hx2 := hx2.mono hm81
            have hm0 := hm0.mono hm81
            have hm1 := hm1.mono hm81
            have hm2 := hm2.mono hm81
            have hsW := hsW.mono hm81
            have hs0 := hs0.mono hm81
            have hs1 := hs1.mono hm81
            refine PW.nil ?_
            first | (have hS := (hS : St w _ _ (Own.obj b14 _ _ :: _))) | (have hS := hS.swap)
            refine LW.hu rfl rfl rfl (Hv.storeN (k := 1) ti49 hS rfl rfl rfl rfl (by simp [Value.oneCell'])) fun _ w_10 hS => ?_
            dsimp only [List.set] at hS
            refine LW.hu rfl rfl rfl (Hv.storeN (k := 0) ti49 hS rfl rfl rfl rfl (by simp [Value.oneCell'])) fun _ w_11 hS => ?_
            dsimp only [List.set] at hS
            refine LW.nil fun aa ha => ?_
            refine hJr7 _ (b13) (b14) (p0) (p1) (p2) (p3) (q0) (q1) (q2) (q3) (μ81) hS (hx2) (hm0) (hm1) (hm2) (hsW) (hs0) (hs1) (hs2) (hs3) aa (ha.sub ⟨rfl, rfl, rfl, rfl, rfl, rfl, rfl, rfl, rfl, trivial⟩)
      refine CW.seq fun K60 hK60 => ?_
      refine CW.region [0, 1, 2, 3, 4, 5, 6, 7, 8, 9] rfl ?_
      refine LW.ex rfl rfl rfl rfl (Ex.indexArr (j := 2) Try.underlying28 ti5 rfl rfl rfl (by omega)) hS.rd ?_
      refine LW.ex rfl rfl rfl rfl (Ex.load1 ti5 rfl rfl (by first | exact obT rfl | exact Rd.imm ‹_› | exact slT ‹_›)) hS.rd ?_
      refine LW.ex rfl rfl rfl rfl (Ex.rem (r := ((q.c.toNat % 8 : Nat) : Int)) rfl rfl (by omega) (remN' _ 8 rfl)) hS.rd ?_
      refine LW.ex rfl rfl rfl rfl (Ex.eql rfl rfl rfl) hS.rd ?_
      refine LW.splitB (fun h5_3 => ?_) (fun h5_3 => ?_)
      · have h5_3 := of_decide_eq_true h5_3
        refine LW.ex rfl rfl rfl rfl (Ex.move rfl) hS.rd ?_
        refine LW.ex rfl rfl rfl rfl (Ex.fieldO 1 Try.underlying38 rfl rfl ti36 rfl) hS.rd ?_
        refine LW.ex rfl rfl rfl rfl (Ex.load1 ti36 rfl rfl (by first | exact obT rfl | exact Rd.imm ‹_› | exact slT ‹_›)) hS.rd ?_
        refine LW.ex rfl rfl rfl rfl (Ex.lenSl rfl Try.underlying36 rfl) hS.rd ?_
        refine LW.ex rfl rfl rfl rfl (Ex.gtr rfl rfl rfl) hS.rd ?_
        refine LW.splitB (fun h5_8 => ?_) (fun h5_8 => ?_)
        · have h5_8 := of_decide_eq_true h5_8
          refine LW.ex rfl rfl rfl rfl (by first | exact Ex.pick_yes rfl rfl | exact Ex.pick_no rfl rfl) hS.rd ?_
          refine LW.nil fun aa ha => hK60 _ _ _ ?_ aa ha
          refine CW.yes rfl ?_
          have hxl : x.Edges.length - 1 < x.Edges.length := by omega
          obtain ⟨gx, rfl⟩ := hS.sl_some 0 rfl (by omega)
          have hfs := flat_setc edgeL_len x.Edges (x.Edges.length - 1) 2 (.int .i64 m.Words.length) ⟨x.Edges[x.Edges.length - 1].From, x.Edges[x.Edges.length - 1].To, m.Words.length, x.Edges[x.Edges.length - 1].Cost⟩ hxl (by omega) rfl
          have hb11 : 0 + (x.Edges.length - 1) * 4 + 2 < (x.Edges.flatMap edgeL).length := by rw [flatMap_len edgeL_len]; omega
          refine CW.region [0, 1, 2, 3, 4, 5, 6, 7, 8, 9, 10, 11] rfl ?_
          refine LW.ex rfl rfl rfl rfl (Ex.fieldO 1 Try.underlying38 rfl rfl ti36 rfl) hS.rd ?_
          refine LW.ex rfl rfl rfl rfl (Ex.load1 ti36 rfl rfl (by first | exact obT rfl | exact Rd.imm ‹_› | exact slT ‹_›)) hS.rd ?_
          refine LW.ex rfl rfl rfl rfl (Ex.fieldO 1 Try.underlying38 rfl rfl ti36 rfl) hS.rd ?_
          refine LW.ex rfl rfl rfl rfl (Ex.load1 ti36 rfl rfl (by first | exact obT rfl | exact Rd.imm ‹_› | exact slT ‹_›)) hS.rd ?_
          refine LW.ex rfl rfl rfl rfl (Ex.lenSl rfl Try.underlying36 rfl) hS.rd ?_
          refine LW.ex rfl rfl rfl rfl (Ex.sub (r := ((x.Edges.length - 1 : Nat) : Int)) rfl rfl (by rw [w64 (by omega) (by omega)]; omega)) hS.rd ?_
          refine LW.ex rfl rfl rfl rfl (Ex.fieldO 0 Try.underlying34 rfl rfl ti30 rfl) hS.rd ?_
          refine LW.ex rfl rfl rfl rfl (Ex.load1 ti30 rfl rfl (by first | exact obT rfl | exact Rd.imm ‹_› | exact slT ‹_›)) hS.rd ?_
          refine LW.ex rfl rfl rfl rfl (Ex.lenSl rfl Try.underlying30 rfl) hS.rd ?_
          refine LW.ex rfl rfl rfl rfl (Ex.indexSl Try.underlying36 ti43 rfl rfl rfl (by omega)) hS.rd ?_
          refine LW.ex rfl rfl rfl rfl (Ex.fieldO 2 Try.underlying43 rfl rfl ti3 rfl) hS.rd ?_
          refine LW.hu rfl rfl rfl (Hv.storeSl (k := 0) ti3 hS rfl rfl rfl rfl (by first | assumption | (simp; done) | omega | exact Nat.zero_lt_succ _)) fun _ w_11 hS => ?_
          dsimp only [List.set] at hS
          rw [Nat.zero_add, hfs] at hS
          refine LW.nil fun aa ha => ?_
          refine hJ5 _ (x.Edges.set (x.Edges.length - 1) ⟨x.Edges[x.Edges.length - 1].From, x.Edges[x.Edges.length - 1].To, m.Words.length, x.Edges[x.Edges.length - 1].Cost⟩) hS (turned_set x1 _ _ _) aa (ha.sub ⟨rfl, rfl, rfl, rfl, rfl, rfl, rfl, trivial⟩)
        · have h5_8 := of_decide_eq_false h5_8
          refine LW.ex rfl rfl rfl rfl (by first | exact Ex.pick_yes rfl rfl | exact Ex.pick_no rfl rfl) hS.rd ?_
          refine LW.nil fun aa ha => hK60 _ _ _ ?_ aa ha
          refine CW.no rfl ?_
          refine CW.skip fun aa ha => ?_
          refine hJ5 _ (x.Edges) hS (turned_self x1) aa (ha.sub ⟨rfl, rfl, rfl, rfl, rfl, rfl, rfl, trivial⟩)
      · have h5_3 := of_decide_eq_false h5_3
        refine LW.ex rfl rfl rfl rfl (Ex.move rfl) hS.rd ?_
        refine LW.skip rfl rfl rfl rfl ?_
        refine LW.skip rfl rfl rfl rfl ?_
        refine LW.skip rfl rfl rfl rfl ?_
        refine LW.skip rfl rfl rfl rfl ?_
        refine LW.ex rfl rfl rfl rfl (by first | exact Ex.pick_yes rfl rfl | exact Ex.pick_no rfl rfl) hS.rd ?_
        refine LW.nil fun aa ha => hK60 _ _ _ ?_ aa ha
        refine CW.no rfl ?_
        refine CW.skip fun aa ha => ?_
        refine hJ5 _ (x.Edges) hS (turned_self x1) aa (ha.sub ⟨rfl, rfl, rfl, rfl, rfl, rfl, rfl, trivial⟩)
  have hS := hS.drew
  refine CW.drawP 13 [7, 8, 9, 10, 11] (.ex 0 <| .ex 1 <| .ex 2 <| .ex 3 <| .ex 4 <| .ex 5 <| .pu 7 <| .pu 8 <| .pu 9 <| .pu 10 <| .pu 11 <| .two 6 (.one 12 <| .done) 12 (.one 6 <| .done)) [13, 14] (Rd _ _) (Rd _ _) mixed (by kernel_rfl) rfl rfl hS.rd hS.rd ?_
  refine QW.ex rfl rfl rfl rfl (Ex.move rfl) ?_
  refine QW.ex rfl rfl rfl rfl (Ex.indexArr (j := 0) Try.underlying28 ti5 rfl rfl rfl (by omega)) ?_
  refine QW.ex rfl rfl rfl rfl (Ex.load1 ti5 rfl rfl (by first | exact obT rfl | exact Rd.imm ‹_› | exact slT ‹_›)) ?_
  refine QW.ex rfl rfl rfl rfl (Ex.fieldO 0 Try.underlying34 rfl rfl ti30 rfl) ?_
  refine QW.ex rfl rfl rfl rfl (Ex.load1 ti30 rfl rfl (by first | exact obT rfl | exact Rd.imm ‹_› | exact slT ‹_›)) ?_
  refine QW.ex rfl rfl rfl rfl (Ex.lenSl rfl Try.underlying30 rfl) ?_
  refine QW.pu rfl rfl rfl rfl (Ex.indexArr (j := 1) Try.underlying28 ti5 rfl rfl rfl (by omega)) ?_
  refine QW.pu rfl rfl rfl rfl (Ex.load1 ti5 rfl rfl (by first | exact obT rfl | exact Rd.imm ‹_› | exact slT ‹_›)) ?_
  refine QW.pu rfl rfl rfl rfl (Ex.rem (r := ((q.b.toNat % 12 : Nat) : Int)) rfl rfl (by omega) (remN' _ 12 rfl)) ?_
  refine QW.pu rfl rfl rfl rfl (Ex.conv Try.underlying5 Try.underlying3 rfl (by first | exact w64 (by omega) (by omega) | exact wu8 (by omega) (by omega))) ?_
  refine QW.pu rfl rfl rfl rfl (Ex.sub (r := pv) rfl rfl (by rw [hpv]; exact w64 (by omega) (by omega))) ?_
  refine QW.two rfl rfl rfl rfl rfl rfl rfl rfl (Hv.callM rfl rfl rfl cb11 (madeX_m l q.a m.Words.length (by omega) (by omega) _ _ hS sl)) (fun _ _ ⟨_, _, _, h⟩ => h.rd.tail) (fun _ _ ⟨_, _, _, h⟩ => h.rd.tail) (Hv.alloc ti38 hS) (fun _ _ ⟨_, _, _, h⟩ => h.rd.tail) (fun _ _ ⟨_, _, _, h⟩ => h.rd.tail) (fun v w35 ⟨ax, cx, hv, hS⟩ => ?gA61) (fun v w9 ⟨b9, hv, hb9, hS⟩ => ?gB61)
  case gA61 =>
    skip
    subst hv
    rw [← hx] at hS ⊢
    refine QW.hv rfl rfl rfl rfl (Hv.alloc ti38 hS) (fun _ _ ⟨_, _, _, h⟩ => h.rd.tail.tail) (fun _ _ ⟨_, _, _, h⟩ => h.rd.tail.tail) fun v w9 ⟨b9, hv, hb9, hS⟩ => ?_
    subst hv
    refine QW.nil ?_
    first | (have hS := (hS : St w _ _ (Own.obj b9 _ _ :: _))) | (have hS := hS.swap)
    refine TW.hu rfl rfl rfl (Hv.storeN (k := 0) ti38 hS rfl rfl rfl rfl (by simp [Value.oneCell'])) (fun _ _ h => (h.rd.erase 0).tail) fun _ w_13 hS => ?_
    dsimp only [List.set] at hS
    refine TW.ex rfl rfl rfl rfl (Ex.assign rfl) hS.rd ?_
    refine TW.nil fun aa ha => ?_
    have hS := hS.swap
    refine hJr3 _ (b9) (ax) (cx) hS  aa (ha.sub ⟨rfl, rfl, rfl, rfl, rfl, trivial⟩)
  case gB61 =>
    skip
    subst hv
    refine QW.hv rfl rfl rfl rfl (Hv.callM rfl rfl rfl cb11 (madeX_m l q.a m.Words.length (by omega) (by omega) _ _ hS sl)) (fun _ _ ⟨_, _, _, h⟩ => h.rd.tail.tail) (fun _ _ ⟨_, _, _, h⟩ => h.rd.tail.tail) fun v w35 ⟨ax, cx, hv, hS⟩ => ?_
    subst hv
    rw [← hx] at hS ⊢
    refine QW.nil ?_
    first | (have hS := (hS : St w _ _ (Own.obj b9 _ _ :: _))) | (have hS := hS.swap)
    refine TW.hu rfl rfl rfl (Hv.storeN (k := 0) ti38 hS rfl rfl rfl rfl (by simp [Value.oneCell'])) (fun _ _ h => (h.rd.erase 0).tail) fun _ w_13 hS => ?_
    dsimp only [List.set] at hS
    refine TW.ex rfl rfl rfl rfl (Ex.assign rfl) hS.rd ?_
    refine TW.nil fun aa ha => ?_
    have hS := hS.swap
    refine hJr3 _ (b9) (ax) (cx) hS  aa (ha.sub ⟨rfl, rfl, rfl, rfl, rfl, trivial⟩)
end Go.Proofs.Ytgnpjhellmfhoaa

