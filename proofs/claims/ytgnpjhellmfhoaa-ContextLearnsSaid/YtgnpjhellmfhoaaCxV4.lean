/-
  Context: the walk of ContextLearns.
-/
import Derived.Test.YtgnpjhellmfhoaaCxV4a
namespace Go.Proofs.Ytgnpjhellmfhoaa
open Go.RowKit Sy
theorem words_small4 (y : Raw) : ∀ s ∈ (madeM y).Words, s.size ≤ 9223372036854775807 := fun s hs => by
  have := ((madeM_words y).2.1 s hs).2; omega
theorem ends_small4 {x : Lat} (hx : okX x = true) : ∀ e ∈ x.Edges, -1099511627776 ≤ e.To ∧ e.To ≤ 1099511627776 := fun e he => by
  obtain ⟨h1, h2, _⟩ := okX_edges hx
  have := h2 e he; omega
theorem take_ne {P : Nat → Prop} {es : List Nat} {j : Nat} (hj : j < es.length) (h : ∀ k ∈ es.take j, P k) (hp : P es[j]) : ∀ k ∈ es.take (j + 1), P k := fun k hk => by
  rw [List.take_succ_eq_append_getElem hj] at hk
  rcases List.mem_append.1 hk with hk | hk
  · exact h k hk
  · obtain rfl := List.mem_singleton.1 hk; exact hp
theorem ccost_l (x : Lat) (m : Mdl) (b : Int) (a : Nat) (c : Int) (p : Int) (es : List Int) (S : Int) (hS : costR x (learnR m b a c) p es = (S, true)) (hws : ∀ s ∈ m.Words, s.size ≤ 9223372036854775807) (hsm : ∀ e ∈ x.Edges, -1099511627776 ≤ e.To ∧ e.To ≤ 1099511627776) (hes : es.length ≤ 1000000)
    (a0 a1 a2 a3 a4 : Option Addr) (c0 c1 c2 c3 c4 : Nat) (μ : Mem) (w : World) (hμ : Imm μ w) (hxl : Sl μ a3 c3 x.Edges) (hm0 : Sl μ a0 c0 m.Words) (hm1 : Sl μ a1 c1 (learnR m b a c).Counts) (hm2 : Sl μ a2 c2 (learnR m b a c).Pairs) (hel : Sl μ a4 c4 es) :
    Calls Try.prog 15 #[.agg #[.int .i64 x.N, .slice a3 x.Edges.length c3], .agg #[.slice a0 m.Words.length c0, .slice a1 (learnR m b a c).Counts.length c1, .slice a2 (learnR m b a c).Pairs.length c2, .int .i64 m.Back], .int .i64 p, .slice a4 es.length c4] w (RetS w (.tuple #[.int .i64 S, .bool true])) :=
  ccost_s x (learnR m b a c) p es S hS hws hsm hes a0 a1 a2 a3 a4 c0 c1 c2 c3 c4 μ w hμ hxl hm0 hm1 hm2 hel
set_option maxRecDepth 100000 in
set_option maxHeartbeats 4000000 in
theorem law4_c (l : List B4) (y : Raw) (q : B6) (adl r0 r1 r2 : Option Addr) (cl d0 d1 d2 : Nat) (μ : Mem) (w : World) (hμ : Imm μ w) (sl : Sl μ adl cl l) (h0 : Sl μ r0 d0 y.Words) (h1 : Sl μ r1 d1 y.Counts) (h2 : Sl μ r2 d2 y.Uses) :
    Calls Try.prog 6 #[.slice adl l.length cl, .agg #[.slice r0 y.Words.length d0, .slice r1 y.Counts.length d1, .slice r2 y.Uses.length d2, .int .u8 y.Back.toNat], b6V q] w (RetS w (.bool true)) := by
  obtain ⟨m, hm⟩ : ∃ m, m = madeM y := ⟨_, rfl⟩
  have hmok : MdlOk m := by rw [hm]; exact madeM_ok y
  have hroom : Room m := by rw [hm]; exact madeM_room y
  have hmw : ∀ s ∈ m.Words, s.size ≤ 9223372036854775807 := by rw [hm]; exact words_small4 y
  obtain ⟨hW1, hW2, hW3, hW4⟩ := madeM_words y
  rw [← hm] at hW1 hW2 hW3 hW4
  obtain ⟨x, hx⟩ : ∃ x, x = madeX l q.c m.Words.length := ⟨_, rfl⟩
  obtain ⟨x1, x2, x3, x4, x5⟩ := madeX_ok l q.c (n := m.Words.length) (by omega) (by omega)
  rw [← hx] at x1 x2 x3 x4 x5
  have hsmall := ends_small4 x1
  obtain ⟨_, hxe, _⟩ := okX_edges x1
  obtain ⟨W, hWy⟩ : ∃ W, W = wayR x [q.d, q.e, q.f] := ⟨_, rfl⟩
  have hwk := way_ok x1 x5 [q.d, q.e, q.f] 40 0 0 (by omega) (by omega) (by omega)
  rw [show wayGo x [q.d, q.e, q.f] 40 0 0 = W from hWy.symm] at hwk
  obtain ⟨hwk1, hwk2, hwk3⟩ := hwk
  obtain ⟨es, hes⟩ : ∃ es : List Int, es = W.1.map fun (k : Nat) => (k : Int) := ⟨_, rfl⟩
  have hel : W.1.length = es.length := by rw [hes, List.length_map]
  have hwin := isWay_in4 W.1 0 hwk2
  have hqa := q.a.toNat_lt
  have hqb := q.b.toNat_lt
  have hqd := q.d.toNat_lt
  have hqm := Nat.mod_lt q.a.toNat (show 0 < m.Words.length + 1 by omega)
  have hqn := Nat.mod_lt q.b.toNat (show 0 < m.Words.length by omega)
  obtain ⟨bf, hbf⟩ : ∃ bf : Int, bf = ((q.a.toNat % (m.Words.length + 1) : Nat) : Int) - 1 := ⟨_, rfl⟩
  obtain ⟨A, hA⟩ : ∃ A, A = q.b.toNat % m.Words.length := ⟨_, rfl⟩
  obtain ⟨C, hC⟩ : ∃ C : Int, C = 1 + (q.d.toNat : Int) := ⟨_, rfl⟩
  rw [← hA] at hqn
  have hlok := learn_ok hmok hroom (b := bf) (a := A) (c := C) (by omega) hqn (by omega)
  have hC1 : ∀ p : Int, -1 ≤ p ∧ p < m.Words.length → costR x m p es = (wsum x m p W.1, true) := fun p hp => by rw [hes]; exact costR_way hmok x1 x2 hp hwk2
  have hC2 : ∀ p : Int, -1 ≤ p ∧ p < m.Words.length → costR x (learnR m bf A C) p es = (wsum x (learnR m bf A C) p W.1, true) := fun p hp => by rw [hes]; exact costR_way hlok x1 x2 hp hwk2
  have hS := St.start w μ hμ
  refine calls_start 127 [.slice adl l.length cl, .agg #[.slice r0 y.Words.length d0, .slice r1 y.Counts.length d1, .slice r2 y.Uses.length d2, .int .u8 y.Back.toNat], b6V q] Try.func6 rfl Try.ntmps6 rfl rfl ?_
  refine CW.seq fun K1 hK1 => ?_
  refine CW.region [0, 1, 2] rfl ?_
  refine LW.hv rfl rfl rfl rfl (Hv.boxS hS rfl rfl) fun v w4 ⟨b4, hv, hb4, hS⟩ => ?_
  subst hv
  refine LW.hv rfl rfl rfl rfl (Hv.boxS hS rfl rfl) fun v w5 ⟨b5, hv, hb5, hS⟩ => ?_
  subst hv
  refine LW.ex rfl rfl rfl rfl (Ex.assign rfl) hS.rd ?_
  refine LW.nil fun aa ha => hK1 _ _ _ ?_ aa ha
  refine CW.seq fun K2 hK2 => ?_
  refine CW.region [0, 1] rfl ?_
  refine LW.hv rfl rfl rfl rfl (Hv.callS hS rfl rfl rfl cb9 (sanity_c _)) fun v w23 ⟨hv, hS⟩ => ?_
  subst hv
  refine LW.ex rfl rfl rfl rfl (Ex.assign rfl) hS.rd ?_
  refine LW.nil fun aa ha => hK2 _ _ _ ?_ aa ha
  refine CW.seq fun K3 hK3 => ?_
  refine CW.region [0, 1, 2, 3] rfl ?_
  refine LW.ex rfl rfl rfl rfl (Ex.load4c ti27 rfl rfl (by first | exact obT rfl | exact Rd.imm ‹_› | exact slT ‹_›) (by first | exact obT rfl | exact Rd.imm ‹_› | exact slT ‹_›) (by first | exact obT rfl | exact Rd.imm ‹_› | exact slT ‹_›) (by first | exact obT rfl | exact Rd.imm ‹_› | exact slT ‹_›)) hS.rd ?_
  refine LW.hv rfl rfl rfl rfl (Hv.callV hS rfl rfl rfl cb10 (madeM_c y _ _ _ _ _ _ μ _ hS.imm h0 h1 h2)) fun v w25 ⟨μ25, hv25, hm25, hS⟩ => ?_
  obtain ⟨a0, c0, a1, c1, a2, c2, hv, hm0, hm1, hm2⟩ := hv25
  subst hv
  rw [← hm] at hm0 hm1 hm2 ⊢
  have sl := sl.mono hm25
  refine LW.hv rfl rfl rfl rfl (Hv.alloc ti34 hS) fun v w8 ⟨b8, hv, hb8, hS⟩ => ?_
  subst hv
  refine LW.hu rfl rfl rfl (Hv.storeN (k := 0) ti34 hS rfl rfl rfl rfl (by simp [Value.oneCell'])) fun _ w_3 hS => ?_
  dsimp only [List.set] at hS
  refine LW.nil fun aa ha => hK3 _ _ _ ?_ aa ha
  refine CW.seq fun K4 hK4 => ?_
  refine CW.region [0, 1, 2, 3] rfl ?_
  refine LW.ex rfl rfl rfl rfl (Ex.fieldO 0 Try.underlying34 rfl rfl ti30 rfl) hS.rd ?_
  refine LW.ex rfl rfl rfl rfl (Ex.load1 ti30 rfl rfl (by first | exact obT rfl | exact Rd.imm ‹_› | exact slT ‹_›)) hS.rd ?_
  refine LW.ex rfl rfl rfl rfl (Ex.lenSl rfl Try.underlying30 rfl) hS.rd ?_
  refine LW.ex rfl rfl rfl rfl (Ex.assign rfl) hS.rd ?_
  refine LW.nil fun aa ha => hK4 _ _ _ ?_ aa ha
  refine CW.seq fun K5 hK5 => ?_
  have hS := hS.drew
  refine CW.draw 14 (.ex 0 <| .ex 1 <| .ex 2 <| .ex 3 <| .ex 4 <| .ex 5 <| .ex 6 <| .ex 7 <| .ex 8 <| .ex 9 <| .ex 10 <| .ex 11 <| .ex 12 <| .ex 13 <| .done) [] (Rd _ _) mixed (by kernel_rfl) rfl rfl hS.rd ?_
  refine PW.ex rfl rfl rfl rfl (Ex.indexArr (j := 0) Try.underlying71 ti5 rfl rfl rfl (by omega)) ?_
  refine PW.ex rfl rfl rfl rfl (Ex.load1 ti5 rfl rfl (by first | exact obT rfl | exact Rd.imm ‹_› | exact slT ‹_›)) ?_
  refine PW.ex rfl rfl rfl rfl (Ex.conv Try.underlying5 Try.underlying3 rfl (by first | exact w64 (by omega) (by omega) | exact wu8 (by omega) (by omega))) ?_
  refine PW.ex rfl rfl rfl rfl (Ex.move rfl) ?_
  refine PW.ex rfl rfl rfl rfl (Ex.add (r := ((m.Words.length + 1 : Nat) : Int)) rfl rfl (by rw [w64 (by omega) (by omega)]; omega)) ?_
  refine PW.ex rfl rfl rfl rfl (Ex.rem (r := ((q.a.toNat % (m.Words.length + 1) : Nat) : Int)) rfl rfl (by omega) (remN _ _)) ?_
  refine PW.ex rfl rfl rfl rfl (Ex.sub (r := bf) rfl rfl (by rw [hbf]; exact w64 (by omega) (by omega))) ?_
  refine PW.ex rfl rfl rfl rfl (Ex.indexArr (j := 1) Try.underlying71 ti5 rfl rfl rfl (by omega)) ?_
  refine PW.ex rfl rfl rfl rfl (Ex.load1 ti5 rfl rfl (by first | exact obT rfl | exact Rd.imm ‹_› | exact slT ‹_›)) ?_
  refine PW.ex rfl rfl rfl rfl (Ex.conv Try.underlying5 Try.underlying3 rfl (by first | exact w64 (by omega) (by omega) | exact wu8 (by omega) (by omega))) ?_
  refine PW.ex rfl rfl rfl rfl (Ex.move rfl) ?_
  refine PW.ex rfl rfl rfl rfl (Ex.rem (r := (A : Int)) rfl rfl (by omega) (by rw [hA]; exact remN _ _)) ?_
  refine PW.ex rfl rfl rfl rfl (Ex.assign rfl) ?_
  refine PW.ex rfl rfl rfl rfl (Ex.assign rfl) ?_
  refine PW.nil ?_
  refine LW.nil fun aa ha => hK5 _ _ _ ?_ aa ha
  refine CW.seq fun K6 hK6 => ?_
  refine CW.region [0, 1, 2, 3, 4, 5, 6] rfl ?_
  refine LW.ex rfl rfl rfl rfl (Ex.move rfl) hS.rd ?_
  refine LW.ex rfl rfl rfl rfl (Ex.indexArr (j := 2) Try.underlying71 ti5 rfl rfl rfl (by omega)) hS.rd ?_
  refine LW.ex rfl rfl rfl rfl (Ex.load1 ti5 rfl rfl (by first | exact obT rfl | exact Rd.imm ‹_› | exact slT ‹_›)) hS.rd ?_
  refine LW.ex rfl rfl rfl rfl (Ex.move rfl) hS.rd ?_
  refine LW.hv rfl rfl rfl rfl (Hv.callM rfl rfl rfl cb11 (madeX_m l q.c m.Words.length (by omega) (by omega) _ _ hS sl)) fun v w45 ⟨ax, cx, hv, hS⟩ => ?_
  subst hv
  rw [← hx] at hS ⊢
  refine LW.hv rfl rfl rfl rfl (Hv.alloc ti38 hS) fun v w12 ⟨b12, hv, hb12, hS⟩ => ?_
  subst hv
  refine LW.hu rfl rfl rfl (Hv.storeN (k := 0) ti38 hS rfl rfl rfl rfl (by simp [Value.oneCell'])) fun _ w_6 hS => ?_
  dsimp only [List.set] at hS
  refine LW.nil fun aa ha => hK6 _ _ _ ?_ aa ha
  refine CW.seq fun K7 hK7 => ?_
  have hS := hS.swap
  refine CW.region [0, 1, 2, 3, 4, 5, 6, 7, 8, 9, 10, 11, 12, 13] rfl ?_
  refine LW.ex rfl rfl rfl rfl (Ex.load2c ti38 rfl rfl (by first | exact obT rfl | exact Rd.imm ‹_› | exact slT ‹_›) (by first | exact obT rfl | exact Rd.imm ‹_› | exact slT ‹_›)) hS.rd ?_
  refine LW.ex rfl rfl rfl rfl (Ex.indexArr (j := 3) Try.underlying71 ti5 rfl rfl rfl (by omega)) hS.rd ?_
  refine LW.ex rfl rfl rfl rfl (Ex.load1 ti5 rfl rfl (by first | exact obT rfl | exact Rd.imm ‹_› | exact slT ‹_›)) hS.rd ?_
  refine LW.ex rfl rfl rfl rfl (Ex.indexArr (j := 4) Try.underlying71 ti5 rfl rfl rfl (by omega)) hS.rd ?_
  refine LW.ex rfl rfl rfl rfl (Ex.load1 ti5 rfl rfl (by first | exact obT rfl | exact Rd.imm ‹_› | exact slT ‹_›)) hS.rd ?_
  refine LW.ex rfl rfl rfl rfl (Ex.indexArr (j := 5) Try.underlying71 ti5 rfl rfl rfl (by omega)) hS.rd ?_
  refine LW.ex rfl rfl rfl rfl (Ex.load1 ti5 rfl rfl (by first | exact obT rfl | exact Rd.imm ‹_› | exact slT ‹_›)) hS.rd ?_
  refine LW.hv rfl rfl rfl rfl (Hv.buildSl hS Try.underlying24 ti5 rfl rfl rfl rfl rfl rfl) fun v w54 ⟨b54, hv, hb54, hS⟩ => ?_
  subst hv
  refine LW.hv rfl rfl rfl rfl (Hv.callM rfl rfl rfl cb12 (way_m x [q.d, q.e, q.f] hS rfl (by omega) (by simp))) fun v w55 ⟨adW, cW, hv, hS⟩ => ?_
  subst hv
  rw [← hWy] at hS ⊢
  rw [hwk1]
  refine LW.ex rfl rfl rfl rfl (Ex.move rfl) hS.rd ?_
  refine LW.ex rfl rfl rfl rfl (Ex.extract rfl rfl) hS.rd ?_
  refine LW.ex rfl rfl rfl rfl (Ex.extract rfl rfl) hS.rd ?_
  refine LW.ex rfl rfl rfl rfl (Ex.assign rfl) hS.rd ?_
  refine LW.ex rfl rfl rfl rfl (Ex.assign rfl) hS.rd ?_
  refine LW.nil fun aa ha => hK7 _ _ _ ?_ aa ha
  refine CW.seq fun K8 hK8 => ?_
  obtain ⟨bs, μw, hmw1, hS, hφ⟩ := hS.shut 0 rfl
  dsimp only [List.eraseIdx] at hS
  have hsW : Sl μw adW cW (W.1.map fun (k : Nat) => (k : Int)) := Sl.of_own hφ (RepL.nats _ _) (by rw [List.length_map])
  have hS := hS.drop 0 rfl
  dsimp only [List.eraseIdx] at hS
  obtain ⟨bs, μ2, hm22, hS, hφ⟩ := hS.shut 0 rfl
  dsimp only [List.eraseIdx] at hS
  have hx2 : Sl μ2 ax cx x.Edges := Sl.of_own hφ (edgeReps _ _) rfl
  have hsW := hsW.mono hm22
  have hm0 := (hm0.mono hmw1).mono hm22
  have hm1 := (hm1.mono hmw1).mono hm22
  have hm2 := (hm2.mono hmw1).mono hm22
  rw [← hes] at hsW
  rw [hel]
  refine CW.region [0, 1, 2, 3, 4, 5, 6, 7, 8, 9, 10, 11, 12, 13, 14] rfl ?_
  refine LW.ex rfl rfl rfl rfl (Ex.load4c ti34 rfl rfl (by first | exact obT rfl | exact Rd.imm ‹_› | exact slT ‹_›) (by first | exact obT rfl | exact Rd.imm ‹_› | exact slT ‹_›) (by first | exact obT rfl | exact Rd.imm ‹_› | exact slT ‹_›) (by first | exact obT rfl | exact Rd.imm ‹_› | exact slT ‹_›)) hS.rd ?_
  refine LW.ex rfl rfl rfl rfl (Ex.move rfl) hS.rd ?_
  refine LW.ex rfl rfl rfl rfl (Ex.move rfl) hS.rd ?_
  refine LW.ex rfl rfl rfl rfl (Ex.indexArr (j := 3) Try.underlying71 ti5 rfl rfl rfl (by omega)) hS.rd ?_
  refine LW.ex rfl rfl rfl rfl (Ex.load1 ti5 rfl rfl (by first | exact obT rfl | exact Rd.imm ‹_› | exact slT ‹_›)) hS.rd ?_
  refine LW.ex rfl rfl rfl rfl (Ex.conv Try.underlying5 Try.underlying3 rfl (by first | exact w64 (by omega) (by omega) | exact wu8 (by omega) (by omega))) hS.rd ?_
  refine LW.ex rfl rfl rfl rfl (Ex.add (r := C) rfl rfl (by rw [hC]; exact w64 (by omega) (by omega))) hS.rd ?_
  refine LW.ex rfl rfl rfl rfl (Ex.buildA ti74 ti3 rfl rfl rfl) hS.rd ?_
  refine LW.hv rfl rfl rfl rfl (Hv.callV hS rfl rfl rfl cb23 (learn_c m bf A C hmok hroom hmw (by omega) (by omega) hqn (by omega) _ _ _ _ _ _ _ _ hS.imm hm0 hm1 hm2)) fun v w67 ⟨μ67, hv67, hm67, hS⟩ => ?_
  obtain ⟨a3, c3, a5, c5, hv, hn1, hn2⟩ := hv67
  subst hv
  have hx2 := hx2.mono hm67
  have hsW := hsW.mono hm67
  have hm0 := hm0.mono hm67
  have hm1 := hm1.mono hm67
  have hm2 := hm2.mono hm67
  refine LW.ex rfl rfl rfl rfl (Ex.move rfl) hS.rd ?_
  refine LW.ex rfl rfl rfl rfl (Ex.extract rfl rfl) hS.rd ?_
  refine LW.ex rfl rfl rfl rfl (Ex.extract rfl rfl) hS.rd ?_
  refine LW.hv rfl rfl rfl rfl (Hv.alloc ti34 hS) fun v w15 ⟨b15, hv, hb15, hS⟩ => ?_
  subst hv
  refine LW.hu rfl rfl rfl (Hv.storeN (k := 0) ti34 hS rfl rfl rfl rfl (by simp [Value.oneCell'])) fun _ w_13 hS => ?_
  dsimp only [List.set] at hS
  refine LW.ex rfl rfl rfl rfl (Ex.assign rfl) hS.rd ?_
  refine LW.nil fun aa ha => hK8 _ _ _ ?_ aa ha
  refine CW.seq fun K9 hK9 => ?_
  refine CW.seq fun K10 hK10 => ?_
  refine CW.region [0, 1, 2, 3, 4, 5] rfl ?_
  refine LW.ex rfl rfl rfl rfl (Ex.move rfl) hS.rd ?_
  refine LW.ex rfl rfl rfl rfl (Ex.neq rfl rfl rfl) hS.rd ?_
  refine LW.splitB (fun h8_1 => ?_) (fun h8_1 => ?_)
  · have h8_1 := of_decide_eq_true h8_1
    exact absurd rfl h8_1
  · have h8_1 := of_decide_eq_false h8_1
    refine LW.ex rfl rfl rfl rfl (Ex.move rfl) hS.rd ?_
    refine LW.ex rfl rfl rfl rfl (Ex.move rfl) hS.rd ?_
    refine LW.ex rfl rfl rfl rfl (Ex.not rfl rfl) hS.rd ?_
    refine LW.ex rfl rfl rfl rfl (by first | exact Ex.pick_yes rfl rfl | exact Ex.pick_no rfl rfl) hS.rd ?_
    refine LW.nil fun aa ha => hK10 _ _ _ ?_ aa ha
    refine CW.no rfl ?_
    refine CW.skip fun aa ha => hK9 _ _ _ ?_ aa ha
    refine CW.seq fun K11 hK11 => ?_
    refine CW.seq fun K12 hK12 => ?_
    refine CW.region [0] rfl ?_
    refine LW.ex rfl rfl rfl rfl (Ex.assign rfl) hS.rd ?_
    refine LW.nil fun aa ha => hK12 _ _ _ ?_ aa ha
    refine CW.block ?_
    refine CW.loop (fun qq frm wl11 => ∃ (j : Nat), j ≤ es.length ∧ qq = es.length - j ∧ frm = [(7, .bool true), (8, .pointer (some ⟨b8, 0, none⟩)), (9, .int .i64 m.Words.length), (11, .int .i64 A), (12, .pointer (some ⟨b12, 0, none⟩)), (13, .slice adW es.length cW), (15, .pointer (some ⟨b15, 0, none⟩)), (17, .int .i64 j)] ∧ St w wl11 μ67 [Own.obj b15 [.slice a0 m.Words.length c0, .slice a3 (learnR m bf A C).Counts.length c3, .slice a5 (learnR m bf A C).Pairs.length c5, .int .i64 m.Back] 34, Own.obj b12 [.int .i64 x.N, .slice ax x.Edges.length cx] 38, Own.obj b8 [.slice a0 m.Words.length c0, .slice a1 m.Counts.length c1, .slice a2 m.Pairs.length c2, .int .i64 m.Back] 34, Own.obj b5 (b6L q) 71, Own.obj b4 [.slice r0 y.Words.length d0, .slice r1 y.Counts.length d1, .slice r2 y.Uses.length d2, .int .u8 y.Back.toNat] 27] ∧ (∀ k ∈ W.1.take j, (edAt x k).Word ≠ (A : Int))) _ ⟨0, (by first | omega | (simp; done) | (simp; omega)), rfl, rfl, hS, fun k hk => by cases hk⟩ ⟨rfl, rfl, rfl, rfl, rfl, rfl, rfl, rfl, trivial⟩ ?_
    clear hS
    rintro qq frm wl11 ⟨j, hj, hq, rfl, hS, hne⟩
    refine CW.seq fun K13 hK13 => ?_
    refine CW.seq fun K14 hK14 => ?_
    refine CW.region [0, 1, 2, 3] rfl ?_
    refine LW.ex rfl rfl rfl rfl (Ex.move rfl) hS.rd ?_
    refine LW.ex rfl rfl rfl rfl (Ex.move rfl) hS.rd ?_
    refine LW.ex rfl rfl rfl rfl (Ex.lenSl rfl Try.underlying31 rfl) hS.rd ?_
    refine LW.ex rfl rfl rfl rfl (Ex.lss rfl rfl rfl) hS.rd ?_
    refine LW.splitB (fun h11_3 => ?_) (fun h11_3 => ?_)
    · have h11_3 := of_decide_eq_true h11_3
      refine LW.nil fun aa ha => hK14 _ _ _ ?_ aa ha
      refine CW.yes rfl ?_
      refine CW.skip fun aa ha => hK13 _ _ _ ?_ aa ha
      refine CW.seq fun K15 hK15 => ?_
      refine CW.block ?_
      refine CW.seq fun K16 hK16 => ?_
      have hSl := hS
      have hj2 : j < es.length := by omega
      have hj3 : j < W.1.length := by omega
      obtain ⟨be, oe, rfl, ke⟩ := hsW.at hj2
      obtain ⟨k, hk⟩ : ∃ k : Nat, k = W.1[j] := ⟨_, rfl⟩
      have hke : es[j] = (k : Int) := by subst hes; simp [hk]
      have hkl : k < x.Edges.length := hwin k (by rw [hk]; exact List.getElem_mem hj3)
      rw [hke] at ke
      obtain ⟨bl, ol, rfl, k0, k1, k2, k3⟩ := hx2.at hkl
      obtain ⟨e, he⟩ : ∃ e, e = x.Edges[k] := ⟨_, rfl⟩
      rw [← he] at k0 k1 k2 k3
      have hS := hSl
      have hS := hS.drew
      refine CW.draw 11 (.ex 0 <| .ex 1 <| .ex 2 <| .ex 3 <| .ex 4 <| .ex 5 <| .ex 6 <| .ex 7 <| .ex 8 <| .ex 9 <| .ex 10 <| .done) [] (Rd _ _) mixed (by kernel_rfl) rfl rfl hS.rd ?_
      refine PW.ex rfl rfl rfl rfl (Ex.fieldO 1 Try.underlying38 rfl rfl ti36 rfl) ?_
      refine PW.ex rfl rfl rfl rfl (Ex.load1 ti36 rfl rfl (by first | exact obT rfl | exact Rd.imm ‹_› | exact slT ‹_›)) ?_
      refine PW.ex rfl rfl rfl rfl (Ex.move rfl) ?_
      refine PW.ex rfl rfl rfl rfl (Ex.move rfl) ?_
      refine PW.ex rfl rfl rfl rfl (Ex.indexSl Try.underlying31 ti3 rfl rfl rfl (by omega)) ?_
      refine PW.ex rfl rfl rfl rfl (Ex.load1 ti3 rfl rfl (by first | exact obT rfl | exact Rd.imm ‹_› | exact slT ‹_›)) ?_
      refine PW.ex rfl rfl rfl rfl (Ex.indexSl Try.underlying36 ti43 rfl rfl rfl (by omega)) ?_
      refine PW.ex rfl rfl rfl rfl (Ex.fieldO 2 Try.underlying43 rfl rfl ti3 rfl) ?_
      refine PW.ex rfl rfl rfl rfl (Ex.load1 ti3 rfl rfl (by first | exact obT rfl | exact Rd.imm ‹_› | exact slT ‹_›)) ?_
      refine PW.ex rfl rfl rfl rfl (Ex.move rfl) ?_
      refine PW.ex rfl rfl rfl rfl (Ex.eql rfl rfl rfl) ?_
      refine PW.splitB (fun h13_10 => ?_) (fun h13_10 => ?_)
      · have h13_10 := of_decide_eq_true h13_10
        refine PW.nil ?_
        refine LW.nil fun aa ha => hK16 _ _ _ ?_ aa ha
        refine CW.yes rfl ?_
        refine CW.seq fun K17 hK17 => ?_
        refine CW.region [0, 1] rfl ?_
        refine LW.ex rfl rfl rfl rfl (Ex.move rfl) hS.rd ?_
        refine LW.ex rfl rfl rfl rfl (Ex.assign rfl) hS.rd ?_
        refine LW.nil fun aa ha => hK17 _ _ _ ?_ aa ha
        refine CW.ret fun aa ha => ?_
        refine ret_one ha Try.results6 rfl ?_
        exact hS.retS
      · have h13_10 := of_decide_eq_false h13_10
        refine PW.nil ?_
        refine LW.nil fun aa ha => hK16 _ _ _ ?_ aa ha
        refine CW.no rfl ?_
        refine CW.skip fun aa ha => hK15 _ _ _ ?_ aa ha
        refine CW.region [0, 1, 2] rfl ?_
        refine LW.ex rfl rfl rfl rfl (Ex.move rfl) hS.rd ?_
        refine LW.ex rfl rfl rfl rfl (Ex.add rfl rfl (by first | exact inc64 (by omega) | exact addN (by omega) | exact w64 (by omega) (by omega))) hS.rd ?_
        refine LW.ex rfl rfl rfl rfl (Ex.assign rfl) hS.rd ?_
        refine LW.nil fun aa ha => ?_
        refine ⟨_, _, ?m11, ⟨j + 1, (by first | omega | (simp; done) | (simp; omega)), rfl, rfl, hS, take_ne hj3 hne (by rw [← hk, edAt_of hkl, ← he]; exact h13_10)⟩, ha.sub ⟨rfl, rfl, rfl, rfl, rfl, rfl, rfl, rfl, trivial⟩⟩
        case m11 => omega
    · have h11_3 := of_decide_eq_false h11_3
      refine LW.nil fun aa ha => hK14 _ _ _ ?_ aa ha
      refine CW.no rfl ?_
      refine CW.exit fun aa ha => hK11 _ _ _ ?_ aa ha
      refine CW.seq fun K18 hK18 => ?_
      refine CW.seq fun K19 hK19 => ?_
      have hall : ∀ k ∈ W.1, 0 ≤ (edAt x k).Word ∧ (edAt x k).Word ≠ (A : Int) := fun k hk => by
        have hkl := hwin k hk
        have h5 := hxe _ (List.getElem_mem hkl)
        rw [List.take_of_length_le (by omega)] at hne
        exact ⟨by rw [edAt_of hkl]; omega, hne k hk⟩
      have hle := fun p : Int => wsum_learn (x := x) hmok (b := bf) (c := C) hqn (by omega) W.1 p hall
      refine CW.region [0] rfl ?_
      refine LW.ex rfl rfl rfl rfl (Ex.assign rfl) hS.rd ?_
      refine LW.nil fun aa ha => hK19 _ _ _ ?_ aa ha
      refine CW.block ?_
      refine CW.loop (fun qq frm wl16 => ∃ (i : Nat), i ≤ m.Words.length + 1 ∧ qq = m.Words.length + 1 - i ∧ frm = [(7, .bool true), (8, .pointer (some ⟨b8, 0, none⟩)), (9, .int .i64 m.Words.length), (12, .pointer (some ⟨b12, 0, none⟩)), (13, .slice adW es.length cW), (15, .pointer (some ⟨b15, 0, none⟩)), (18, .int .i64 ((i : Int) - 1))] ∧ St w wl16 μ67 [Own.obj b15 [.slice a0 m.Words.length c0, .slice a3 (learnR m bf A C).Counts.length c3, .slice a5 (learnR m bf A C).Pairs.length c5, .int .i64 m.Back] 34, Own.obj b12 [.int .i64 x.N, .slice ax x.Edges.length cx] 38, Own.obj b8 [.slice a0 m.Words.length c0, .slice a1 m.Counts.length c1, .slice a2 m.Pairs.length c2, .int .i64 m.Back] 34, Own.obj b5 (b6L q) 71, Own.obj b4 [.slice r0 y.Words.length d0, .slice r1 y.Counts.length d1, .slice r2 y.Uses.length d2, .int .u8 y.Back.toNat] 27]) _ ⟨0, (by first | omega | (simp; done) | (simp; omega)), rfl, rfl, hS⟩ ⟨rfl, rfl, rfl, rfl, rfl, rfl, rfl, trivial⟩ ?_
      clear hS
      rintro qq frm wl16 ⟨i, hi, hq, rfl, hS⟩
      refine CW.seq fun K20 hK20 => ?_
      refine CW.seq fun K21 hK21 => ?_
      refine CW.region [0, 1, 2] rfl ?_
      refine LW.ex rfl rfl rfl rfl (Ex.move rfl) hS.rd ?_
      refine LW.ex rfl rfl rfl rfl (Ex.move rfl) hS.rd ?_
      refine LW.ex rfl rfl rfl rfl (Ex.lss rfl rfl rfl) hS.rd ?_
      refine LW.splitB (fun h16_2 => ?_) (fun h16_2 => ?_)
      · have h16_2 := of_decide_eq_true h16_2
        refine LW.nil fun aa ha => hK21 _ _ _ ?_ aa ha
        refine CW.yes rfl ?_
        refine CW.skip fun aa ha => hK20 _ _ _ ?_ aa ha
        refine CW.seq fun K22 hK22 => ?_
        refine CW.block ?_
        refine CW.seq fun K23 hK23 => ?_
        have e1 := hC1 ((i : Int) - 1) (by omega)
        have e2 := hC2 ((i : Int) - 1) (by omega)
        have hl := hle ((i : Int) - 1)
        generalize wsum x m ((i : Int) - 1) W.1 = S1 at e1 hl
        generalize wsum x (learnR m bf A C) ((i : Int) - 1) W.1 = S2 at e2 hl
        refine CW.region [0, 1, 2, 3, 4, 5, 6, 7, 8, 9] rfl ?_
        refine LW.ex rfl rfl rfl rfl (Ex.load2c ti38 rfl rfl (by first | exact obT rfl | exact Rd.imm ‹_› | exact slT ‹_›) (by first | exact obT rfl | exact Rd.imm ‹_› | exact slT ‹_›)) hS.rd ?_
        refine LW.ex rfl rfl rfl rfl (Ex.load4c ti34 rfl rfl (by first | exact obT rfl | exact Rd.imm ‹_› | exact slT ‹_›) (by first | exact obT rfl | exact Rd.imm ‹_› | exact slT ‹_›) (by first | exact obT rfl | exact Rd.imm ‹_› | exact slT ‹_›) (by first | exact obT rfl | exact Rd.imm ‹_› | exact slT ‹_›)) hS.rd ?_
        refine LW.ex rfl rfl rfl rfl (Ex.move rfl) hS.rd ?_
        refine LW.ex rfl rfl rfl rfl (Ex.move rfl) hS.rd ?_
        refine LW.hv rfl rfl rfl rfl (Hv.callS hS rfl rfl rfl cb15 (ccost_s x m ((i : Int) - 1) es S1 e1 hmw hsmall (by omega) _ _ _ _ _ _ _ _ _ _ _ _ hS.imm hx2 hm0 hm1 hm2 hsW)) fun v w104 ⟨hv, hS⟩ => ?_
        subst hv
        refine LW.ex rfl rfl rfl rfl (Ex.move rfl) hS.rd ?_
        refine LW.ex rfl rfl rfl rfl (Ex.extract rfl rfl) hS.rd ?_
        refine LW.ex rfl rfl rfl rfl (Ex.extract rfl rfl) hS.rd ?_
        refine LW.ex rfl rfl rfl rfl (Ex.assign rfl) hS.rd ?_
        refine LW.ex rfl rfl rfl rfl (Ex.assign rfl) hS.rd ?_
        refine LW.nil fun aa ha => hK23 _ _ _ ?_ aa ha
        refine CW.seq fun K24 hK24 => ?_
        refine CW.region [0, 1, 2, 3, 4, 5, 6, 7, 8, 9] rfl ?_
        refine LW.ex rfl rfl rfl rfl (Ex.load2c ti38 rfl rfl (by first | exact obT rfl | exact Rd.imm ‹_› | exact slT ‹_›) (by first | exact obT rfl | exact Rd.imm ‹_› | exact slT ‹_›)) hS.rd ?_
        refine LW.ex rfl rfl rfl rfl (Ex.load4c ti34 rfl rfl (by first | exact obT rfl | exact Rd.imm ‹_› | exact slT ‹_›) (by first | exact obT rfl | exact Rd.imm ‹_› | exact slT ‹_›) (by first | exact obT rfl | exact Rd.imm ‹_› | exact slT ‹_›) (by first | exact obT rfl | exact Rd.imm ‹_› | exact slT ‹_›)) hS.rd ?_
        refine LW.ex rfl rfl rfl rfl (Ex.move rfl) hS.rd ?_
        refine LW.ex rfl rfl rfl rfl (Ex.move rfl) hS.rd ?_
        refine LW.hv rfl rfl rfl rfl (Hv.callS hS rfl rfl rfl cb15 (ccost_l x m bf A C ((i : Int) - 1) es S2 e2 hmw hsmall (by omega) _ _ _ _ _ _ _ _ _ _ _ _ hS.imm hx2 hm0 hn1 hn2 hsW)) fun v w112 ⟨hv, hS⟩ => ?_
        subst hv
        refine LW.ex rfl rfl rfl rfl (Ex.move rfl) hS.rd ?_
        refine LW.ex rfl rfl rfl rfl (Ex.extract rfl rfl) hS.rd ?_
        refine LW.ex rfl rfl rfl rfl (Ex.extract rfl rfl) hS.rd ?_
        refine LW.ex rfl rfl rfl rfl (Ex.assign rfl) hS.rd ?_
        refine LW.ex rfl rfl rfl rfl (Ex.assign rfl) hS.rd ?_
        refine LW.nil fun aa ha => hK24 _ _ _ ?_ aa ha
        refine CW.seq fun K25 hK25 => ?_
        refine CW.region [0, 1, 2, 3, 4, 5, 6, 7, 8, 9, 10] rfl ?_
        refine LW.ex rfl rfl rfl rfl (Ex.move rfl) hS.rd ?_
        refine LW.ex rfl rfl rfl rfl (Ex.not rfl rfl) hS.rd ?_
        refine LW.ex rfl rfl rfl rfl (Ex.move rfl) hS.rd ?_
        refine LW.ex rfl rfl rfl rfl (Ex.move rfl) hS.rd ?_
        refine LW.ex rfl rfl rfl rfl (Ex.not rfl rfl) hS.rd ?_
        refine LW.ex rfl rfl rfl rfl (by first | exact Ex.pick_yes rfl rfl | exact Ex.pick_no rfl rfl) hS.rd ?_
        refine LW.ex rfl rfl rfl rfl (Ex.move rfl) hS.rd ?_
        refine LW.ex rfl rfl rfl rfl (Ex.move rfl) hS.rd ?_
        refine LW.ex rfl rfl rfl rfl (Ex.move rfl) hS.rd ?_
        refine LW.ex rfl rfl rfl rfl (Ex.lss rfl rfl rfl) hS.rd ?_
        refine LW.splitB (fun h20_9 => ?_) (fun h20_9 => ?_)
        · have h20_9 := of_decide_eq_true h20_9
          omega
        · have h20_9 := of_decide_eq_false h20_9
          refine LW.ex rfl rfl rfl rfl (by first | exact Ex.pick_yes rfl rfl | exact Ex.pick_no rfl rfl) hS.rd ?_
          refine LW.nil fun aa ha => hK25 _ _ _ ?_ aa ha
          refine CW.no rfl ?_
          refine CW.skip fun aa ha => hK22 _ _ _ ?_ aa ha
          refine CW.region [0, 1, 2] rfl ?_
          refine LW.ex rfl rfl rfl rfl (Ex.move rfl) hS.rd ?_
          refine LW.ex rfl rfl rfl rfl (Ex.add (r := ((i + 1 : Nat) : Int) - 1) rfl rfl (by rw [w64 (by omega) (by omega)]; omega)) hS.rd ?_
          refine LW.ex rfl rfl rfl rfl (Ex.assign rfl) hS.rd ?_
          refine LW.nil fun aa ha => ?_
          refine ⟨_, _, ?m16, ⟨i + 1, (by first | omega | (simp; done) | (simp; omega)), rfl, rfl, hS⟩, ha.sub ⟨rfl, rfl, rfl, rfl, rfl, rfl, rfl, trivial⟩⟩
          case m16 => omega
      · have h16_2 := of_decide_eq_false h16_2
        refine LW.nil fun aa ha => hK21 _ _ _ ?_ aa ha
        refine CW.no rfl ?_
        refine CW.exit fun aa ha => hK18 _ _ _ ?_ aa ha
        refine CW.seq fun K26 hK26 => ?_
        refine CW.region [0, 1] rfl ?_
        refine LW.ex rfl rfl rfl rfl (Ex.move rfl) hS.rd ?_
        refine LW.ex rfl rfl rfl rfl (Ex.assign rfl) hS.rd ?_
        refine LW.nil fun aa ha => hK26 _ _ _ ?_ aa ha
        refine CW.ret fun aa ha => ?_
        refine ret_one ha Try.results6 rfl ?_
        exact hS.retS
end Go.Proofs.Ytgnpjhellmfhoaa

