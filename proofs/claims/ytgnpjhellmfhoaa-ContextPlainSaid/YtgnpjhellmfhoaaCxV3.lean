/-
  Context: the walk of ContextPlain.
-/
import Derived.Test.YtgnpjhellmfhoaaCxP1
namespace Go.Proofs.Ytgnpjhellmfhoaa
open Go.RowKit Sy
theorem words_small (y : Raw) : ∀ s ∈ (madeM y).Words, s.size ≤ 9223372036854775807 := fun s hs => by
  have := ((madeM_words y).2.1 s hs).2; omega
theorem ends_small {x : Lat} (hx : okX x = true) : ∀ e ∈ x.Edges, -1099511627776 ≤ e.To ∧ e.To ≤ 1099511627776 := fun e he => by
  obtain ⟨h1, h2, _⟩ := okX_edges hx
  have := h2 e he; omega
set_option maxRecDepth 100000 in
set_option maxHeartbeats 4000000 in
theorem law3_c (l : List B4) (y : Raw) (q : B5) (adl r0 r1 r2 : Option Addr) (cl d0 d1 d2 : Nat) (μ : Mem) (w : World) (hμ : Imm μ w) (sl : Sl μ adl cl l) (h0 : Sl μ r0 d0 y.Words) (h1 : Sl μ r1 d1 y.Counts) (h2 : Sl μ r2 d2 y.Uses) :
    Calls Try.prog 5 #[.slice adl l.length cl, .agg #[.slice r0 y.Words.length d0, .slice r1 y.Counts.length d1, .slice r2 y.Uses.length d2, .int .u8 y.Back.toNat], b5V q] w (RetS w (.bool true)) := by
  obtain ⟨m, hm⟩ : ∃ m, m = madeM y := ⟨_, rfl⟩
  have hmok : MdlOk m := by rw [hm]; exact madeM_ok y
  have hmw : ∀ s ∈ m.Words, s.size ≤ 9223372036854775807 := by rw [hm]; exact words_small y
  obtain ⟨hW1, hW2, hW3, hW4⟩ := madeM_words y
  rw [← hm] at hW1 hW2 hW3 hW4
  obtain ⟨x, hx⟩ : ∃ x, x = madeX l q.a m.Words.length := ⟨_, rfl⟩
  obtain ⟨x1, x2, x3, x4, x5⟩ := madeX_ok l q.a (n := m.Words.length) (by omega) (by omega)
  rw [← hx] at x1 x2 x3 x4 x5
  have hsmall := ends_small x1
  obtain ⟨_, hxe, _⟩ := okX_edges x1
  have hxw := x2
  unfold wordsIn at hxw
  rw [List.all_eq_true] at hxw
  obtain ⟨W, hWy⟩ : ∃ W, W = wayR x [q.c, q.d, q.e] := ⟨_, rfl⟩
  have hwk := way_ok x1 x5 [q.c, q.d, q.e] 40 0 0 (by omega) (by omega) (by omega)
  rw [show wayGo x [q.c, q.d, q.e] 40 0 0 = W from hWy.symm] at hwk
  obtain ⟨hwk1, hwk2, hwk3⟩ := hwk
  obtain ⟨S, hSs⟩ : ∃ S, S = psum x m W.1 := ⟨_, rfl⟩
  obtain ⟨es, hes⟩ : ∃ es : List Int, es = W.1.map fun (k : Nat) => (k : Int) := ⟨_, rfl⟩
  have hel : W.1.length = es.length := by rw [hes, List.length_map]
  have hC : ∀ p : Int, -1 ≤ p ∧ p < m.Words.length → costR x (plainM m) p es = (S, true) := fun p hp => by rw [hes, hSs]; exact costR_plain hmok x1 x2 hp hwk2
  have hwin := isWay_in W.1 0 hwk2
  have hqb := q.b.toNat_lt
  have hqm := Nat.mod_lt q.b.toNat (show 0 < m.Words.length by omega)
  have hS := St.start w μ hμ
  refine calls_start 107 [.slice adl l.length cl, .agg #[.slice r0 y.Words.length d0, .slice r1 y.Counts.length d1, .slice r2 y.Uses.length d2, .int .u8 y.Back.toNat], b5V q] Try.func5 rfl Try.ntmps5 rfl rfl ?_
  refine CW.seq fun K1 hK1 => ?_
  refine CW.region [0, 1, 2] rfl ?_
  refine LW.hv rfl rfl rfl rfl (Hv.boxS hS rfl rfl) fun v w4 ⟨b4, hv, hb4, hS⟩ => ?_
  subst hv
  refine LW.hv rfl rfl rfl rfl (Hv.boxS hS rfl rfl) fun v w5 ⟨b5, hv, hb5, hS⟩ => ?_
  subst hv
  refine LW.ex rfl rfl rfl rfl (Ex.assign rfl) hS.rd ?_
  refine LW.nil fun aa ha => hK1 _ _ _ ?_ aa ha
  refine CW.seq fun K2 hK2 => ?_
  refine CW.region [0, 1] rfl ?_
  refine LW.hv rfl rfl rfl rfl (Hv.callS hS rfl rfl rfl cb9 (sanity_c _)) fun v w19 ⟨hv, hS⟩ => ?_
  subst hv
  refine LW.ex rfl rfl rfl rfl (Ex.assign rfl) hS.rd ?_
  refine LW.nil fun aa ha => hK2 _ _ _ ?_ aa ha
  refine CW.seq fun K3 hK3 => ?_
  refine CW.region [0, 1, 2, 3] rfl ?_
  refine LW.ex rfl rfl rfl rfl (Ex.load4c ti27 rfl rfl (by first | exact obT rfl | exact Rd.imm ‹_› | exact slT ‹_›) (by first | exact obT rfl | exact Rd.imm ‹_› | exact slT ‹_›) (by first | exact obT rfl | exact Rd.imm ‹_› | exact slT ‹_›) (by first | exact obT rfl | exact Rd.imm ‹_› | exact slT ‹_›)) hS.rd ?_
  refine LW.hv rfl rfl rfl rfl (Hv.callV hS rfl rfl rfl cb10 (madeM_c y _ _ _ _ _ _ μ _ hS.imm h0 h1 h2)) fun v w21 ⟨μ21, hv21, hm21, hS⟩ => ?_
  obtain ⟨a0, c0, a1, c1, a2, c2, hv, hm0, hm1, hm2⟩ := hv21
  subst hv
  rw [← hm] at hm0 hm1 hm2 ⊢
  have sl := sl.mono hm21
  refine LW.hv rfl rfl rfl rfl (Hv.alloc ti34 hS) fun v w8 ⟨b8, hv, hb8, hS⟩ => ?_
  subst hv
  refine LW.hu rfl rfl rfl (Hv.storeN (k := 0) ti34 hS rfl rfl rfl rfl (by simp [Value.oneCell'])) fun _ w_3 hS => ?_
  dsimp only [List.set] at hS
  refine LW.nil fun aa ha => hK3 _ _ _ ?_ aa ha
  refine CW.seq fun K4 hK4 => ?_
  refine CW.region [0, 1, 2, 3] rfl ?_
  refine LW.ex rfl rfl rfl rfl (Ex.fieldO 2 Try.underlying34 rfl rfl ti32 rfl) hS.rd ?_
  refine LW.hu rfl rfl rfl (Hv.storeObj (k := 0) ti32 hS rfl rfl rfl rfl (by first | assumption | (simp; done) | omega | exact Nat.zero_lt_succ _)) fun _ w_1 hS => ?_
  dsimp only [List.set] at hS
  refine LW.ex rfl rfl rfl rfl (Ex.fieldO 3 Try.underlying34 rfl rfl ti3 rfl) hS.rd ?_
  refine LW.hu rfl rfl rfl (Hv.storeObj (k := 0) ti3 hS rfl rfl rfl rfl (by first | assumption | (simp; done) | omega | exact Nat.zero_lt_succ _)) fun _ w_3 hS => ?_
  dsimp only [List.set] at hS
  refine LW.nil fun aa ha => hK4 _ _ _ ?_ aa ha
  refine CW.seq fun K5 hK5 => ?_
  refine CW.region [0, 1, 2, 3, 4, 5, 6, 7, 8] rfl ?_
  refine LW.ex rfl rfl rfl rfl (Ex.move rfl) hS.rd ?_
  refine LW.ex rfl rfl rfl rfl (Ex.indexArr (j := 0) Try.underlying68 ti5 rfl rfl rfl (by omega)) hS.rd ?_
  refine LW.ex rfl rfl rfl rfl (Ex.load1 ti5 rfl rfl (by first | exact obT rfl | exact Rd.imm ‹_› | exact slT ‹_›)) hS.rd ?_
  refine LW.ex rfl rfl rfl rfl (Ex.fieldO 0 Try.underlying34 rfl rfl ti30 rfl) hS.rd ?_
  refine LW.ex rfl rfl rfl rfl (Ex.load1 ti30 rfl rfl (by first | exact obT rfl | exact Rd.imm ‹_› | exact slT ‹_›)) hS.rd ?_
  refine LW.ex rfl rfl rfl rfl (Ex.lenSl rfl Try.underlying30 rfl) hS.rd ?_
  refine LW.hv rfl rfl rfl rfl (Hv.callM rfl rfl rfl cb11 (madeX_m l q.a m.Words.length (by omega) (by omega) _ _ hS sl)) fun v w30 ⟨ax, cx, hv, hS⟩ => ?_
  subst hv
  rw [← hx] at hS ⊢
  refine LW.hv rfl rfl rfl rfl (Hv.alloc ti38 hS) fun v w9 ⟨b9, hv, hb9, hS⟩ => ?_
  subst hv
  refine LW.hu rfl rfl rfl (Hv.storeN (k := 0) ti38 hS rfl rfl rfl rfl (by simp [Value.oneCell'])) fun _ w_8 hS => ?_
  dsimp only [List.set] at hS
  refine LW.nil fun aa ha => hK5 _ _ _ ?_ aa ha
  refine CW.seq fun K6 hK6 => ?_
  have hS := hS.swap
  refine CW.region [0, 1, 2, 3, 4, 5, 6, 7, 8, 9, 10, 11, 12, 13] rfl ?_
  refine LW.ex rfl rfl rfl rfl (Ex.load2c ti38 rfl rfl (by first | exact obT rfl | exact Rd.imm ‹_› | exact slT ‹_›) (by first | exact obT rfl | exact Rd.imm ‹_› | exact slT ‹_›)) hS.rd ?_
  refine LW.ex rfl rfl rfl rfl (Ex.indexArr (j := 2) Try.underlying68 ti5 rfl rfl rfl (by omega)) hS.rd ?_
  refine LW.ex rfl rfl rfl rfl (Ex.load1 ti5 rfl rfl (by first | exact obT rfl | exact Rd.imm ‹_› | exact slT ‹_›)) hS.rd ?_
  refine LW.ex rfl rfl rfl rfl (Ex.indexArr (j := 3) Try.underlying68 ti5 rfl rfl rfl (by omega)) hS.rd ?_
  refine LW.ex rfl rfl rfl rfl (Ex.load1 ti5 rfl rfl (by first | exact obT rfl | exact Rd.imm ‹_› | exact slT ‹_›)) hS.rd ?_
  refine LW.ex rfl rfl rfl rfl (Ex.indexArr (j := 4) Try.underlying68 ti5 rfl rfl rfl (by omega)) hS.rd ?_
  refine LW.ex rfl rfl rfl rfl (Ex.load1 ti5 rfl rfl (by first | exact obT rfl | exact Rd.imm ‹_› | exact slT ‹_›)) hS.rd ?_
  refine LW.hv rfl rfl rfl rfl (Hv.buildSl hS Try.underlying24 ti5 rfl rfl rfl rfl rfl rfl) fun v w39 ⟨b39, hv, hb39, hS⟩ => ?_
  subst hv
  refine LW.hv rfl rfl rfl rfl (Hv.callM rfl rfl rfl cb12 (way_m x [q.c, q.d, q.e] hS rfl (by omega) (by simp))) fun v w40 ⟨adW, cW, hv, hS⟩ => ?_
  subst hv
  rw [← hWy] at hS ⊢
  rw [hwk1]
  refine LW.ex rfl rfl rfl rfl (Ex.move rfl) hS.rd ?_
  refine LW.ex rfl rfl rfl rfl (Ex.extract rfl rfl) hS.rd ?_
  refine LW.ex rfl rfl rfl rfl (Ex.extract rfl rfl) hS.rd ?_
  refine LW.ex rfl rfl rfl rfl (Ex.assign rfl) hS.rd ?_
  refine LW.ex rfl rfl rfl rfl (Ex.assign rfl) hS.rd ?_
  refine LW.nil fun aa ha => hK6 _ _ _ ?_ aa ha
  refine CW.seq fun K7 hK7 => ?_
  obtain ⟨bs, μw, hmw1, hS, hφ⟩ := hS.shut 0 rfl
  dsimp only [List.eraseIdx] at hS
  have hsW : Sl μw adW cW (W.1.map fun (k : Nat) => (k : Int)) := Sl.of_own hφ (RepL.nats _ _) (by rw [List.length_map])
  have hS := hS.drop 0 rfl
  dsimp only [List.eraseIdx] at hS
  obtain ⟨bs, μ2, hm22, hS, hφ⟩ := hS.shut 0 rfl
  dsimp only [List.eraseIdx] at hS
  have hx2 : Sl μ2 ax cx x.Edges := Sl.of_own hφ (edgeReps _ _) rfl
  have hsW := hsW.mono hm22
  have hm0 := (hm0.mono hmw1).mono hm22
  have hm1 := (hm1.mono hmw1).mono hm22
  rw [← hes] at hsW
  rw [hel]
  refine CW.region [0] rfl ?_
  refine LW.ex rfl rfl rfl rfl (Ex.assign rfl) hS.rd ?_
  refine LW.nil fun aa ha => hK7 _ _ _ ?_ aa ha
  refine CW.seq fun K8 hK8 => ?_
  refine CW.seq fun K9 hK9 => ?_
  refine CW.region [0] rfl ?_
  refine LW.ex rfl rfl rfl rfl (Ex.assign rfl) hS.rd ?_
  refine LW.nil fun aa ha => hK9 _ _ _ ?_ aa ha
  refine CW.block ?_
  refine CW.loop (fun qq frm wl8 => ∃ (j : Nat) (s : Int), j ≤ es.length ∧ 0 ≤ s ∧ s ≤ j * 2000000 ∧ qq = es.length - j ∧ frm = [(5, .pointer (some ⟨b5, 0, none⟩)), (7, .bool true), (8, .pointer (some ⟨b8, 0, none⟩)), (9, .pointer (some ⟨b9, 0, none⟩)), (10, .slice adW es.length cW), (11, .bool true), (12, .int .i64 s), (13, .int .i64 j)] ∧ St w wl8 μ2 [Own.obj b9 [.int .i64 x.N, .slice ax x.Edges.length cx] 38, Own.obj b8 [.slice a0 m.Words.length c0, .slice a1 m.Counts.length c1, .slice none 0 0, .int .i64 0] 34, Own.obj b5 (b5L q) 68, Own.obj b4 [.slice r0 y.Words.length d0, .slice r1 y.Counts.length d1, .slice r2 y.Uses.length d2, .int .u8 y.Back.toNat] 27] ∧ (s = psum x m (W.1.take j))) _ ⟨0, 0, (by first | omega | (simp; done) | (simp; omega)), (by first | omega | (simp; done) | (simp; omega)), (by first | omega | (simp; done) | (simp; omega)), rfl, rfl, hS, rfl⟩ ⟨rfl, rfl, rfl, rfl, rfl, rfl, rfl, rfl, trivial⟩ ?_
  clear hS
  rintro qq frm wl8 ⟨j, s, hj, hs0, hs1, hq, rfl, hS, hs⟩
  refine CW.seq fun K10 hK10 => ?_
  refine CW.seq fun K11 hK11 => ?_
  refine CW.region [0, 1, 2, 3] rfl ?_
  refine LW.ex rfl rfl rfl rfl (Ex.move rfl) hS.rd ?_
  refine LW.ex rfl rfl rfl rfl (Ex.move rfl) hS.rd ?_
  refine LW.ex rfl rfl rfl rfl (Ex.lenSl rfl Try.underlying31 rfl) hS.rd ?_
  refine LW.ex rfl rfl rfl rfl (Ex.lss rfl rfl rfl) hS.rd ?_
  refine LW.splitB (fun h8_3 => ?_) (fun h8_3 => ?_)
  · have h8_3 := of_decide_eq_true h8_3
    refine LW.nil fun aa ha => hK11 _ _ _ ?_ aa ha
    refine CW.yes rfl ?_
    refine CW.skip fun aa ha => hK10 _ _ _ ?_ aa ha
    refine CW.seq fun K12 hK12 => ?_
    refine CW.block ?_
    refine CW.seq fun K13 hK13 => ?_
    have hSl := hS
    have hj2 : j < es.length := by omega
    have hj3 : j < W.1.length := by omega
    obtain ⟨be, oe, rfl, ke⟩ := hsW.at hj2
    obtain ⟨k, hk⟩ : ∃ k : Nat, k = W.1[j] := ⟨_, rfl⟩
    have hke : es[j] = (k : Int) := by subst hes; simp [hk]
    have hkl : k < x.Edges.length := hwin k (by rw [hk]; exact List.getElem_mem hj3)
    rw [hke] at ke
    obtain ⟨bl, ol, rfl, k0, k1, k2, k3⟩ := hx2.at hkl
    have hps := psum_take (x := x) (m := m) hj3
    rw [← hk, ← hs, edAt_of hkl] at hps
    obtain ⟨e, he⟩ : ∃ e, e = x.Edges[k] := ⟨_, rfl⟩
    have hek := hxe _ (List.getElem_mem hkl)
    have hew := of_decide_eq_true (hxw _ (List.getElem_mem hkl))
    rw [← he] at hps hek hew k0 k1 k2 k3
    have hwc := hmok.wordC0 e.Word
    have hS := hSl
    have hS := hS.drew
    refine CW.draw 9 (.ex 0 <| .ex 1 <| .ex 2 <| .ex 3 <| .ex 4 <| .ex 5 <| .ex 6 <| .ex 7 <| .one 8 <| .done) [9] (Rd _ _) mixed (by kernel_rfl) rfl rfl hS.rd ?_
    refine PW.ex rfl rfl rfl rfl (Ex.fieldO 1 Try.underlying38 rfl rfl ti36 rfl) ?_
    refine PW.ex rfl rfl rfl rfl (Ex.load1 ti36 rfl rfl (by first | exact obT rfl | exact Rd.imm ‹_› | exact slT ‹_›)) ?_
    refine PW.ex rfl rfl rfl rfl (Ex.move rfl) ?_
    refine PW.ex rfl rfl rfl rfl (Ex.move rfl) ?_
    refine PW.ex rfl rfl rfl rfl (Ex.indexSl Try.underlying31 ti3 rfl rfl rfl (by omega)) ?_
    refine PW.ex rfl rfl rfl rfl (Ex.load1 ti3 rfl rfl (by first | exact obT rfl | exact Rd.imm ‹_› | exact slT ‹_›)) ?_
    refine PW.ex rfl rfl rfl rfl (Ex.indexSl Try.underlying36 ti43 rfl rfl rfl (by omega)) ?_
    refine PW.ex rfl rfl rfl rfl (Ex.load4c ti43 rfl rfl (by first | exact obT rfl | exact Rd.imm ‹_› | exact slT ‹_›) (by first | exact obT rfl | exact Rd.imm ‹_› | exact slT ‹_›) (by first | exact obT rfl | exact Rd.imm ‹_› | exact slT ‹_›) (by first | exact obT rfl | exact Rd.imm ‹_› | exact slT ‹_›)) ?_
    refine PW.hv rfl rfl rfl rfl (Hv.alloc ti43 hS) (fun _ _ ⟨_, _, _, h⟩ => h.rd.tail) fun v w14 ⟨b14, hv, hb14, hS⟩ => ?_
    subst hv
    refine PW.nil ?_
    refine LW.hu rfl rfl rfl (Hv.storeN (k := 0) ti43 hS rfl rfl rfl rfl (by simp [Value.oneCell'])) fun _ w_9 hS => ?_
    dsimp only [List.set] at hS
    refine LW.nil fun aa ha => hK13 _ _ _ ?_ aa ha
    have hS := hS.drew
    refine CW.draw 10 (.ex 0 <| .ex 1 <| .ex 2 <| .ex 3 <| .ex 4 <| .ex 5 <| .one 6 <| .ex 7 <| .ex 8 <| .ex 9 <| .done) [] (Rd _ _) mixed (by kernel_rfl) rfl rfl hS.rd ?_
    refine PW.ex rfl rfl rfl rfl (Ex.move rfl) ?_
    refine PW.ex rfl rfl rfl rfl (Ex.fieldO 3 Try.underlying43 rfl rfl ti3 rfl) ?_
    refine PW.ex rfl rfl rfl rfl (Ex.load1 ti3 rfl rfl (by first | exact obT rfl | exact Rd.imm ‹_› | exact slT ‹_›)) ?_
    refine PW.ex rfl rfl rfl rfl (Ex.load4c ti34 rfl rfl (by first | exact obT rfl | exact Rd.imm ‹_› | exact slT ‹_›) (by first | exact obT rfl | exact Rd.imm ‹_› | exact slT ‹_›) (by first | exact obT rfl | exact Rd.imm ‹_› | exact slT ‹_›) (by first | exact obT rfl | exact Rd.imm ‹_› | exact slT ‹_›)) ?_
    refine PW.ex rfl rfl rfl rfl (Ex.fieldO 2 Try.underlying43 rfl rfl ti3 rfl) ?_
    refine PW.ex rfl rfl rfl rfl (Ex.load1 ti3 rfl rfl (by first | exact obT rfl | exact Rd.imm ‹_› | exact slT ‹_›)) ?_
    refine PW.hv rfl rfl rfl rfl (Hv.callS hS rfl rfl rfl cb22 (rword_p m hmok e.Word (by omega) hew _ _ _ _ _ _ hS.imm hm0 hm1)) (fun _ _ h => h.2.rd) fun v w63 ⟨hv, hS⟩ => ?_
    subst hv
    refine PW.ex rfl rfl rfl rfl (Ex.add rfl rfl (w64 (by omega) (by omega))) ?_
    refine PW.ex rfl rfl rfl rfl (Ex.add rfl rfl (w64 (by omega) (by omega))) ?_
    refine PW.ex rfl rfl rfl rfl (Ex.assign rfl) ?_
    refine PW.nil ?_
    refine LW.nil fun aa ha => hK12 _ _ _ ?_ aa ha
    refine CW.region [0, 1, 2] rfl ?_
    refine LW.ex rfl rfl rfl rfl (Ex.move rfl) hS.rd ?_
    refine LW.ex rfl rfl rfl rfl (Ex.add rfl rfl (by first | exact inc64 (by omega) | exact addN (by omega) | exact w64 (by omega) (by omega))) hS.rd ?_
    refine LW.ex rfl rfl rfl rfl (Ex.assign rfl) hS.rd ?_
    refine LW.nil fun aa ha => ?_
    have hS := hS.drop 0 rfl
    dsimp only [List.eraseIdx] at hS
    refine ⟨_, _, ?m8, ⟨j + 1, s + (e.Cost + wordC m e.Word), (by first | omega | (simp; done) | (simp; omega)), (by first | omega | (simp; done) | (simp; omega)), (by first | omega | (simp; done) | (simp; omega)), rfl, rfl, hS, hps.symm⟩, ha.sub ⟨rfl, rfl, rfl, rfl, rfl, rfl, rfl, rfl, trivial⟩⟩
    case m8 => omega
  · have h8_3 := of_decide_eq_false h8_3
    refine LW.nil fun aa ha => hK11 _ _ _ ?_ aa ha
    refine CW.no rfl ?_
    refine CW.exit fun aa ha => hK8 _ _ _ ?_ aa ha
    refine CW.seq fun K14 hK14 => ?_
    have hsS : s = S := by rw [hs, hSs, List.take_of_length_le (by omega)]
    rw [hsS]
    refine CW.region [0, 1, 2, 3, 4, 5, 6, 7, 8] rfl ?_
    refine LW.ex rfl rfl rfl rfl (Ex.load2c ti38 rfl rfl (by first | exact obT rfl | exact Rd.imm ‹_› | exact slT ‹_›) (by first | exact obT rfl | exact Rd.imm ‹_› | exact slT ‹_›)) hS.rd ?_
    refine LW.ex rfl rfl rfl rfl (Ex.load4c ti34 rfl rfl (by first | exact obT rfl | exact Rd.imm ‹_› | exact slT ‹_›) (by first | exact obT rfl | exact Rd.imm ‹_› | exact slT ‹_›) (by first | exact obT rfl | exact Rd.imm ‹_› | exact slT ‹_›) (by first | exact obT rfl | exact Rd.imm ‹_› | exact slT ‹_›)) hS.rd ?_
    refine LW.ex rfl rfl rfl rfl (Ex.move rfl) hS.rd ?_
    refine LW.hv rfl rfl rfl rfl (Hv.callS hS rfl rfl rfl cb15 (ccost_p x m (-1) es S (hC (-1) (by omega)) hmw hsmall (by omega) _ _ _ _ _ _ _ _ _ _ hS.imm hx2 hm0 hm1 hsW)) fun v w70 ⟨hv, hS⟩ => ?_
    subst hv
    refine LW.ex rfl rfl rfl rfl (Ex.move rfl) hS.rd ?_
    refine LW.ex rfl rfl rfl rfl (Ex.extract rfl rfl) hS.rd ?_
    refine LW.ex rfl rfl rfl rfl (Ex.extract rfl rfl) hS.rd ?_
    refine LW.ex rfl rfl rfl rfl (Ex.assign rfl) hS.rd ?_
    refine LW.ex rfl rfl rfl rfl (Ex.assign rfl) hS.rd ?_
    refine LW.nil fun aa ha => hK14 _ _ _ ?_ aa ha
    refine CW.seq fun K15 hK15 => ?_
    have hS := hS.drew
    refine CW.draw 16 (.ex 0 <| .ex 1 <| .ex 2 <| .ex 3 <| .ex 4 <| .ex 5 <| .ex 6 <| .ex 7 <| .ex 8 <| .ex 9 <| .one 10 <| .ex 11 <| .ex 12 <| .ex 13 <| .ex 14 <| .ex 15 <| .done) [] (Rd _ _) mixed (by kernel_rfl) rfl rfl hS.rd ?_
    refine PW.ex rfl rfl rfl rfl (Ex.load2c ti38 rfl rfl (by first | exact obT rfl | exact Rd.imm ‹_› | exact slT ‹_›) (by first | exact obT rfl | exact Rd.imm ‹_› | exact slT ‹_›)) ?_
    refine PW.ex rfl rfl rfl rfl (Ex.load4c ti34 rfl rfl (by first | exact obT rfl | exact Rd.imm ‹_› | exact slT ‹_›) (by first | exact obT rfl | exact Rd.imm ‹_› | exact slT ‹_›) (by first | exact obT rfl | exact Rd.imm ‹_› | exact slT ‹_›) (by first | exact obT rfl | exact Rd.imm ‹_› | exact slT ‹_›)) ?_
    refine PW.ex rfl rfl rfl rfl (Ex.indexArr (j := 1) Try.underlying68 ti5 rfl rfl rfl (by omega)) ?_
    refine PW.ex rfl rfl rfl rfl (Ex.load1 ti5 rfl rfl (by first | exact obT rfl | exact Rd.imm ‹_› | exact slT ‹_›)) ?_
    refine PW.ex rfl rfl rfl rfl (Ex.conv Try.underlying5 Try.underlying3 rfl (by first | exact w64 (by omega) (by omega) | exact wu8 (by omega) (by omega))) ?_
    refine PW.ex rfl rfl rfl rfl (Ex.fieldO 0 Try.underlying34 rfl rfl ti30 rfl) ?_
    refine PW.ex rfl rfl rfl rfl (Ex.load1 ti30 rfl rfl (by first | exact obT rfl | exact Rd.imm ‹_› | exact slT ‹_›)) ?_
    refine PW.ex rfl rfl rfl rfl (Ex.lenSl rfl Try.underlying30 rfl) ?_
    refine PW.ex rfl rfl rfl rfl (Ex.rem (r := ((q.b.toNat % m.Words.length : Nat) : Int)) rfl rfl (by omega) (remN _ _)) ?_
    refine PW.ex rfl rfl rfl rfl (Ex.move rfl) ?_
    refine PW.hv rfl rfl rfl rfl (Hv.callS hS rfl rfl rfl cb15 (ccost_p x m ((q.b.toNat % m.Words.length : Nat) : Int) es S (hC _ (by omega)) hmw hsmall (by omega) _ _ _ _ _ _ _ _ _ _ hS.imm hx2 hm0 hm1 hsW)) (fun _ _ h => h.2.rd) fun v w84 ⟨hv, hS⟩ => ?_
    subst hv
    refine PW.ex rfl rfl rfl rfl (Ex.move rfl) ?_
    refine PW.ex rfl rfl rfl rfl (Ex.extract rfl rfl) ?_
    refine PW.ex rfl rfl rfl rfl (Ex.extract rfl rfl) ?_
    refine PW.ex rfl rfl rfl rfl (Ex.assign rfl) ?_
    refine PW.ex rfl rfl rfl rfl (Ex.assign rfl) ?_
    refine PW.nil ?_
    refine LW.nil fun aa ha => hK15 _ _ _ ?_ aa ha
    refine CW.seq fun K16 hK16 => ?_
    refine CW.region [0, 1, 2, 3, 4, 5, 6, 7, 8, 9, 10, 11, 12, 13, 14, 15, 16, 17, 18, 19, 20] rfl ?_
    refine LW.ex rfl rfl rfl rfl (Ex.move rfl) hS.rd ?_
    refine LW.ex rfl rfl rfl rfl (Ex.move rfl) hS.rd ?_
    refine LW.ex rfl rfl rfl rfl (Ex.move rfl) hS.rd ?_
    refine LW.ex rfl rfl rfl rfl (by first | exact Ex.pick_yes rfl rfl | exact Ex.pick_no rfl rfl) hS.rd ?_
    refine LW.ex rfl rfl rfl rfl (Ex.move rfl) hS.rd ?_
    refine LW.ex rfl rfl rfl rfl (Ex.move rfl) hS.rd ?_
    refine LW.ex rfl rfl rfl rfl (by first | exact Ex.pick_yes rfl rfl | exact Ex.pick_no rfl rfl) hS.rd ?_
    refine LW.ex rfl rfl rfl rfl (Ex.move rfl) hS.rd ?_
    refine LW.ex rfl rfl rfl rfl (Ex.move rfl) hS.rd ?_
    refine LW.ex rfl rfl rfl rfl (Ex.move rfl) hS.rd ?_
    refine LW.ex rfl rfl rfl rfl (Ex.eql rfl rfl rfl) hS.rd ?_
    refine LW.splitB (fun h14_10 => ?_) (fun h14_10 => ?_)
    · have h14_10 := of_decide_eq_true h14_10
      refine LW.ex rfl rfl rfl rfl (by first | exact Ex.pick_yes rfl rfl | exact Ex.pick_no rfl rfl) hS.rd ?_
      refine LW.ex rfl rfl rfl rfl (Ex.move rfl) hS.rd ?_
      refine LW.ex rfl rfl rfl rfl (Ex.move rfl) hS.rd ?_
      refine LW.ex rfl rfl rfl rfl (Ex.move rfl) hS.rd ?_
      refine LW.ex rfl rfl rfl rfl (Ex.eql rfl rfl rfl) hS.rd ?_
      refine LW.splitB (fun h14_15 => ?_) (fun h14_15 => ?_)
      · have h14_15 := of_decide_eq_true h14_15
        refine LW.ex rfl rfl rfl rfl (by first | exact Ex.pick_yes rfl rfl | exact Ex.pick_no rfl rfl) hS.rd ?_
        refine LW.ex rfl rfl rfl rfl (Ex.move rfl) hS.rd ?_
        refine LW.ex rfl rfl rfl rfl (Ex.move rfl) hS.rd ?_
        refine LW.ex rfl rfl rfl rfl (by first | exact Ex.pick_yes rfl rfl | exact Ex.pick_no rfl rfl) hS.rd ?_
        refine LW.ex rfl rfl rfl rfl (Ex.assign rfl) hS.rd ?_
        refine LW.nil fun aa ha => hK16 _ _ _ ?_ aa ha
        refine CW.ret fun aa ha => ?_
        refine ret_one ha Try.results5 rfl ?_
        exact hS.retS
      · have h14_15 := of_decide_eq_false h14_15
        exact absurd rfl h14_15
    · have h14_10 := of_decide_eq_false h14_10
      exact absurd rfl h14_10
end Go.Proofs.Ytgnpjhellmfhoaa

