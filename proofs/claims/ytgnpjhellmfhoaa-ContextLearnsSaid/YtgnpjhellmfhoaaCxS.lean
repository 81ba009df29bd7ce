/-
  Context: the walks of the reference's nodes and of its Build.
-/
import Derived.Test.YtgnpjhellmfhoaaCxR
namespace Go.Proofs.Ytgnpjhellmfhoaa
open Go.RowKit Sy


theorem ends_c (x : Lat) (p v : Nat) (a3 : Option Addr) (c3 : Nat) (μ : Mem) (w : World) (hμ : Imm μ w) (hl : Sl μ a3 c3 x.Edges) :
    Calls Try.prog 43 #[.agg #[.int .i64 x.N, .slice a3 x.Edges.length c3], .agg #[.int .i64 p, .int .i64 v]] w (RetS w (.bool (endsAt x p v))) := by
  have h1 := hl.1
  have h2 := hl.2.1
  simp only [maxLen] at h2
  have hS := St.start w μ hμ
  refine calls_start 33 [.agg #[.int .i64 x.N, .slice a3 x.Edges.length c3], .agg #[.int .i64 p, .int .i64 v]] Try.func43 rfl Try.ntmps43 rfl rfl ?_
  refine CW.seq fun K1 hK1 => ?_
  refine CW.region [0, 1, 2] rfl ?_
  refine LW.hv rfl rfl rfl rfl (Hv.boxS hS rfl rfl) fun v w2 ⟨b2, hv, hb2, hS⟩ => ?_
  subst hv
  refine LW.hv rfl rfl rfl rfl (Hv.boxS hS rfl rfl) fun v w3 ⟨b3, hv, hb3, hS⟩ => ?_
  subst hv
  refine LW.ex rfl rfl rfl rfl (Ex.assign rfl) hS.rd ?_
  refine LW.nil fun aa ha => hK1 _ _ _ ?_ aa ha
  refine CW.seq fun K2 hK2 => ?_
  refine CW.seq fun K3 hK3 => ?_
  refine CW.region [0] rfl ?_
  refine LW.ex rfl rfl rfl rfl (Ex.assign rfl) hS.rd ?_
  refine LW.nil fun aa ha => hK3 _ _ _ ?_ aa ha
  refine CW.block ?_
  refine CW.loop (fun qq frm wl2 => ∃ (i : Nat), i ≤ x.Edges.length ∧ qq = x.Edges.length - i ∧ frm = [(2, .pointer (some ⟨b2, 0, none⟩)), (3, .pointer (some ⟨b3, 0, none⟩)), (5, .int .i64 i)] ∧ St w wl2 μ [Own.obj b3 [.int .i64 p, .int .i64 v] 97, Own.obj b2 [.int .i64 x.N, .slice a3 x.Edges.length c3] 38] ∧ (∀ j (hj : j < x.Edges.length), j < i → ¬ (x.Edges[j].To = p ∧ x.Edges[j].Word = v))) _ ⟨0, (by first | omega | (simp; done) | (simp; omega)), rfl, rfl, hS, fun j _ hj => by omega⟩ ⟨rfl, rfl, rfl, trivial⟩ ?_
  clear hS
  rintro qq frm wl2 ⟨i, hi, hq, rfl, hS, he⟩
  refine CW.seq fun K4 hK4 => ?_
  refine CW.seq fun K5 hK5 => ?_
  refine CW.region [0, 1, 2, 3, 4] rfl ?_
  refine LW.ex rfl rfl rfl rfl (Ex.move rfl) hS.rd ?_
  refine LW.ex rfl rfl rfl rfl (Ex.fieldO 1 Try.underlying38 rfl rfl ti36 rfl) hS.rd ?_
  refine LW.ex rfl rfl rfl rfl (Ex.load1 ti36 rfl rfl (by first | exact obT rfl | exact Rd.imm ‹_› | exact slT ‹_›)) hS.rd ?_
  refine LW.ex rfl rfl rfl rfl (Ex.lenSl rfl Try.underlying36 rfl) hS.rd ?_
  refine LW.ex rfl rfl rfl rfl (Ex.lss rfl rfl rfl) hS.rd ?_
  refine LW.splitB (fun h2_4 => ?_) (fun h2_4 => ?_)
  · have h2_4 := of_decide_eq_true h2_4
    refine LW.nil fun aa ha => hK5 _ _ _ ?_ aa ha
    refine CW.yes rfl ?_
    refine CW.skip fun aa ha => hK4 _ _ _ ?_ aa ha
    refine CW.seq fun K6 hK6 => ?_
    refine CW.block ?_
    refine CW.seq fun K7 hK7 => ?_
    have hi2 : i < x.Edges.length := by omega
    obtain ⟨bl, ol, rfl, k0, k1, k2, k3⟩ := hl.at hi2
    have hS := hS.drew
    refine CW.draw 20 (.ex 0 <| .ex 1 <| .ex 2 <| .ex 3 <| .ex 4 <| .ex 5 <| .ex 6 <| .ex 7 <| .ex 8 <| .ex 9 <| .ex 10 <| .ex 11 <| .ex 12 <| .ex 13 <| .ex 14 <| .ex 15 <| .ex 16 <| .ex 17 <| .ex 18 <| .ex 19 <| .done) [] (Rd _ _) mixed (by kernel_rfl) rfl rfl hS.rd ?_
    refine PW.ex rfl rfl rfl rfl (Ex.fieldO 1 Try.underlying38 rfl rfl ti36 rfl) ?_
    refine PW.ex rfl rfl rfl rfl (Ex.load1 ti36 rfl rfl (by first | exact obT rfl | exact Rd.imm ‹_› | exact slT ‹_›)) ?_
    refine PW.ex rfl rfl rfl rfl (Ex.move rfl) ?_
    refine PW.ex rfl rfl rfl rfl (Ex.indexSl Try.underlying36 ti43 rfl rfl rfl (by omega)) ?_
    refine PW.ex rfl rfl rfl rfl (Ex.fieldO 1 Try.underlying43 rfl rfl ti3 rfl) ?_
    refine PW.ex rfl rfl rfl rfl (Ex.load1 ti3 rfl rfl (by first | exact obT rfl | exact Rd.imm ‹_› | exact slT ‹_›)) ?_
    refine PW.ex rfl rfl rfl rfl (Ex.fieldO 0 Try.underlying97 rfl rfl ti3 rfl) ?_
    refine PW.ex rfl rfl rfl rfl (Ex.load1 ti3 rfl rfl (by first | exact obT rfl | exact Rd.imm ‹_› | exact slT ‹_›)) ?_
    refine PW.ex rfl rfl rfl rfl (Ex.eql rfl rfl rfl) ?_
    refine PW.splitB (fun h4_8 => ?_) (fun h4_8 => ?_)
    · have h4_8 := of_decide_eq_true h4_8
      refine PW.ex rfl rfl rfl rfl (Ex.move rfl) ?_
      refine PW.ex rfl rfl rfl rfl (Ex.fieldO 1 Try.underlying38 rfl rfl ti36 rfl) ?_
      refine PW.ex rfl rfl rfl rfl (Ex.load1 ti36 rfl rfl (by first | exact obT rfl | exact Rd.imm ‹_› | exact slT ‹_›)) ?_
      refine PW.ex rfl rfl rfl rfl (Ex.move rfl) ?_
      refine PW.ex rfl rfl rfl rfl (Ex.indexSl Try.underlying36 ti43 rfl rfl rfl (by omega)) ?_
      refine PW.ex rfl rfl rfl rfl (Ex.fieldO 2 Try.underlying43 rfl rfl ti3 rfl) ?_
      refine PW.ex rfl rfl rfl rfl (Ex.load1 ti3 rfl rfl (by first | exact obT rfl | exact Rd.imm ‹_› | exact slT ‹_›)) ?_
      refine PW.ex rfl rfl rfl rfl (Ex.fieldO 1 Try.underlying97 rfl rfl ti3 rfl) ?_
      refine PW.ex rfl rfl rfl rfl (Ex.load1 ti3 rfl rfl (by first | exact obT rfl | exact Rd.imm ‹_› | exact slT ‹_›)) ?_
      refine PW.ex rfl rfl rfl rfl (Ex.eql rfl rfl rfl) ?_
      refine PW.splitB (fun h4_18 => ?_) (fun h4_18 => ?_)
      · have h4_18 := of_decide_eq_true h4_18
        refine PW.ex rfl rfl rfl rfl (by first | exact Ex.pick_yes rfl rfl | exact Ex.pick_no rfl rfl) ?_
        refine PW.nil ?_
        refine LW.nil fun aa ha => hK7 _ _ _ ?_ aa ha
        refine CW.yes rfl ?_
        refine CW.seq fun K8 hK8 => ?_
        refine CW.region [0] rfl ?_
        refine LW.ex rfl rfl rfl rfl (Ex.assign rfl) hS.rd ?_
        refine LW.nil fun aa ha => hK8 _ _ _ ?_ aa ha
        refine CW.ret fun aa ha => ?_
        refine ret_one ha Try.results43 rfl ?_
        have e : endsAt x p v = true := by unfold endsAt; rw [List.any_eq_true]; exact ⟨_, List.getElem_mem hi2, decide_eq_true ⟨by omega, by omega⟩⟩
        rw [e]; exact hS.retS
      · have h4_18 := of_decide_eq_false h4_18
        refine PW.ex rfl rfl rfl rfl (by first | exact Ex.pick_yes rfl rfl | exact Ex.pick_no rfl rfl) ?_
        refine PW.nil ?_
        refine LW.nil fun aa ha => hK7 _ _ _ ?_ aa ha
        refine CW.no rfl ?_
        refine CW.skip fun aa ha => hK6 _ _ _ ?_ aa ha
        refine CW.region [0, 1, 2] rfl ?_
        refine LW.ex rfl rfl rfl rfl (Ex.move rfl) hS.rd ?_
        refine LW.ex rfl rfl rfl rfl (Ex.add rfl rfl (by first | exact inc64 (by omega) | exact addN (by omega) | exact w64 (by omega) (by omega))) hS.rd ?_
        refine LW.ex rfl rfl rfl rfl (Ex.assign rfl) hS.rd ?_
        refine LW.nil fun aa ha => ?_
        refine ⟨_, _, ?m2, ⟨i + 1, (by first | omega | (simp; done) | (simp; omega)), rfl, rfl, hS, fun j hj hji => by by_cases h : j = i; (· subst h; omega); (· exact he j hj (by omega))⟩, ha.sub ⟨rfl, rfl, rfl, trivial⟩⟩
        case m2 => omega
    · have h4_8 := of_decide_eq_false h4_8
      refine PW.ex rfl rfl rfl rfl (Ex.move rfl) ?_
      refine PW.skip rfl rfl rfl rfl ?_
      refine PW.skip rfl rfl rfl rfl ?_
      refine PW.skip rfl rfl rfl rfl ?_
      refine PW.skip rfl rfl rfl rfl ?_
      refine PW.skip rfl rfl rfl rfl ?_
      refine PW.skip rfl rfl rfl rfl ?_
      refine PW.skip rfl rfl rfl rfl ?_
      refine PW.skip rfl rfl rfl rfl ?_
      refine PW.skip rfl rfl rfl rfl ?_
      refine PW.ex rfl rfl rfl rfl (by first | exact Ex.pick_yes rfl rfl | exact Ex.pick_no rfl rfl) ?_
      refine PW.nil ?_
      refine LW.nil fun aa ha => hK7 _ _ _ ?_ aa ha
      refine CW.no rfl ?_
      refine CW.skip fun aa ha => hK6 _ _ _ ?_ aa ha
      refine CW.region [0, 1, 2] rfl ?_
      refine LW.ex rfl rfl rfl rfl (Ex.move rfl) hS.rd ?_
      refine LW.ex rfl rfl rfl rfl (Ex.add rfl rfl (by first | exact inc64 (by omega) | exact addN (by omega) | exact w64 (by omega) (by omega))) hS.rd ?_
      refine LW.ex rfl rfl rfl rfl (Ex.assign rfl) hS.rd ?_
      refine LW.nil fun aa ha => ?_
      refine ⟨_, _, ?m2, ⟨i + 1, (by first | omega | (simp; done) | (simp; omega)), rfl, rfl, hS, fun j hj hji => by by_cases h : j = i; (· subst h; omega); (· exact he j hj (by omega))⟩, ha.sub ⟨rfl, rfl, rfl, trivial⟩⟩
      case m2 => omega
  · have h2_4 := of_decide_eq_false h2_4
    refine LW.nil fun aa ha => hK5 _ _ _ ?_ aa ha
    refine CW.no rfl ?_
    refine CW.exit fun aa ha => hK2 _ _ _ ?_ aa ha
    refine CW.seq fun K9 hK9 => ?_
    refine CW.region [0] rfl ?_
    refine LW.ex rfl rfl rfl rfl (Ex.assign rfl) hS.rd ?_
    refine LW.nil fun aa ha => hK9 _ _ _ ?_ aa ha
    refine CW.ret fun aa ha => ?_
    refine ret_one ha Try.results43 rfl ?_
    have e : endsAt x p v = false := by unfold endsAt; rw [List.any_eq_false]; intro z hz hc; obtain ⟨j, hj, rfl⟩ := List.getElem_of_mem hz; exact he j hj (by omega) (of_decide_eq_true hc)
    rw [e]; exact hS.retS
/-- The nodes at a place, for the words up to one. -/
def rowTo (x : Lat) (q k : Nat) : List I2 := ((List.range k).filter fun w => endsAt x q w).map fun (w : Nat) => (⟨q, w⟩ : I2)
def rowsTo (x : Lat) (n q : Nat) : List I2 := (List.range' 1 (q - 1)).flatMap fun r => rowTo x r n
theorem rowTo_succ (x : Lat) (q k : Nat) : rowTo x q (k + 1) = rowTo x q k ++ if endsAt x q k = true then [⟨q, k⟩] else [] := by
  unfold rowTo
  rw [List.range_succ, List.filter_append, List.map_append]
  congr 1
  by_cases h : endsAt x q k = true
  · simp [h]
  · simp [h]
theorem rowsTo_succ (x : Lat) (n q : Nat) (hq : 1 ≤ q) : rowsTo x n (q + 1) = rowsTo x n q ++ rowTo x q n := by
  unfold rowsTo
  obtain ⟨r, rfl⟩ : ∃ r, q = r + 1 := ⟨q - 1, by omega⟩
  rw [show r + 1 + 1 - 1 = (r + 1 - 1) + 1 by omega, List.range'_1_concat, List.flatMap_append]
  simp [Nat.add_comm]
theorem rowTo_len (x : Lat) (q k : Nat) : (rowTo x q k).length ≤ k := by unfold rowTo; rw [List.length_map]; exact Nat.le_trans (List.length_filter_le _ _) (by simp)
set_option maxRecDepth 100000 in
set_option maxHeartbeats 1000000 in
theorem rnodes_c (x : Lat) (n : Nat) (p : Int) (hN : 0 ≤ x.N ∧ x.N ≤ 40) (hn : n ≤ 200) (a3 : Option Addr) (c3 : Nat) (μ : Mem) (w : World) (hμ : Imm μ w) (hl : Sl μ a3 c3 x.Edges) :
    Calls Try.prog 21 #[.agg #[.int .i64 x.N, .slice a3 x.Edges.length c3], .int .i64 n, .int .i64 p] w (RetV w μ (IsSl (nodesL x n p))) := by
  have hn1 : nodesL x n p = ⟨0, p⟩ :: (rowsTo x n x.N.toNat ++ if 0 < x.N then [⟨x.N, -1⟩] else []) := rfl
  have hS := St.start w μ hμ
  refine calls_start 45 [.agg #[.int .i64 x.N, .slice a3 x.Edges.length c3], .int .i64 n, .int .i64 p] Try.func21 rfl Try.ntmps21 rfl rfl ?_
  refine CW.seq fun K10 hK10 => ?_
  refine CW.region [0, 1] rfl ?_
  refine LW.hv rfl rfl rfl rfl (Hv.boxS hS rfl rfl) fun v w3 ⟨b3, hv, hb3, hS⟩ => ?_
  subst hv
  refine LW.ex rfl rfl rfl rfl (Ex.assign rfl) hS.rd ?_
  refine LW.nil fun aa ha => hK10 _ _ _ ?_ aa ha
  refine CW.seq fun K11 hK11 => ?_
  refine CW.region [0, 1, 2, 3] rfl ?_
  refine LW.ex rfl rfl rfl rfl (Ex.move rfl) hS.rd ?_
  refine LW.ex rfl rfl rfl rfl (Ex.buildS st97 rfl rfl rfl) hS.rd ?_
  refine LW.hv rfl rfl rfl rfl (Hv.buildSl hS Try.underlying63 ti97 rfl rfl rfl rfl rfl rfl) fun v w12 ⟨b12, hv, hb12, hS⟩ => ?_
  subst hv
  refine LW.ex rfl rfl rfl rfl (Ex.assign rfl) hS.rd ?_
  refine LW.nil fun aa ha => hK11 _ _ _ ?_ aa ha
  refine CW.seq fun K12 hK12 => ?_
  refine CW.seq fun K13 hK13 => ?_
  refine CW.region [0] rfl ?_
  refine LW.ex rfl rfl rfl rfl (Ex.assign rfl) hS.rd ?_
  refine LW.nil fun aa ha => hK13 _ _ _ ?_ aa ha
  refine CW.block ?_
  have hS : St w _ μ (_ :: _) := hS.row_sl (k := 0) rfl 1 2 rfl (by simp [maxLen])
  refine CW.loop (fun qq frm wl3 => ∃ (q : Nat) (ad : Option Addr) (c : Nat) (l : Nat) (ls : List I2), 1 ≤ q ∧ q ≤ max 1 x.N.toNat ∧ l = ls.length ∧ l ≤ 1 + (q - 1) * 200 ∧ qq = 41 - q ∧ frm = [(1, .int .i64 n), (3, .pointer (some ⟨b3, 0, none⟩)), (7, .slice ad l c), (8, .int .i64 q)] ∧ St w wl3 μ [Own.sl ad l c 97 2 (ls.flatMap i2L), Own.obj b3 [.int .i64 x.N, .slice a3 x.Edges.length c3] 38] ∧ (ls = ⟨0, p⟩ :: rowsTo x n q)) _ ⟨1, some ⟨b12, 0, none⟩, 1, 1, [⟨0, p⟩], (by first | omega | (simp; done) | (simp; omega)), (by first | omega | (simp; done) | (simp; omega)), (by first | omega | (simp; done) | (simp; omega)), (by first | omega | (simp; done) | (simp; omega)), rfl, rfl, hS, rfl⟩ ⟨rfl, rfl, rfl, rfl, trivial⟩ ?_
  clear hS
  rintro qq frm wl3 ⟨q, ad, c, l, ls, hq1, hq2, hll, hlb, hq, rfl, hS, hls⟩
  refine CW.seq fun K14 hK14 => ?_
  refine CW.seq fun K15 hK15 => ?_
  refine CW.region [0, 1, 2, 3] rfl ?_
  refine LW.ex rfl rfl rfl rfl (Ex.move rfl) hS.rd ?_
  refine LW.ex rfl rfl rfl rfl (Ex.fieldO 0 Try.underlying38 rfl rfl ti3 rfl) hS.rd ?_
  refine LW.ex rfl rfl rfl rfl (Ex.load1 ti3 rfl rfl (by first | exact obT rfl | exact Rd.imm ‹_› | exact slT ‹_›)) hS.rd ?_
  refine LW.ex rfl rfl rfl rfl (Ex.lss rfl rfl rfl) hS.rd ?_
  refine LW.splitB (fun h3_3 => ?_) (fun h3_3 => ?_)
  · have h3_3 := of_decide_eq_true h3_3
    refine LW.nil fun aa ha => hK15 _ _ _ ?_ aa ha
    refine CW.yes rfl ?_
    refine CW.skip fun aa ha => hK14 _ _ _ ?_ aa ha
    refine CW.seq fun K16 hK16 => ?_
    refine CW.block ?_
    refine CW.seq fun K17 hK17 => ?_
    refine CW.region [0] rfl ?_
    refine LW.ex rfl rfl rfl rfl (Ex.assign rfl) hS.rd ?_
    refine LW.nil fun aa ha => hK17 _ _ _ ?_ aa ha
    refine CW.block ?_
    refine CW.loop (fun qq frm wl6 => ∃ (k : Nat) (ad : Option Addr) (c : Nat) (l2 : Nat) (ls2 : List I2), k ≤ n ∧ l2 = ls2.length ∧ l2 ≤ 1 + (q - 1) * 200 + k ∧ qq = n - k ∧ frm = [(1, .int .i64 n), (3, .pointer (some ⟨b3, 0, none⟩)), (7, .slice ad l2 c), (8, .int .i64 q), (9, .int .i64 k)] ∧ St w wl6 μ [Own.sl ad l2 c 97 2 (ls2.flatMap i2L), Own.obj b3 [.int .i64 x.N, .slice a3 x.Edges.length c3] 38] ∧ (ls2 = ls ++ rowTo x q k)) _ ⟨0, ad, c, l, ls, (by first | omega | (simp; done) | (simp; omega)), (by first | omega | (simp; done) | (simp; omega)), (by first | omega | (simp; done) | (simp; omega)), rfl, rfl, hS, by simp [rowTo]⟩ ⟨rfl, rfl, rfl, rfl, rfl, trivial⟩ ?_
    clear hS
    rintro qq frm wl6 ⟨k, ad, c, l2, ls2, hk, hll2, hlb2, hq, rfl, hS, hls2⟩
    refine CW.seq fun K18 hK18 => ?_
    refine CW.seq fun K19 hK19 => ?_
    refine CW.region [0, 1, 2] rfl ?_
    refine LW.ex rfl rfl rfl rfl (Ex.move rfl) hS.rd ?_
    refine LW.ex rfl rfl rfl rfl (Ex.move rfl) hS.rd ?_
    refine LW.ex rfl rfl rfl rfl (Ex.lss rfl rfl rfl) hS.rd ?_
    refine LW.splitB (fun h6_2 => ?_) (fun h6_2 => ?_)
    · have h6_2 := of_decide_eq_true h6_2
      refine LW.nil fun aa ha => hK19 _ _ _ ?_ aa ha
      refine CW.yes rfl ?_
      refine CW.skip fun aa ha => hK18 _ _ _ ?_ aa ha
      refine CW.seq fun K20 hK20 => ?_
      refine CW.block ?_
      refine CW.seq fun K21 hK21 => ?_
      have hrs := rowTo_succ x q k
      refine CW.region [0, 1, 2, 3, 4] rfl ?_
      refine LW.ex rfl rfl rfl rfl (Ex.load2c ti38 rfl rfl (by first | exact obT rfl | exact Rd.imm ‹_› | exact slT ‹_›) (by first | exact obT rfl | exact Rd.imm ‹_› | exact slT ‹_›)) hS.rd ?_
      refine LW.ex rfl rfl rfl rfl (Ex.move rfl) hS.rd ?_
      refine LW.ex rfl rfl rfl rfl (Ex.move rfl) hS.rd ?_
      refine LW.ex rfl rfl rfl rfl (Ex.buildS st97 rfl rfl rfl) hS.rd ?_
      refine LW.hv rfl rfl rfl rfl (Hv.callS hS rfl rfl rfl cb43 (ends_c x q k _ _ μ _ hS.imm hl)) fun v w28 ⟨hv, hS⟩ => ?_
      subst hv
      refine LW.splitB (fun h8_4 => ?_) (fun h8_4 => ?_)
      · rw [if_pos h8_4] at hrs
        refine LW.nil fun aa ha => hK21 _ _ _ ?_ aa ha
        refine CW.yes rfl ?_
        refine CW.region [0, 1, 2, 3, 4, 5, 6] rfl ?_
        refine LW.ex rfl rfl rfl rfl (Ex.move rfl) hS.rd ?_
        refine LW.ex rfl rfl rfl rfl (Ex.move rfl) hS.rd ?_
        refine LW.ex rfl rfl rfl rfl (Ex.move rfl) hS.rd ?_
        refine LW.ex rfl rfl rfl rfl (Ex.buildS st97 rfl rfl rfl) hS.rd ?_
        refine LW.hv rfl rfl rfl rfl (Hv.buildSl hS Try.underlying63 ti97 rfl rfl rfl rfl rfl rfl) fun v w33 ⟨b33, hv, hb33, hS⟩ => ?_
        subst hv
        refine LW.hv rfl rfl rfl rfl (Hv.append (k := 1) rfl Try.underlying63 ti97 rfl hS rfl rfl rfl rfl (Rd.objAll (k := 0) rfl hS.rd) (by simp [Value.oneCell']) (by unfold maxLen; omega) (by omega)) fun v w34 ⟨ad34, c34, hv, hS⟩ => ?_
        subst hv
        dsimp only [List.set] at hS
        have hS := hS.drop 0 rfl
        dsimp only [List.eraseIdx] at hS
        refine LW.ex rfl rfl rfl rfl (Ex.assign rfl) hS.rd ?_
        refine LW.nil fun aa ha => hK20 _ _ _ ?_ aa ha
        refine CW.region [0, 1, 2] rfl ?_
        refine LW.ex rfl rfl rfl rfl (Ex.move rfl) hS.rd ?_
        refine LW.ex rfl rfl rfl rfl (Ex.add rfl rfl (by first | exact inc64 (by omega) | exact addN (by omega) | exact w64 (by omega) (by omega))) hS.rd ?_
        refine LW.ex rfl rfl rfl rfl (Ex.assign rfl) hS.rd ?_
        refine LW.nil fun aa ha => ?_
        rw [show ls2.flatMap i2L ++ [Value.int .i64 q, .int .i64 k] = (ls2 ++ [(⟨q, k⟩ : I2)]).flatMap i2L by rw [List.flatMap_append]; rfl] at hS
        refine ⟨_, _, ?m6, ⟨k + 1, ad34, c34, l2 + 1, ls2 ++ [⟨q, k⟩], (by first | omega | (simp; done) | (simp; omega)), (by first | omega | (simp; done) | (simp; omega)), (by first | omega | (simp; done) | (simp; omega)), rfl, rfl, hS, by rw [hrs, hls2, List.append_assoc]⟩, ha.sub ⟨rfl, rfl, rfl, rfl, rfl, trivial⟩⟩
        case m6 => omega
      · rw [if_neg (by rw [h8_4]; decide)] at hrs
        refine LW.nil fun aa ha => hK21 _ _ _ ?_ aa ha
        refine CW.no rfl ?_
        refine CW.skip fun aa ha => hK20 _ _ _ ?_ aa ha
        refine CW.region [0, 1, 2] rfl ?_
        refine LW.ex rfl rfl rfl rfl (Ex.move rfl) hS.rd ?_
        refine LW.ex rfl rfl rfl rfl (Ex.add rfl rfl (by first | exact inc64 (by omega) | exact addN (by omega) | exact w64 (by omega) (by omega))) hS.rd ?_
        refine LW.ex rfl rfl rfl rfl (Ex.assign rfl) hS.rd ?_
        refine LW.nil fun aa ha => ?_
        refine ⟨_, _, ?m6, ⟨k + 1, ad, c, l2, ls2, (by first | omega | (simp; done) | (simp; omega)), (by first | omega | (simp; done) | (simp; omega)), (by first | omega | (simp; done) | (simp; omega)), rfl, rfl, hS, by rw [hrs, hls2, List.append_nil]⟩, ha.sub ⟨rfl, rfl, rfl, rfl, rfl, trivial⟩⟩
        case m6 => omega
    · have h6_2 := of_decide_eq_false h6_2
      refine LW.nil fun aa ha => hK19 _ _ _ ?_ aa ha
      refine CW.no rfl ?_
      refine CW.exit fun aa ha => hK16 _ _ _ ?_ aa ha
      refine CW.region [0, 1, 2] rfl ?_
      refine LW.ex rfl rfl rfl rfl (Ex.move rfl) hS.rd ?_
      refine LW.ex rfl rfl rfl rfl (Ex.add rfl rfl (by first | exact inc64 (by omega) | exact addN (by omega) | exact w64 (by omega) (by omega))) hS.rd ?_
      refine LW.ex rfl rfl rfl rfl (Ex.assign rfl) hS.rd ?_
      refine LW.nil fun aa ha => ?_
      refine ⟨_, _, ?m3, ⟨q + 1, ad, c, l2, ls2, (by first | omega | (simp; done) | (simp; omega)), (by first | omega | (simp; done) | (simp; omega)), (by first | omega | (simp; done) | (simp; omega)), (by first | omega | (simp; done) | (simp; omega)), rfl, rfl, hS, by rw [rowsTo_succ x n q (by omega), hls2, hls, show k = n by omega]; rfl⟩, ha.sub ⟨rfl, rfl, rfl, rfl, trivial⟩⟩
      case m3 => omega
  · have h3_3 := of_decide_eq_false h3_3
    refine LW.nil fun aa ha => hK15 _ _ _ ?_ aa ha
    refine CW.no rfl ?_
    refine CW.exit fun aa ha => hK12 _ _ _ ?_ aa ha
    refine CW.seq fun K22 hK22 => ?_
    refine CW.seq fun K23 hK23 => ?_
    have hqe : q - 1 = x.N.toNat - 1 := by omega
    have hrq : rowsTo x n q = rowsTo x n x.N.toNat := by unfold rowsTo; rw [hqe]
    refine CW.region [0, 1, 2] rfl ?_
    refine LW.ex rfl rfl rfl rfl (Ex.fieldO 0 Try.underlying38 rfl rfl ti3 rfl) hS.rd ?_
    refine LW.ex rfl rfl rfl rfl (Ex.load1 ti3 rfl rfl (by first | exact obT rfl | exact Rd.imm ‹_› | exact slT ‹_›)) hS.rd ?_
    refine LW.ex rfl rfl rfl rfl (Ex.gtr rfl rfl rfl) hS.rd ?_
    refine LW.splitB (fun h10_2 => ?_) (fun h10_2 => ?_)
    · have h10_2 := of_decide_eq_true h10_2
      refine LW.nil fun aa ha => hK23 _ _ _ ?_ aa ha
      refine CW.yes rfl ?_
      rw [if_pos h10_2] at hn1
      refine CW.region [0, 1, 2, 3, 4, 5, 6] rfl ?_
      refine LW.ex rfl rfl rfl rfl (Ex.move rfl) hS.rd ?_
      refine LW.ex rfl rfl rfl rfl (Ex.fieldO 0 Try.underlying38 rfl rfl ti3 rfl) hS.rd ?_
      refine LW.ex rfl rfl rfl rfl (Ex.load1 ti3 rfl rfl (by first | exact obT rfl | exact Rd.imm ‹_› | exact slT ‹_›)) hS.rd ?_
      refine LW.ex rfl rfl rfl rfl (Ex.buildS st97 rfl rfl rfl) hS.rd ?_
      refine LW.hv rfl rfl rfl rfl (Hv.buildSl hS Try.underlying63 ti97 rfl rfl rfl rfl rfl rfl) fun v w42 ⟨b42, hv, hb42, hS⟩ => ?_
      subst hv
      refine LW.hv rfl rfl rfl rfl (Hv.append (k := 1) rfl Try.underlying63 ti97 rfl hS rfl rfl rfl rfl (Rd.objAll (k := 0) rfl hS.rd) (by simp [Value.oneCell']) (by unfold maxLen; omega) (by omega)) fun v w43 ⟨ad43, c43, hv, hS⟩ => ?_
      subst hv
      dsimp only [List.set] at hS
      have hS := hS.drop 0 rfl
      dsimp only [List.eraseIdx] at hS
      refine LW.ex rfl rfl rfl rfl (Ex.assign rfl) hS.rd ?_
      refine LW.nil fun aa ha => hK22 _ _ _ ?_ aa ha
      refine CW.seq fun K24 hK24 => ?_
      refine CW.region [0, 1] rfl ?_
      refine LW.ex rfl rfl rfl rfl (Ex.move rfl) hS.rd ?_
      refine LW.ex rfl rfl rfl rfl (Ex.assign rfl) hS.rd ?_
      refine LW.nil fun aa ha => hK24 _ _ _ ?_ aa ha
      refine CW.ret fun aa ha => ?_
      refine ret_one ha Try.results21 rfl ?_
      have hcl : ls.flatMap i2L ++ [Value.int .i64 x.N, Value.int .i64 (-1)] = (nodesL x n p).flatMap i2L := by rw [hn1, hls, hrq, List.flatMap_cons, List.flatMap_cons, List.flatMap_append, List.append_assoc]; rfl
      have hnl : l + 1 = (nodesL x n p).length := by rw [hn1, hll, hls, hrq]; simp
      rw [hcl] at hS
      obtain ⟨bs, μ1, hmm1, hS, hφ⟩ := hS.shut 0 rfl
      exact ⟨_, μ1, rfl, hS.below, hmm1, hS.imm, ad43, c43, by rw [hnl], Sl.of_own hφ (i2Reps _ _) hnl⟩
    · have h10_2 := of_decide_eq_false h10_2
      refine LW.nil fun aa ha => hK23 _ _ _ ?_ aa ha
      refine CW.no rfl ?_
      refine CW.skip fun aa ha => hK22 _ _ _ ?_ aa ha
      refine CW.seq fun K25 hK25 => ?_
      refine CW.region [0, 1] rfl ?_
      refine LW.ex rfl rfl rfl rfl (Ex.move rfl) hS.rd ?_
      refine LW.ex rfl rfl rfl rfl (Ex.assign rfl) hS.rd ?_
      refine LW.nil fun aa ha => hK25 _ _ _ ?_ aa ha
      refine CW.ret fun aa ha => ?_
      refine ret_one ha Try.results21 rfl ?_
      rw [if_neg h10_2, List.append_nil] at hn1
      have hcl : ls = nodesL x n p := by rw [hn1, hls, hrq]
      rw [hcl] at hS hll
      obtain ⟨bs, μ1, hmm1, hS, hφ⟩ := hS.shut 0 rfl
      exact ⟨_, μ1, rfl, hS.below, hmm1, hS.imm, ad, c, by rw [hll], Sl.of_own hφ (i2Reps _ _) hll⟩

theorem nodesL_last {x : Lat} {n : Nat} {p : Int} (hx : okX x = true) (hn : n ≤ 200) (hp : -1 ≤ p ∧ p < n) (h0 : 0 < x.N) {i : Nat} (hi : i < (nodesL x n p).length) : (nodesL x n p)[i].a = x.N ↔ i = (nodesL x n p).length - 1 := by
  have hst := nodesL_strict hx n p
  have hsm := nodesL_small hp hn hx
  have hl : (nodesL x n p).length = (midR x n).length + 2 := by unfold nodesL; rw [if_pos h0]; simp
  have hlast : (nodesL x n p)[(nodesL x n p).length - 1]'(by omega) = ⟨x.N, -1⟩ := by
    have e : nodesL x n p = (⟨0, p⟩ :: midR x n) ++ [⟨x.N, -1⟩] := by unfold nodesL; rw [if_pos h0]; rfl
    have e2 : (nodesL x n p).getLast? = some ⟨x.N, -1⟩ := by rw [e, List.getLast?_append]; rfl
    rw [List.getLast?_eq_getElem?, List.getElem?_eq_getElem (by omega)] at e2
    exact Option.some.inj e2
  constructor
  · intro h
    rcases Nat.lt_or_ge i ((nodesL x n p).length - 1) with h1 | h1
    · have h2 := List.pairwise_iff_getElem.1 hst i ((nodesL x n p).length - 1) hi (by omega) h1
      rw [hlast] at h2
      unfold ndLt at h2
      have h3 := hsm _ (List.getElem_mem hi)
      simp only at h2
      omega
    · omega
  · intro h; subst h; rw [hlast]
set_option maxRecDepth 100000 in
set_option maxHeartbeats 1000000 in
theorem rfindN_c (x : Lat) (n : Nat) (p : Int) (hx : okX x = true) (hn : n ≤ 200) (hw : wordsIn x n = true) (hp : -1 ≤ p ∧ p < n) (j : Nat) (hj : j < x.Edges.length) (e : Edge) (hej : e = x.Edges[j]) (l : List I2) (hln : l = nodesL x n p)
    (a3 al : Option Addr) (c3 cl : Nat) (μ : Mem) (w : World) (hμ : Imm μ w) (hl : Sl μ a3 c3 x.Edges) (hll : Sl μ al cl l) :
    Calls Try.prog 37 #[.slice al l.length cl, .agg #[.int .i64 x.N, .slice a3 x.Edges.length c3], edgeV e] w (RetS w (.int .i64 (toN l x e : Nat))) := by
  obtain ⟨⟨hN0, hN1, _⟩, hed, _⟩ := okX_edges hx
  have hedj := hed _ (List.getElem_mem hj)
  have hlc := hll.1
  have hlcc := hll.2.1
  simp only [maxLen] at hlcc
  have hT1 : e.To < x.N → ∃ k, ∃ hk : k < l.length, 0 < k ∧ l[k] = ⟨e.To, e.Word⟩ ∧ toN l x e = k := by subst hej; subst hln; exact toN_at hx hw p hj
  have hT2 : ∀ i (hi : i < l.length), l[i].a = x.N ↔ i = l.length - 1 := by subst hln; exact fun i hi => nodesL_last hx hn hp (by omega) hi
  have hst : l.Pairwise ndLt := by subst hln; exact nodesL_strict hx n p
  have hl2 : 2 ≤ l.length := by subst hln; unfold nodesL; rw [if_pos (by omega)]; simp
  rw [← hej] at hedj
  have hS := St.start w μ hμ
  refine calls_start 40 [.slice al l.length cl, .agg #[.int .i64 x.N, .slice a3 x.Edges.length c3], edgeV e] Try.func37 rfl Try.ntmps37 rfl rfl ?_
  refine CW.seq fun K26 hK26 => ?_
  refine CW.region [0, 1, 2] rfl ?_
  refine LW.hv rfl rfl rfl rfl (Hv.boxS hS rfl rfl) fun v w4 ⟨b4, hv, hb4, hS⟩ => ?_
  subst hv
  refine LW.hv rfl rfl rfl rfl (Hv.boxS hS rfl rfl) fun v w5 ⟨b5, hv, hb5, hS⟩ => ?_
  subst hv
  refine LW.ex rfl rfl rfl rfl (Ex.assign rfl) hS.rd ?_
  refine LW.nil fun aa ha => hK26 _ _ _ ?_ aa ha
  refine CW.seq fun K27 hK27 => ?_
  refine CW.seq fun K28 hK28 => ?_
  refine CW.region [0] rfl ?_
  refine LW.ex rfl rfl rfl rfl (Ex.assign rfl) hS.rd ?_
  refine LW.nil fun aa ha => hK28 _ _ _ ?_ aa ha
  refine CW.block ?_
  refine CW.loop (fun qq frm wl2 => ∃ (i : Nat), i ≤ l.length ∧ 1 ≤ i ∧ qq = l.length - i ∧ frm = [(0, .slice al l.length cl), (4, .pointer (some ⟨b4, 0, none⟩)), (5, .pointer (some ⟨b5, 0, none⟩)), (7, .int .i64 i)] ∧ St w wl2 μ [Own.obj b5 (edgeL e) 43, Own.obj b4 [.int .i64 x.N, .slice a3 x.Edges.length c3] 38] ∧ (∀ k (hk : k < l.length), 1 ≤ k → k < i → ¬ (l[k].a = e.To ∧ (e.To = x.N ∨ l[k].b = e.Word)))) _ ⟨1, (by first | omega | (simp; done) | (simp; omega)), (by first | omega | (simp; done) | (simp; omega)), rfl, rfl, hS, fun k _ h1 h2 => by omega⟩ ⟨rfl, rfl, rfl, rfl, trivial⟩ ?_
  clear hS
  rintro qq frm wl2 ⟨i, hi, hi1, hq, rfl, hS, he⟩
  refine CW.seq fun K29 hK29 => ?_
  refine CW.seq fun K30 hK30 => ?_
  refine CW.region [0, 1, 2, 3] rfl ?_
  refine LW.ex rfl rfl rfl rfl (Ex.move rfl) hS.rd ?_
  refine LW.ex rfl rfl rfl rfl (Ex.move rfl) hS.rd ?_
  refine LW.ex rfl rfl rfl rfl (Ex.lenSl rfl Try.underlying63 rfl) hS.rd ?_
  refine LW.ex rfl rfl rfl rfl (Ex.lss rfl rfl rfl) hS.rd ?_
  refine LW.splitB (fun h2_3 => ?_) (fun h2_3 => ?_)
  · have h2_3 := of_decide_eq_true h2_3
    refine LW.nil fun aa ha => hK30 _ _ _ ?_ aa ha
    refine CW.yes rfl ?_
    refine CW.skip fun aa ha => hK29 _ _ _ ?_ aa ha
    refine CW.seq fun K31 hK31 => ?_
    refine CW.block ?_
    refine CW.seq fun K32 hK32 => ?_
    have hi2 : i < l.length := by omega
    obtain ⟨bl, ol, rfl, k0, k1⟩ := hll.at hi2
    have hS := hS.drew
    refine CW.draw 25 (.ex 0 <| .ex 1 <| .ex 2 <| .ex 3 <| .ex 4 <| .ex 5 <| .ex 6 <| .ex 7 <| .ex 8 <| .ex 9 <| .ex 10 <| .ex 11 <| .ex 12 <| .ex 13 <| .ex 14 <| .ex 15 <| .ex 16 <| .ex 17 <| .ex 18 <| .ex 19 <| .ex 20 <| .ex 21 <| .ex 22 <| .ex 23 <| .ex 24 <| .done) [] (Rd _ _) mixed (by kernel_rfl) rfl rfl hS.rd ?_
    refine PW.ex rfl rfl rfl rfl (Ex.move rfl) ?_
    refine PW.ex rfl rfl rfl rfl (Ex.move rfl) ?_
    refine PW.ex rfl rfl rfl rfl (Ex.indexSl Try.underlying63 ti97 rfl rfl rfl (by omega)) ?_
    refine PW.ex rfl rfl rfl rfl (Ex.fieldO 0 Try.underlying97 rfl rfl ti3 rfl) ?_
    refine PW.ex rfl rfl rfl rfl (Ex.load1 ti3 rfl rfl (by first | exact obT rfl | exact Rd.imm ‹_› | exact slT ‹_›)) ?_
    refine PW.ex rfl rfl rfl rfl (Ex.fieldO 1 Try.underlying43 rfl rfl ti3 rfl) ?_
    refine PW.ex rfl rfl rfl rfl (Ex.load1 ti3 rfl rfl (by first | exact obT rfl | exact Rd.imm ‹_› | exact slT ‹_›)) ?_
    refine PW.ex rfl rfl rfl rfl (Ex.eql rfl rfl rfl) ?_
    refine PW.splitB (fun h4_7 => ?_) (fun h4_7 => ?_)
    · have h4_7 := of_decide_eq_true h4_7
      refine PW.ex rfl rfl rfl rfl (Ex.move rfl) ?_
      refine PW.ex rfl rfl rfl rfl (Ex.fieldO 1 Try.underlying43 rfl rfl ti3 rfl) ?_
      refine PW.ex rfl rfl rfl rfl (Ex.load1 ti3 rfl rfl (by first | exact obT rfl | exact Rd.imm ‹_› | exact slT ‹_›)) ?_
      refine PW.ex rfl rfl rfl rfl (Ex.fieldO 0 Try.underlying38 rfl rfl ti3 rfl) ?_
      refine PW.ex rfl rfl rfl rfl (Ex.load1 ti3 rfl rfl (by first | exact obT rfl | exact Rd.imm ‹_› | exact slT ‹_›)) ?_
      refine PW.ex rfl rfl rfl rfl (Ex.eql rfl rfl rfl) ?_
      refine PW.splitB (fun h4_13 => ?_) (fun h4_13 => ?_)
      · have h4_13 := of_decide_eq_true h4_13
        refine PW.ex rfl rfl rfl rfl (Ex.move rfl) ?_
        refine PW.skip rfl rfl rfl rfl ?_
        refine PW.skip rfl rfl rfl rfl ?_
        refine PW.skip rfl rfl rfl rfl ?_
        refine PW.skip rfl rfl rfl rfl ?_
        refine PW.skip rfl rfl rfl rfl ?_
        refine PW.skip rfl rfl rfl rfl ?_
        refine PW.skip rfl rfl rfl rfl ?_
        refine PW.skip rfl rfl rfl rfl ?_
        refine PW.ex rfl rfl rfl rfl (by first | exact Ex.pick_yes rfl rfl | exact Ex.pick_no rfl rfl) ?_
        refine PW.ex rfl rfl rfl rfl (by first | exact Ex.pick_yes rfl rfl | exact Ex.pick_no rfl rfl) ?_
        refine PW.nil ?_
        refine LW.nil fun aa ha => hK32 _ _ _ ?_ aa ha
        refine CW.yes rfl ?_
        refine CW.seq fun K33 hK33 => ?_
        refine CW.region [0, 1] rfl ?_
        refine LW.ex rfl rfl rfl rfl (Ex.move rfl) hS.rd ?_
        refine LW.ex rfl rfl rfl rfl (Ex.assign rfl) hS.rd ?_
        refine LW.nil fun aa ha => hK33 _ _ _ ?_ aa ha
        refine CW.ret fun aa ha => ?_
        refine ret_one ha Try.results37 rfl ?_
        have ht : toN l x e = i := by
          by_cases hTN : e.To < x.N
          · obtain ⟨k, hk, hk0, hke, hkt⟩ := hT1 hTN
            rw [hkt]
            refine nodupI hst hk hi2 (hke.trans (i2_ext ?_ ?_).symm)
            · simp only; omega
            · simp only; omega
          · unfold toN; rw [if_neg hTN]; exact ((hT2 i hi2).1 (by omega)).symm
        rw [ht]; exact hS.retS
      · have h4_13 := of_decide_eq_false h4_13
        refine PW.ex rfl rfl rfl rfl (Ex.move rfl) ?_
        refine PW.ex rfl rfl rfl rfl (Ex.move rfl) ?_
        refine PW.ex rfl rfl rfl rfl (Ex.move rfl) ?_
        refine PW.ex rfl rfl rfl rfl (Ex.indexSl Try.underlying63 ti97 rfl rfl rfl (by omega)) ?_
        refine PW.ex rfl rfl rfl rfl (Ex.fieldO 1 Try.underlying97 rfl rfl ti3 rfl) ?_
        refine PW.ex rfl rfl rfl rfl (Ex.load1 ti3 rfl rfl (by first | exact obT rfl | exact Rd.imm ‹_› | exact slT ‹_›)) ?_
        refine PW.ex rfl rfl rfl rfl (Ex.fieldO 2 Try.underlying43 rfl rfl ti3 rfl) ?_
        refine PW.ex rfl rfl rfl rfl (Ex.load1 ti3 rfl rfl (by first | exact obT rfl | exact Rd.imm ‹_› | exact slT ‹_›)) ?_
        refine PW.ex rfl rfl rfl rfl (Ex.eql rfl rfl rfl) ?_
        refine PW.splitB (fun h4_22 => ?_) (fun h4_22 => ?_)
        · have h4_22 := of_decide_eq_true h4_22
          refine PW.ex rfl rfl rfl rfl (by first | exact Ex.pick_yes rfl rfl | exact Ex.pick_no rfl rfl) ?_
          refine PW.ex rfl rfl rfl rfl (by first | exact Ex.pick_yes rfl rfl | exact Ex.pick_no rfl rfl) ?_
          refine PW.nil ?_
          refine LW.nil fun aa ha => hK32 _ _ _ ?_ aa ha
          refine CW.yes rfl ?_
          refine CW.seq fun K34 hK34 => ?_
          refine CW.region [0, 1] rfl ?_
          refine LW.ex rfl rfl rfl rfl (Ex.move rfl) hS.rd ?_
          refine LW.ex rfl rfl rfl rfl (Ex.assign rfl) hS.rd ?_
          refine LW.nil fun aa ha => hK34 _ _ _ ?_ aa ha
          refine CW.ret fun aa ha => ?_
          refine ret_one ha Try.results37 rfl ?_
          have ht : toN l x e = i := by
            by_cases hTN : e.To < x.N
            · obtain ⟨k, hk, hk0, hke, hkt⟩ := hT1 hTN
              rw [hkt]
              refine nodupI hst hk hi2 (hke.trans (i2_ext ?_ ?_).symm)
              · simp only; omega
              · simp only; omega
            · unfold toN; rw [if_neg hTN]; exact ((hT2 i hi2).1 (by omega)).symm
          rw [ht]; exact hS.retS
        · have h4_22 := of_decide_eq_false h4_22
          refine PW.ex rfl rfl rfl rfl (by first | exact Ex.pick_yes rfl rfl | exact Ex.pick_no rfl rfl) ?_
          refine PW.ex rfl rfl rfl rfl (by first | exact Ex.pick_yes rfl rfl | exact Ex.pick_no rfl rfl) ?_
          refine PW.nil ?_
          refine LW.nil fun aa ha => hK32 _ _ _ ?_ aa ha
          refine CW.no rfl ?_
          refine CW.skip fun aa ha => hK31 _ _ _ ?_ aa ha
          refine CW.region [0, 1, 2] rfl ?_
          refine LW.ex rfl rfl rfl rfl (Ex.move rfl) hS.rd ?_
          refine LW.ex rfl rfl rfl rfl (Ex.add rfl rfl (by first | exact inc64 (by omega) | exact addN (by omega) | exact w64 (by omega) (by omega))) hS.rd ?_
          refine LW.ex rfl rfl rfl rfl (Ex.assign rfl) hS.rd ?_
          refine LW.nil fun aa ha => ?_
          refine ⟨_, _, ?m2, ⟨i + 1, (by first | omega | (simp; done) | (simp; omega)), (by first | omega | (simp; done) | (simp; omega)), rfl, rfl, hS, fun k hk hk1 hki => by by_cases h : k = i; (· subst h; omega); (· exact he k hk hk1 (by omega))⟩, ha.sub ⟨rfl, rfl, rfl, rfl, trivial⟩⟩
          case m2 => omega
    · have h4_7 := of_decide_eq_false h4_7
      refine PW.ex rfl rfl rfl rfl (Ex.move rfl) ?_
      refine PW.skip rfl rfl rfl rfl ?_
      refine PW.skip rfl rfl rfl rfl ?_
      refine PW.skip rfl rfl rfl rfl ?_
      refine PW.skip rfl rfl rfl rfl ?_
      refine PW.skip rfl rfl rfl rfl ?_
      refine PW.skip rfl rfl rfl rfl ?_
      refine PW.skip rfl rfl rfl rfl ?_
      refine PW.skip rfl rfl rfl rfl ?_
      refine PW.skip rfl rfl rfl rfl ?_
      refine PW.skip rfl rfl rfl rfl ?_
      refine PW.skip rfl rfl rfl rfl ?_
      refine PW.skip rfl rfl rfl rfl ?_
      refine PW.skip rfl rfl rfl rfl ?_
      refine PW.skip rfl rfl rfl rfl ?_
      refine PW.skip rfl rfl rfl rfl ?_
      refine PW.ex rfl rfl rfl rfl (by first | exact Ex.pick_yes rfl rfl | exact Ex.pick_no rfl rfl) ?_
      refine PW.nil ?_
      refine LW.nil fun aa ha => hK32 _ _ _ ?_ aa ha
      refine CW.no rfl ?_
      refine CW.skip fun aa ha => hK31 _ _ _ ?_ aa ha
      refine CW.region [0, 1, 2] rfl ?_
      refine LW.ex rfl rfl rfl rfl (Ex.move rfl) hS.rd ?_
      refine LW.ex rfl rfl rfl rfl (Ex.add rfl rfl (by first | exact inc64 (by omega) | exact addN (by omega) | exact w64 (by omega) (by omega))) hS.rd ?_
      refine LW.ex rfl rfl rfl rfl (Ex.assign rfl) hS.rd ?_
      refine LW.nil fun aa ha => ?_
      refine ⟨_, _, ?m2, ⟨i + 1, (by first | omega | (simp; done) | (simp; omega)), (by first | omega | (simp; done) | (simp; omega)), rfl, rfl, hS, fun k hk hk1 hki => by by_cases h : k = i; (· subst h; omega); (· exact he k hk hk1 (by omega))⟩, ha.sub ⟨rfl, rfl, rfl, rfl, trivial⟩⟩
      case m2 => omega
  · have h2_3 := of_decide_eq_false h2_3
    refine LW.nil fun aa ha => hK30 _ _ _ ?_ aa ha
    refine CW.no rfl ?_
    refine CW.exit fun aa ha => hK27 _ _ _ ?_ aa ha
    refine CW.seq fun K35 hK35 => ?_
    refine CW.region [0] rfl ?_
    refine LW.ex rfl rfl rfl rfl (Ex.assign rfl) hS.rd ?_
    refine LW.nil fun aa ha => hK35 _ _ _ ?_ aa ha
    refine CW.ret fun aa ha => ?_
    refine ret_one ha Try.results37 rfl ?_
    exfalso
    by_cases hTN : e.To < x.N
    · obtain ⟨k, hk, hk0, hke, hkt⟩ := hT1 hTN
      exact he k hk (by omega) (by omega) (by rw [hke]; exact ⟨rfl, .inr rfl⟩)
    · exact he (l.length - 1) (by omega) (by omega) (by omega) ⟨by rw [(hT2 _ (by omega)).2 rfl]; omega, .inl (by omega)⟩
def IsBuiltA (b : Built) (μ : Mem) (v : Value) : Prop := ∃ adl cl adt ct, v = .agg #[.int .i64 b.G.N, .slice adl b.G.Links.length cl, .slice adt b.Last.length ct, .int .i64 b.E] ∧ Sl μ adl cl b.G.Links ∧ Sl μ adt ct b.Last
theorem IsBuiltA.zero (μ : Mem) (e : Int) : IsBuiltA ⟨⟨0, []⟩, [], e⟩ μ (.agg #[.int .i64 0, .slice none 0 0, .slice none 0 0, .int .i64 e]) := ⟨none, 0, none, 0, rfl, Sl.nil _ _ _ (by simp [maxLen]), Sl.nil _ _ _ (by simp [maxLen])⟩
theorem filter_succ (x : Lat) (k : Nat) (a : Int) : (List.range (k + 1)).filter (fun i => decide ((edAt x i).From = a)) = (List.range k).filter (fun i => decide ((edAt x i).From = a)) ++ if (edAt x k).From = a then [k] else [] := by
  rw [List.range_succ, List.filter_append]
  congr 1
  by_cases h : (edAt x k).From = a
  · simp [h]
  · simp [h]
set_option maxRecDepth 100000 in
set_option maxHeartbeats 4000000 in
theorem rbuild_c (x : Lat) (m : Mdl) (p : Int) (hws : ∀ s ∈ m.Words, s.size ≤ 9223372036854775807) (hNs : NSmall m.Pairs) (hE : x.Edges.length ≤ 100)
    (a0 a1 a2 a3 : Option Addr) (c0 c1 c2 c3 : Nat) (μ : Mem) (w : World) (hμ : Imm μ w) (hxl : Sl μ a3 c3 x.Edges) (hm0 : Sl μ a0 c0 m.Words) (hm1 : Sl μ a1 c1 m.Counts) (hm2 : Sl μ a2 c2 m.Pairs) :
    Calls Try.prog 14 #[.agg #[.int .i64 x.N, .slice a3 x.Edges.length c3], .agg #[.slice a0 m.Words.length c0, .slice a1 m.Counts.length c1, .slice a2 m.Pairs.length c2, .int .i64 m.Back], .int .i64 p] w (RetV w μ (IsBuiltA (buildR x m p))) := by
  have hS := St.start w μ hμ
  refine calls_start 114 [.agg #[.int .i64 x.N, .slice a3 x.Edges.length c3], .agg #[.slice a0 m.Words.length c0, .slice a1 m.Counts.length c1, .slice a2 m.Pairs.length c2, .int .i64 m.Back], .int .i64 p] Try.func14 rfl Try.ntmps14 rfl rfl ?_
  refine CW.seq fun K36 hK36 => ?_
  refine CW.region [0, 1, 2] rfl ?_
  refine LW.hv rfl rfl rfl rfl (Hv.boxS hS rfl rfl) fun v w3 ⟨b3, hv, hb3, hS⟩ => ?_
  subst hv
  refine LW.hv rfl rfl rfl rfl (Hv.boxS hS rfl rfl) fun v w4 ⟨b4, hv, hb4, hS⟩ => ?_
  subst hv
  refine LW.hv rfl rfl rfl rfl (Hv.alloc ti49 hS) fun v w6 ⟨b6, hv, hb6, hS⟩ => ?_
  subst hv
  refine LW.nil fun aa ha => hK36 _ _ _ ?_ aa ha
  refine CW.seq fun K37 hK37 => ?_
  refine CW.seq fun K38 hK38 => ?_
  refine CW.region [0, 1, 2] rfl ?_
  refine LW.ex rfl rfl rfl rfl (Ex.load4c ti34 rfl rfl (by first | exact obT rfl | exact Rd.imm ‹_› | exact slT ‹_›) (by first | exact obT rfl | exact Rd.imm ‹_› | exact slT ‹_›) (by first | exact obT rfl | exact Rd.imm ‹_› | exact slT ‹_›) (by first | exact obT rfl | exact Rd.imm ‹_› | exact slT ‹_›)) hS.rd ?_
  refine LW.hv rfl rfl rfl rfl (Hv.callS hS rfl rfl rfl cb34 (rvalid_c m hws hNs _ _ _ _ _ _ μ _ hS.imm hm0 hm1 hm2)) fun v w13 ⟨hv, hS⟩ => ?_
  subst hv
  refine LW.splitB (fun h1_1 => ?_) (fun h1_1 => ?_)
  · skip
    refine LW.ex rfl rfl rfl rfl (Ex.not rfl rfl) hS.rd ?_
    refine LW.nil fun aa ha => hK38 _ _ _ ?_ aa ha
    refine CW.no rfl ?_
    refine CW.skip fun aa ha => hK37 _ _ _ ?_ aa ha
    refine CW.seq fun K39 hK39 => ?_
    refine CW.seq fun K40 hK40 => ?_
    have hM := okM_iff.1 h1_1
    have hn1 := hM.n1
    have hn2 := hM.n2
    refine CW.region [0, 1, 2, 3, 4, 5, 6, 7, 8, 9, 10, 11, 12] rfl ?_
    refine LW.ex rfl rfl rfl rfl (Ex.load2c ti38 rfl rfl (by first | exact obT rfl | exact Rd.imm ‹_› | exact slT ‹_›) (by first | exact obT rfl | exact Rd.imm ‹_› | exact slT ‹_›)) hS.rd ?_
    refine LW.ex rfl rfl rfl rfl (Ex.load4c ti34 rfl rfl (by first | exact obT rfl | exact Rd.imm ‹_› | exact slT ‹_›) (by first | exact obT rfl | exact Rd.imm ‹_› | exact slT ‹_›) (by first | exact obT rfl | exact Rd.imm ‹_› | exact slT ‹_›) (by first | exact obT rfl | exact Rd.imm ‹_› | exact slT ‹_›)) hS.rd ?_
    refine LW.hv rfl rfl rfl rfl (Hv.callS hS rfl rfl rfl cb35 (rfits_c x m hws hNs _ _ _ _ _ _ _ _ μ _ hS.imm hxl hm0 hm1 hm2)) fun v w18 ⟨hv, hS⟩ => ?_
    subst hv
    refine LW.splitB (fun h3_2 => ?_) (fun h3_2 => ?_)
    · skip
      refine LW.ex rfl rfl rfl rfl (Ex.not rfl rfl) hS.rd ?_
      refine LW.ex rfl rfl rfl rfl (Ex.move rfl) hS.rd ?_
      refine LW.ex rfl rfl rfl rfl (Ex.move rfl) hS.rd ?_
      refine LW.ex rfl rfl rfl rfl (Ex.fieldO 0 Try.underlying34 rfl rfl ti30 rfl) hS.rd ?_
      refine LW.ex rfl rfl rfl rfl (Ex.load1 ti30 rfl rfl (by first | exact obT rfl | exact Rd.imm ‹_› | exact slT ‹_›)) hS.rd ?_
      refine LW.ex rfl rfl rfl rfl (Ex.lenSl rfl Try.underlying30 rfl) hS.rd ?_
      refine LW.ex rfl rfl rfl rfl (Ex.sub rfl rfl (by first | exact dec64 (by omega) (by omega) | exact subN (by omega) (by omega) | exact w64 (by omega) (by omega))) hS.rd ?_
      refine LW.hv rfl rfl rfl rfl (Hv.callS hS rfl rfl rfl cb36 (in_c _ _ _ _)) fun v w26 ⟨hv, hS⟩ => ?_
      subst hv
      refine LW.splitB (fun h3_10 => ?_) (fun h3_10 => ?_)
      · have h3_10 := inR_iff.1 h3_10
        refine LW.ex rfl rfl rfl rfl (Ex.not rfl rfl) hS.rd ?_
        refine LW.ex rfl rfl rfl rfl (by first | exact Ex.pick_yes rfl rfl | exact Ex.pick_no rfl rfl) hS.rd ?_
        refine LW.nil fun aa ha => hK40 _ _ _ ?_ aa ha
        refine CW.no rfl ?_
        refine CW.skip fun aa ha => hK39 _ _ _ ?_ aa ha
        refine CW.seq fun K41 hK41 => ?_
        obtain ⟨hx, hw, _⟩ := fitsB_iff.1 h3_2
        have hsz := hS.below.size
        have hp : -1 ≤ p ∧ p < (m.Words.length : Int) := by omega
        obtain ⟨⟨hN0, hN1, _⟩, hed, _⟩ := okX_edges hx
        have hnl := nodesL_len hx hw p
        have hnsm := nodesL_small hp hn2 hx
        have hnst := nodesL_strict hx m.Words.length p
        have hnwd := nodesL_word (x := x) hp.2
        have hnl1 : 1 ≤ (nodesL x m.Words.length p).length := by unfold nodesL; simp
        have hbR : buildR x m p = ⟨graphR x m p, (nodesL x m.Words.length p).map (·.b), 0⟩ := by unfold buildR; rw [if_pos h1_1, if_pos (fitsC_iff.2 ⟨hx, hp, hw⟩)]
        refine CW.region [0, 1, 2, 3, 4, 5, 6] rfl ?_
        refine LW.ex rfl rfl rfl rfl (Ex.load2c ti38 rfl rfl (by first | exact obT rfl | exact Rd.imm ‹_› | exact slT ‹_›) (by first | exact obT rfl | exact Rd.imm ‹_› | exact slT ‹_›)) hS.rd ?_
        refine LW.ex rfl rfl rfl rfl (Ex.fieldO 0 Try.underlying34 rfl rfl ti30 rfl) hS.rd ?_
        refine LW.ex rfl rfl rfl rfl (Ex.load1 ti30 rfl rfl (by first | exact obT rfl | exact Rd.imm ‹_› | exact slT ‹_›)) hS.rd ?_
        refine LW.ex rfl rfl rfl rfl (Ex.lenSl rfl Try.underlying30 rfl) hS.rd ?_
        refine LW.ex rfl rfl rfl rfl (Ex.move rfl) hS.rd ?_
        refine LW.hv rfl rfl rfl rfl (Hv.callV hS rfl rfl rfl cb21 (rnodes_c x m.Words.length p (by omega) hn2 _ _ μ _ hS.imm hxl)) fun v w35 ⟨μ35, hv35, hm35, hS⟩ => ?_
        obtain ⟨adN, cN, hv, hsN⟩ := hv35
        subst hv
        have hxl := hxl.mono hm35
        have hm0 := hm0.mono hm35
        have hm1 := hm1.mono hm35
        have hm2 := hm2.mono hm35
        refine LW.ex rfl rfl rfl rfl (Ex.assign rfl) hS.rd ?_
        refine LW.nil fun aa ha => hK41 _ _ _ ?_ aa ha
        refine CW.seq fun K42 hK42 => ?_
        refine CW.region [0, 1, 2, 3, 4, 5] rfl ?_
        refine LW.ex rfl rfl rfl rfl (Ex.move rfl) hS.rd ?_
        refine LW.ex rfl rfl rfl rfl (Ex.lenSl rfl Try.underlying63 rfl) hS.rd ?_
        refine LW.ex rfl rfl rfl rfl (Ex.buildS st46 rfl rfl rfl) hS.rd ?_
        refine LW.ex rfl rfl rfl rfl (Ex.buildS st49 rfl rfl rfl) hS.rd ?_
        refine LW.hv rfl rfl rfl rfl (Hv.alloc ti49 hS) fun v w8 ⟨b8, hv, hb8, hS⟩ => ?_
        subst hv
        refine LW.hu rfl rfl rfl (Hv.storeN (k := 0) ti49 hS rfl rfl rfl rfl (by simp [Value.oneCell'])) fun _ w_5 hS => ?_
        dsimp only [List.set] at hS
        refine LW.nil fun aa ha => hK42 _ _ _ ?_ aa ha
        refine CW.seq fun K43 hK43 => ?_
        refine CW.seq fun K44 hK44 => ?_
        refine CW.region [0] rfl ?_
        refine LW.ex rfl rfl rfl rfl (Ex.assign rfl) hS.rd ?_
        refine LW.nil fun aa ha => hK44 _ _ _ ?_ aa ha
        refine CW.block ?_
        have hS := nil_sl 3 1 hS
        have hS := nil_sl 66 4 hS
        refine CW.loop (fun qq frm wl8 => ∃ (i : Nat) (adl : Option Addr) (ll : Nat) (cl : Nat) (ks : List Link) (adt : Option Addr) (ct : Nat), i ≤ (nodesL x m.Words.length p).length ∧ ll = ks.length ∧ ll ≤ i * 100 ∧ qq = (nodesL x m.Words.length p).length - i ∧ frm = [(3, .pointer (some ⟨b3, 0, none⟩)), (4, .pointer (some ⟨b4, 0, none⟩)), (6, .pointer (some ⟨b6, 0, none⟩)), (7, .slice adN (nodesL x m.Words.length p).length cN), (8, .pointer (some ⟨b8, 0, none⟩)), (9, .int .i64 i)] ∧ St w wl8 μ35 [Own.sl adl ll cl 66 4 (ks.flatMap linkL), Own.sl adt i ct 3 1 (((nodesL x m.Words.length p).take i).map fun z => Value.int .i64 z.b), Own.obj b8 [.int .i64 (nodesL x m.Words.length p).length, .slice adl ll cl, .slice adt i ct, .int .i64 0] 49, Own.obj b6 [.int .i64 0, .slice none 0 0, .slice none 0 0, .int .i64 0] 49, Own.obj b4 [.slice a0 m.Words.length c0, .slice a1 m.Counts.length c1, .slice a2 m.Pairs.length c2, .int .i64 m.Back] 34, Own.obj b3 [.int .i64 x.N, .slice a3 x.Edges.length c3] 38] ∧ (ks = linksTo x m (nodesL x m.Words.length p) i)) _ ⟨0, none, 0, 0, [], none, 0, (by first | omega | (simp; done) | (simp; omega)), (by first | omega | (simp; done) | (simp; omega)), (by first | omega | (simp; done) | (simp; omega)), rfl, rfl, hS, rfl⟩ ⟨rfl, rfl, rfl, rfl, rfl, rfl, trivial⟩ ?_
        clear hS
        rintro qq frm wl8 ⟨i, adl, ll, cl, ks, adt, ct, hi, hll, hlb, hq, rfl, hS, hks⟩
        refine CW.seq fun K45 hK45 => ?_
        refine CW.seq fun K46 hK46 => ?_
        refine CW.region [0, 1, 2, 3] rfl ?_
        refine LW.ex rfl rfl rfl rfl (Ex.move rfl) hS.rd ?_
        refine LW.ex rfl rfl rfl rfl (Ex.move rfl) hS.rd ?_
        refine LW.ex rfl rfl rfl rfl (Ex.lenSl rfl Try.underlying63 rfl) hS.rd ?_
        refine LW.ex rfl rfl rfl rfl (Ex.lss rfl rfl rfl) hS.rd ?_
        refine LW.splitB (fun h8_3 => ?_) (fun h8_3 => ?_)
        · have h8_3 := of_decide_eq_true h8_3
          refine LW.nil fun aa ha => hK46 _ _ _ ?_ aa ha
          refine CW.yes rfl ?_
          refine CW.skip fun aa ha => hK45 _ _ _ ?_ aa ha
          refine CW.seq fun K47 hK47 => ?_
          refine CW.block ?_
          refine CW.seq fun K48 hK48 => ?_
          have hi2 : i < (nodesL x m.Words.length p).length := by omega
          have hsi := hnsm _ (List.getElem_mem hi2)
          have hwi := hnwd _ (List.getElem_mem hi2)
          obtain ⟨bl, ol, rfl, k0, k1⟩ := hsN.at hi2
          have hS := hS.drew
          refine CW.draw 8 (.ex 0 <| .ex 1 <| .ex 2 <| .ex 3 <| .ex 4 <| .ex 5 <| .ex 6 <| .one 7 <| .done) [8, 9, 10] (Rd _ _) mixed (by kernel_rfl) rfl rfl hS.rd ?_
          refine PW.ex rfl rfl rfl rfl (Ex.fieldO 2 Try.underlying49 rfl rfl ti31 rfl) ?_
          refine PW.ex rfl rfl rfl rfl (Ex.load1 ti31 rfl rfl (by first | exact obT rfl | exact Rd.imm ‹_› | exact slT ‹_›)) ?_
          refine PW.ex rfl rfl rfl rfl (Ex.move rfl) ?_
          refine PW.ex rfl rfl rfl rfl (Ex.move rfl) ?_
          refine PW.ex rfl rfl rfl rfl (Ex.indexSl Try.underlying63 ti97 rfl rfl rfl (by omega)) ?_
          refine PW.ex rfl rfl rfl rfl (Ex.fieldO 1 Try.underlying97 rfl rfl ti3 rfl) ?_
          refine PW.ex rfl rfl rfl rfl (Ex.load1 ti3 rfl rfl (by first | exact obT rfl | exact Rd.imm ‹_› | exact slT ‹_›)) ?_
          refine PW.hv rfl rfl rfl rfl (Hv.buildSl hS Try.underlying31 ti3 rfl rfl rfl rfl rfl rfl) (fun _ _ ⟨_, _, _, h⟩ => h.rd.tail) fun v w53 ⟨b53, hv, hb53, hS⟩ => ?_
          subst hv
          refine PW.nil ?_
          refine LW.hv rfl rfl rfl rfl (Hv.append (k := 2) rfl Try.underlying31 ti3 rfl hS rfl rfl rfl rfl (Rd.objAll (k := 0) rfl hS.rd) (by simp [Value.oneCell']) (by unfold maxLen; omega) (by omega)) fun v w54 ⟨ad54, c54, hv, hS⟩ => ?_
          subst hv
          dsimp only [List.set] at hS
          have hS := hS.drop 0 rfl
          dsimp only [List.eraseIdx] at hS
          rw [show (((nodesL x m.Words.length p).take i).map fun z => Value.int .i64 z.b) ++ [Value.int .i64 (nodesL x m.Words.length p)[i].b] = ((nodesL x m.Words.length p).take (i + 1)).map fun z => Value.int .i64 z.b by rw [List.take_succ_eq_append_getElem hi2, List.map_append]; rfl] at hS
          refine LW.ex rfl rfl rfl rfl (Ex.fieldO 2 Try.underlying49 rfl rfl ti31 rfl) hS.rd ?_
          refine LW.hu rfl rfl rfl (Hv.storeObj (k := 2) ti31 hS rfl rfl rfl rfl (by first | assumption | (simp; done) | omega | exact Nat.zero_lt_succ _)) fun _ w_10 hS => ?_
          dsimp only [List.set] at hS
          refine LW.nil fun aa ha => hK48 _ _ _ ?_ aa ha
          refine CW.seq fun K49 hK49 => ?_
          obtain ⟨z, hz⟩ : ∃ z, z = (nodesL x m.Words.length p)[i] := ⟨_, rfl⟩
          have hlf : linksOf x m (nodesL x m.Words.length p) i z = ((List.range x.Edges.length).filter fun i => decide ((edAt x i).From = z.a)).map (mkLink x m (nodesL x m.Words.length p) i z) := rfl
          rw [← hz] at hsi hwi k0 k1
          refine CW.region [0] rfl ?_
          refine LW.ex rfl rfl rfl rfl (Ex.assign rfl) hS.rd ?_
          refine LW.nil fun aa ha => hK49 _ _ _ ?_ aa ha
          refine CW.block ?_
          refine CW.loop (fun qq frm wl12 => ∃ (k : Nat) (adl2 : Option Addr) (ll2 : Nat) (cl2 : Nat) (ks2 : List Link), k ≤ x.Edges.length ∧ ll2 = ks2.length ∧ ll2 ≤ i * 100 + k ∧ qq = x.Edges.length - k ∧ frm = [(3, .pointer (some ⟨b3, 0, none⟩)), (4, .pointer (some ⟨b4, 0, none⟩)), (6, .pointer (some ⟨b6, 0, none⟩)), (7, .slice (some ⟨bl, ol, none⟩) (nodesL x m.Words.length p).length cN), (8, .pointer (some ⟨b8, 0, none⟩)), (9, .int .i64 i), (10, .int .i64 k)] ∧ St w wl12 μ35 [Own.sl adl2 ll2 cl2 66 4 (ks2.flatMap linkL), Own.sl ad54 (i + 1) c54 3 1 (((nodesL x m.Words.length p).take (i + 1)).map fun z => Value.int .i64 z.b), Own.obj b8 [.int .i64 (nodesL x m.Words.length p).length, .slice adl2 ll2 cl2, .slice ad54 (i + 1) c54, .int .i64 0] 49, Own.obj b6 [.int .i64 0, .slice none 0 0, .slice none 0 0, .int .i64 0] 49, Own.obj b4 [.slice a0 m.Words.length c0, .slice a1 m.Counts.length c1, .slice a2 m.Pairs.length c2, .int .i64 m.Back] 34, Own.obj b3 [.int .i64 x.N, .slice a3 x.Edges.length c3] 38] ∧ (ks2 = ks ++ ((List.range k).filter fun i => decide ((edAt x i).From = z.a)).map (mkLink x m (nodesL x m.Words.length p) i z))) _ ⟨0, adl, ll, cl, ks, (by first | omega | (simp; done) | (simp; omega)), (by first | omega | (simp; done) | (simp; omega)), (by first | omega | (simp; done) | (simp; omega)), rfl, rfl, hS, by simp⟩ ⟨rfl, rfl, rfl, rfl, rfl, rfl, rfl, trivial⟩ ?_
          clear hS
          rintro qq frm wl12 ⟨k, adl2, ll2, cl2, ks2, hk, hll2, hlb2, hq, rfl, hS, hks2⟩
          refine CW.seq fun K50 hK50 => ?_
          refine CW.seq fun K51 hK51 => ?_
          refine CW.region [0, 1, 2, 3, 4] rfl ?_
          refine LW.ex rfl rfl rfl rfl (Ex.move rfl) hS.rd ?_
          refine LW.ex rfl rfl rfl rfl (Ex.fieldO 1 Try.underlying38 rfl rfl ti36 rfl) hS.rd ?_
          refine LW.ex rfl rfl rfl rfl (Ex.load1 ti36 rfl rfl (by first | exact obT rfl | exact Rd.imm ‹_› | exact slT ‹_›)) hS.rd ?_
          refine LW.ex rfl rfl rfl rfl (Ex.lenSl rfl Try.underlying36 rfl) hS.rd ?_
          refine LW.ex rfl rfl rfl rfl (Ex.lss rfl rfl rfl) hS.rd ?_
          refine LW.splitB (fun h12_4 => ?_) (fun h12_4 => ?_)
          · have h12_4 := of_decide_eq_true h12_4
            refine LW.nil fun aa ha => hK51 _ _ _ ?_ aa ha
            refine CW.yes rfl ?_
            refine CW.skip fun aa ha => hK50 _ _ _ ?_ aa ha
            refine CW.seq fun K52 hK52 => ?_
            refine CW.block ?_
            refine CW.seq fun K53 hK53 => ?_
            have hk2 : k < x.Edges.length := by omega
            have hedk := hed _ (List.getElem_mem hk2)
            have hpc := hM.pairC0 z.b x.Edges[k].Word
            have hwk : x.Edges[k].Word < m.Words.length := by have h := hw; unfold wordsIn at h; rw [List.all_eq_true] at h; exact of_decide_eq_true (h _ (List.getElem_mem hk2))
            obtain ⟨e, hee⟩ : ∃ e, e = x.Edges[k] := ⟨_, rfl⟩
            have hea : edAt x k = e := by rw [edAt_of hk2, hee]
            have hfs := filter_succ x k z.a
            rw [hea] at hfs
            obtain ⟨bl2, ol2, rfl, q0, q1, q2, q3⟩ := hxl.at hk2
            rw [← hee] at q0 q1 q2 q3 hedk hpc hwk
            refine CW.region [0, 1, 2, 3, 4, 5, 6] rfl ?_
            refine LW.ex rfl rfl rfl rfl (Ex.fieldO 1 Try.underlying38 rfl rfl ti36 rfl) hS.rd ?_
            refine LW.ex rfl rfl rfl rfl (Ex.load1 ti36 rfl rfl (by first | exact obT rfl | exact Rd.imm ‹_› | exact slT ‹_›)) hS.rd ?_
            refine LW.ex rfl rfl rfl rfl (Ex.move rfl) hS.rd ?_
            refine LW.ex rfl rfl rfl rfl (Ex.indexSl Try.underlying36 ti43 rfl rfl rfl (by omega)) hS.rd ?_
            refine LW.ex rfl rfl rfl rfl (Ex.load4c ti43 rfl rfl (by first | exact obT rfl | exact Rd.imm ‹_› | exact slT ‹_›) (by first | exact obT rfl | exact Rd.imm ‹_› | exact slT ‹_›) (by first | exact obT rfl | exact Rd.imm ‹_› | exact slT ‹_›) (by first | exact obT rfl | exact Rd.imm ‹_› | exact slT ‹_›)) hS.rd ?_
            refine LW.hv rfl rfl rfl rfl (Hv.alloc ti43 hS) fun v w11 ⟨b11, hv, hb11, hS⟩ => ?_
            subst hv
            refine LW.hu rfl rfl rfl (Hv.storeN (k := 0) ti43 hS rfl rfl rfl rfl (by simp [Value.oneCell'])) fun _ w_6 hS => ?_
            dsimp only [List.set] at hS
            refine LW.nil fun aa ha => hK53 _ _ _ ?_ aa ha
            refine CW.seq fun K54 hK54 => ?_
            have hS := hS.drew
            refine CW.draw 8 (.ex 0 <| .ex 1 <| .ex 2 <| .ex 3 <| .ex 4 <| .ex 5 <| .ex 6 <| .ex 7 <| .done) [] (Rd _ _) mixed (by kernel_rfl) rfl rfl hS.rd ?_
            refine PW.ex rfl rfl rfl rfl (Ex.fieldO 0 Try.underlying43 rfl rfl ti3 rfl) ?_
            refine PW.ex rfl rfl rfl rfl (Ex.load1 ti3 rfl rfl (by first | exact obT rfl | exact Rd.imm ‹_› | exact slT ‹_›)) ?_
            refine PW.ex rfl rfl rfl rfl (Ex.move rfl) ?_
            refine PW.ex rfl rfl rfl rfl (Ex.move rfl) ?_
            refine PW.ex rfl rfl rfl rfl (Ex.indexSl Try.underlying63 ti97 rfl rfl rfl (by omega)) ?_
            refine PW.ex rfl rfl rfl rfl (Ex.fieldO 0 Try.underlying97 rfl rfl ti3 rfl) ?_
            refine PW.ex rfl rfl rfl rfl (Ex.load1 ti3 rfl rfl (by first | exact obT rfl | exact Rd.imm ‹_› | exact slT ‹_›)) ?_
            refine PW.ex rfl rfl rfl rfl (Ex.eql rfl rfl rfl) ?_
            refine PW.splitB (fun h15_7 => ?_) (fun h15_7 => ?_)
            · have h15_7 := of_decide_eq_true h15_7
              rw [if_pos (by omega)] at hfs
              refine PW.nil ?_
              refine LW.nil fun aa ha => hK54 _ _ _ ?_ aa ha
              refine CW.yes rfl ?_
              have hS := hS.drew
              refine CW.draw 23 (.ex 0 <| .ex 1 <| .ex 2 <| .ex 3 <| .ex 4 <| .ex 5 <| .ex 6 <| .ex 8 <| .ex 9 <| .ex 10 <| .ex 11 <| .ex 12 <| .ex 13 <| .ex 14 <| .ex 15 <| .ex 16 <| .ex 17 <| .ex 18 <| .one 7 <| .one 19 <| .ex 20 <| .ex 21 <| .one 22 <| .done) [23, 24, 25, 26] (Rd _ _) mixed (by kernel_rfl) rfl rfl hS.rd ?_
              refine PW.ex rfl rfl rfl rfl (Ex.fieldO 0 Try.underlying49 rfl rfl ti46 rfl) ?_
              refine PW.ex rfl rfl rfl rfl (Ex.fieldO 1 Try.underlying46 rfl rfl ti44 rfl) ?_
              refine PW.ex rfl rfl rfl rfl (Ex.load1 ti44 rfl rfl (by first | exact obT rfl | exact Rd.imm ‹_› | exact slT ‹_›)) ?_
              refine PW.ex rfl rfl rfl rfl (Ex.move rfl) ?_
              refine PW.ex rfl rfl rfl rfl (Ex.move rfl) ?_
              refine PW.ex rfl rfl rfl rfl (Ex.load2c ti38 rfl rfl (by first | exact obT rfl | exact Rd.imm ‹_› | exact slT ‹_›) (by first | exact obT rfl | exact Rd.imm ‹_› | exact slT ‹_›)) ?_
              refine PW.ex rfl rfl rfl rfl (Ex.load4c ti43 rfl rfl (by first | exact obT rfl | exact Rd.imm ‹_› | exact slT ‹_›) (by first | exact obT rfl | exact Rd.imm ‹_› | exact slT ‹_›) (by first | exact obT rfl | exact Rd.imm ‹_› | exact slT ‹_›) (by first | exact obT rfl | exact Rd.imm ‹_› | exact slT ‹_›)) ?_
              refine PW.ex rfl rfl rfl rfl (Ex.move rfl) ?_
              refine PW.ex rfl rfl rfl rfl (Ex.fieldO 3 Try.underlying43 rfl rfl ti3 rfl) ?_
              refine PW.ex rfl rfl rfl rfl (Ex.load1 ti3 rfl rfl (by first | exact obT rfl | exact Rd.imm ‹_› | exact slT ‹_›)) ?_
              refine PW.ex rfl rfl rfl rfl (Ex.load4c ti34 rfl rfl (by first | exact obT rfl | exact Rd.imm ‹_› | exact slT ‹_›) (by first | exact obT rfl | exact Rd.imm ‹_› | exact slT ‹_›) (by first | exact obT rfl | exact Rd.imm ‹_› | exact slT ‹_›) (by first | exact obT rfl | exact Rd.imm ‹_› | exact slT ‹_›)) ?_
              refine PW.ex rfl rfl rfl rfl (Ex.move rfl) ?_
              refine PW.ex rfl rfl rfl rfl (Ex.move rfl) ?_
              refine PW.ex rfl rfl rfl rfl (Ex.indexSl Try.underlying63 ti97 rfl rfl rfl (by omega)) ?_
              refine PW.ex rfl rfl rfl rfl (Ex.fieldO 1 Try.underlying97 rfl rfl ti3 rfl) ?_
              refine PW.ex rfl rfl rfl rfl (Ex.load1 ti3 rfl rfl (by first | exact obT rfl | exact Rd.imm ‹_› | exact slT ‹_›)) ?_
              refine PW.ex rfl rfl rfl rfl (Ex.fieldO 2 Try.underlying43 rfl rfl ti3 rfl) ?_
              refine PW.ex rfl rfl rfl rfl (Ex.load1 ti3 rfl rfl (by first | exact obT rfl | exact Rd.imm ‹_› | exact slT ‹_›)) ?_
              refine PW.hv rfl rfl rfl rfl (Hv.callS hS rfl rfl rfl cb37 (rfindN_c x m.Words.length p hx hn2 hw hp k hk2 e hee (nodesL x m.Words.length p) rfl _ _ _ _ _ _ hS.imm hxl hsN)) (fun _ _ h => h.2.rd) fun v w83 ⟨hv, hS⟩ => ?_
              subst hv
              refine PW.hv rfl rfl rfl rfl (Hv.callS hS rfl rfl rfl cb38 (rpair_c m hM z.b e.Word (by omega) (by omega) _ _ _ _ _ _ _ _ hS.imm hm0 hm1 hm2)) (fun _ _ h => h.2.rd) fun v w95 ⟨hv, hS⟩ => ?_
              subst hv
              refine PW.ex rfl rfl rfl rfl (Ex.add rfl rfl (w64 (by omega) (by omega))) ?_
              refine PW.ex rfl rfl rfl rfl (Ex.buildS st66 rfl rfl rfl) ?_
              refine PW.hv rfl rfl rfl rfl (Hv.buildSl hS Try.underlying44 ti66 rfl rfl rfl rfl rfl rfl) (fun _ _ ⟨_, _, _, h⟩ => h.rd.tail) fun v w98 ⟨b98, hv, hb98, hS⟩ => ?_
              subst hv
              refine PW.nil ?_
              refine LW.hv rfl rfl rfl rfl (Hv.append (k := 2) rfl Try.underlying44 ti66 rfl hS rfl rfl rfl rfl (Rd.objAll (k := 0) rfl hS.rd) (by simp [Value.oneCell']) (by unfold maxLen; omega) (by omega)) fun v w99 ⟨ad99, c99, hv, hS⟩ => ?_
              subst hv
              dsimp only [List.set] at hS
              have hS := hS.drop 0 rfl
              dsimp only [List.eraseIdx] at hS
              rw [show ks2.flatMap linkL ++ [Value.int .i64 i, .int .i64 (toN (nodesL x m.Words.length p) x e : Nat), .int .i64 k, .int .i64 (e.Cost + pairC m z.b e.Word)] = (ks2 ++ [mkLink x m (nodesL x m.Words.length p) i z k]).flatMap linkL by rw [List.flatMap_append, List.flatMap_singleton]; unfold mkLink; rw [hea]; rfl] at hS
              refine LW.ex rfl rfl rfl rfl (Ex.fieldO 0 Try.underlying49 rfl rfl ti46 rfl) hS.rd ?_
              refine LW.ex rfl rfl rfl rfl (Ex.fieldO 1 Try.underlying46 rfl rfl ti44 rfl) hS.rd ?_
              refine LW.hu rfl rfl rfl (Hv.storeObj (k := 3) ti44 hS rfl rfl rfl rfl (by first | assumption | (simp; done) | omega | exact Nat.zero_lt_succ _)) fun _ w_26 hS => ?_
              dsimp only [List.set] at hS
              refine LW.nil fun aa ha => hK52 _ _ _ ?_ aa ha
              refine CW.region [0, 1, 2] rfl ?_
              refine LW.ex rfl rfl rfl rfl (Ex.move rfl) hS.rd ?_
              refine LW.ex rfl rfl rfl rfl (Ex.add rfl rfl (by first | exact inc64 (by omega) | exact addN (by omega) | exact w64 (by omega) (by omega))) hS.rd ?_
              refine LW.ex rfl rfl rfl rfl (Ex.assign rfl) hS.rd ?_
              refine LW.nil fun aa ha => ?_
              have hS := hS.drop 0 rfl
              dsimp only [List.eraseIdx] at hS
              refine ⟨_, _, ?m12, ⟨k + 1, ad99, ll2 + 1, c99, ks2 ++ [mkLink x m (nodesL x m.Words.length p) i z k], (by first | omega | (simp; done) | (simp; omega)), (by first | omega | (simp; done) | (simp; omega)), (by first | omega | (simp; done) | (simp; omega)), rfl, rfl, hS, by rw [hks2, hfs, List.map_append, List.append_assoc]; rfl⟩, ha.sub ⟨rfl, rfl, rfl, rfl, rfl, rfl, rfl, trivial⟩⟩
              case m12 => omega
            · have h15_7 := of_decide_eq_false h15_7
              rw [if_neg (by omega)] at hfs
              refine PW.nil ?_
              refine LW.nil fun aa ha => hK54 _ _ _ ?_ aa ha
              refine CW.no rfl ?_
              refine CW.skip fun aa ha => hK52 _ _ _ ?_ aa ha
              refine CW.region [0, 1, 2] rfl ?_
              refine LW.ex rfl rfl rfl rfl (Ex.move rfl) hS.rd ?_
              refine LW.ex rfl rfl rfl rfl (Ex.add rfl rfl (by first | exact inc64 (by omega) | exact addN (by omega) | exact w64 (by omega) (by omega))) hS.rd ?_
              refine LW.ex rfl rfl rfl rfl (Ex.assign rfl) hS.rd ?_
              refine LW.nil fun aa ha => ?_
              have hS := hS.drop 0 rfl
              dsimp only [List.eraseIdx] at hS
              refine ⟨_, _, ?m12, ⟨k + 1, adl2, ll2, cl2, ks2, (by first | omega | (simp; done) | (simp; omega)), (by first | omega | (simp; done) | (simp; omega)), (by first | omega | (simp; done) | (simp; omega)), rfl, rfl, hS, by rw [hks2, hfs, List.append_nil]⟩, ha.sub ⟨rfl, rfl, rfl, rfl, rfl, rfl, rfl, trivial⟩⟩
              case m12 => omega
          · have h12_4 := of_decide_eq_false h12_4
            refine LW.nil fun aa ha => hK51 _ _ _ ?_ aa ha
            refine CW.no rfl ?_
            refine CW.exit fun aa ha => hK47 _ _ _ ?_ aa ha
            refine CW.region [0, 1, 2] rfl ?_
            refine LW.ex rfl rfl rfl rfl (Ex.move rfl) hS.rd ?_
            refine LW.ex rfl rfl rfl rfl (Ex.add rfl rfl (by first | exact inc64 (by omega) | exact addN (by omega) | exact w64 (by omega) (by omega))) hS.rd ?_
            refine LW.ex rfl rfl rfl rfl (Ex.assign rfl) hS.rd ?_
            refine LW.nil fun aa ha => ?_
            refine ⟨_, _, ?m8, ⟨i + 1, adl2, ll2, cl2, ks2, ad54, c54, (by first | omega | (simp; done) | (simp; omega)), (by first | omega | (simp; done) | (simp; omega)), (by first | omega | (simp; done) | (simp; omega)), rfl, rfl, hS, by rw [linksTo_succ x m _ hi2, ← hz, hlf, ← hks, hks2, show k = x.Edges.length by omega]⟩, ha.sub ⟨rfl, rfl, rfl, rfl, rfl, rfl, trivial⟩⟩
            case m8 => omega
        · have h8_3 := of_decide_eq_false h8_3
          refine LW.nil fun aa ha => hK46 _ _ _ ?_ aa ha
          refine CW.no rfl ?_
          refine CW.exit fun aa ha => hK43 _ _ _ ?_ aa ha
          refine CW.seq fun K55 hK55 => ?_
          refine CW.seq fun K56 hK56 => ?_
          refine CW.region [0, 1, 2, 3, 4, 5, 6, 7, 8, 9] rfl ?_
          refine LW.ex rfl rfl rfl rfl (Ex.move rfl) hS.rd ?_
          refine LW.ex rfl rfl rfl rfl (Ex.lenSl rfl Try.underlying63 rfl) hS.rd ?_
          refine LW.ex rfl rfl rfl rfl (Ex.gtr rfl rfl rfl) hS.rd ?_
          refine LW.splitB (fun h17_2 => ?_) (fun h17_2 => ?_)
          · have h17_2 := of_decide_eq_true h17_2
            omega
          · have h17_2 := of_decide_eq_false h17_2
            refine LW.ex rfl rfl rfl rfl (Ex.move rfl) hS.rd ?_
            refine LW.ex rfl rfl rfl rfl (Ex.fieldO 0 Try.underlying49 rfl rfl ti46 rfl) hS.rd ?_
            refine LW.ex rfl rfl rfl rfl (Ex.fieldO 1 Try.underlying46 rfl rfl ti44 rfl) hS.rd ?_
            refine LW.ex rfl rfl rfl rfl (Ex.load1 ti44 rfl rfl (by first | exact obT rfl | exact Rd.imm ‹_› | exact slT ‹_›)) hS.rd ?_
            refine LW.ex rfl rfl rfl rfl (Ex.lenSl rfl Try.underlying44 rfl) hS.rd ?_
            refine LW.ex rfl rfl rfl rfl (Ex.gtr rfl rfl rfl) hS.rd ?_
            refine LW.splitB (fun h17_8 => ?_) (fun h17_8 => ?_)
            · have h17_8 := of_decide_eq_true h17_8
              omega
            · have h17_8 := of_decide_eq_false h17_8
              refine LW.ex rfl rfl rfl rfl (by first | exact Ex.pick_yes rfl rfl | exact Ex.pick_no rfl rfl) hS.rd ?_
              refine LW.nil fun aa ha => hK56 _ _ _ ?_ aa ha
              refine CW.no rfl ?_
              refine CW.skip fun aa ha => hK55 _ _ _ ?_ aa ha
              refine CW.seq fun K57 hK57 => ?_
              refine CW.region [0, 1] rfl ?_
              refine LW.ex rfl rfl rfl rfl (Ex.load4c ti49 rfl rfl (by first | exact obT rfl | exact Rd.imm ‹_› | exact slT ‹_›) (by first | exact obT rfl | exact Rd.imm ‹_› | exact slT ‹_›) (by first | exact obT rfl | exact Rd.imm ‹_› | exact slT ‹_›) (by first | exact obT rfl | exact Rd.imm ‹_› | exact slT ‹_›)) hS.rd ?_
              refine LW.hu rfl rfl rfl (Hv.storeN (k := 3) ti49 hS rfl rfl rfl rfl (by simp [Value.oneCell'])) fun _ w_1 hS => ?_
              dsimp only [List.set] at hS
              refine LW.nil fun aa ha => hK57 _ _ _ ?_ aa ha
              refine CW.ret fun aa ha => ?_
              have hie : i = (nodesL x m.Words.length p).length := by omega
              subst hll
              obtain ⟨bs, μ1, hmm1, hS, hφ⟩ := hS.shut 0 rfl
              dsimp only [List.eraseIdx] at hS
              obtain ⟨bs2, μ2, hmm2, hS, hφ2⟩ := hS.shut 0 rfl
              dsimp only [List.eraseIdx] at hS
              refine ret_cell ha Try.results14 rfl ti49 rfl (fun j v hv => Rd.objAll (k := 1) rfl hS.rd j v hv) ?_
              have h1 : Sl μ2 adl cl ks := (Sl.of_own hφ (linkReps _ ks) rfl).mono hmm2
              have h2 : Sl μ2 adt ct ((nodesL x m.Words.length p).map (·.b)) := by
                refine Sl.of_own hφ2 ?_ (by rw [List.length_map, hie])
                have := RepL.ints μ2 ((nodesL x m.Words.length p).map (·.b))
                rw [hie, List.take_length]
                rw [List.map_map] at this
                exact this
              rw [hbR]
              refine ⟨_, μ2, rfl, hS.below, (hm35.mono hsz).trans (hmm1.trans hmm2), hS.imm, adl, cl, adt, ct, ?_, ?_, h2⟩
              · unfold graphR; simp only; rw [hks, hie, List.length_map]
              · unfold graphR; simp only; rw [← hie, ← hks]; exact h1
      · have h3_10 := inR_no h3_10
        refine LW.ex rfl rfl rfl rfl (Ex.not rfl rfl) hS.rd ?_
        refine LW.ex rfl rfl rfl rfl (by first | exact Ex.pick_yes rfl rfl | exact Ex.pick_no rfl rfl) hS.rd ?_
        refine LW.nil fun aa ha => hK40 _ _ _ ?_ aa ha
        refine CW.yes rfl ?_
        refine CW.seq fun K58 hK58 => ?_
        refine CW.region [0, 1] rfl ?_
        refine LW.ex rfl rfl rfl rfl (Ex.buildS st49 rfl rfl rfl) hS.rd ?_
        refine LW.hu rfl rfl rfl (Hv.storeN (k := 0) ti49 hS rfl rfl rfl rfl (by simp [Value.oneCell'])) fun _ w_1 hS => ?_
        dsimp only [List.set] at hS
        refine LW.nil fun aa ha => hK58 _ _ _ ?_ aa ha
        refine CW.ret fun aa ha => ?_
        refine ret_cell ha Try.results14 rfl ti49 rfl (fun j v hv => Rd.objAll (k := 0) rfl hS.rd j v hv) ?_
        have e : buildR x m p = ⟨⟨0, []⟩, [], 1⟩ := by unfold buildR; rw [if_pos h1_1, if_neg fun h => by obtain ⟨g1, g2, g3⟩ := fitsC_iff.1 h; omega]
        rw [e]; exact ⟨_, μ, rfl, hS.below, Mem.ext.refl _ _, hS.imm, IsBuiltA.zero μ 1⟩
    · skip
      refine LW.ex rfl rfl rfl rfl (Ex.not rfl rfl) hS.rd ?_
      refine LW.ex rfl rfl rfl rfl (Ex.move rfl) hS.rd ?_
      refine LW.skip rfl rfl rfl rfl ?_
      refine LW.skip rfl rfl rfl rfl ?_
      refine LW.skip rfl rfl rfl rfl ?_
      refine LW.skip rfl rfl rfl rfl ?_
      refine LW.skip rfl rfl rfl rfl ?_
      refine LW.skip rfl rfl rfl rfl ?_
      refine LW.skip rfl rfl rfl rfl ?_
      refine LW.ex rfl rfl rfl rfl (by first | exact Ex.pick_yes rfl rfl | exact Ex.pick_no rfl rfl) hS.rd ?_
      refine LW.nil fun aa ha => hK40 _ _ _ ?_ aa ha
      refine CW.yes rfl ?_
      refine CW.seq fun K59 hK59 => ?_
      refine CW.region [0, 1] rfl ?_
      refine LW.ex rfl rfl rfl rfl (Ex.buildS st49 rfl rfl rfl) hS.rd ?_
      refine LW.hu rfl rfl rfl (Hv.storeN (k := 0) ti49 hS rfl rfl rfl rfl (by simp [Value.oneCell'])) fun _ w_1 hS => ?_
      dsimp only [List.set] at hS
      refine LW.nil fun aa ha => hK59 _ _ _ ?_ aa ha
      refine CW.ret fun aa ha => ?_
      refine ret_cell ha Try.results14 rfl ti49 rfl (fun j v hv => Rd.objAll (k := 0) rfl hS.rd j v hv) ?_
      have e : buildR x m p = ⟨⟨0, []⟩, [], 1⟩ := by unfold buildR; rw [if_pos h1_1, if_neg fun h => by obtain ⟨g1, g2, g3⟩ := fitsC_iff.1 h; rw [fitsB_iff.2 ⟨g1, g3, h1_1⟩] at h3_2; cases h3_2]
      rw [e]; exact ⟨_, μ, rfl, hS.below, Mem.ext.refl _ _, hS.imm, IsBuiltA.zero μ 1⟩
  · skip
    refine LW.ex rfl rfl rfl rfl (Ex.not rfl rfl) hS.rd ?_
    refine LW.nil fun aa ha => hK38 _ _ _ ?_ aa ha
    refine CW.yes rfl ?_
    refine CW.seq fun K60 hK60 => ?_
    refine CW.region [0, 1] rfl ?_
    refine LW.ex rfl rfl rfl rfl (Ex.buildS st49 rfl rfl rfl) hS.rd ?_
    refine LW.hu rfl rfl rfl (Hv.storeN (k := 0) ti49 hS rfl rfl rfl rfl (by simp [Value.oneCell'])) fun _ w_1 hS => ?_
    dsimp only [List.set] at hS
    refine LW.nil fun aa ha => hK60 _ _ _ ?_ aa ha
    refine CW.ret fun aa ha => ?_
    refine ret_cell ha Try.results14 rfl ti49 rfl (fun j v hv => Rd.objAll (k := 0) rfl hS.rd j v hv) ?_
    have e : buildR x m p = ⟨⟨0, []⟩, [], 110⟩ := by unfold buildR; rw [if_neg (by rw [h1_1]; decide)]
    rw [e]; exact ⟨_, μ, rfl, hS.below, Mem.ext.refl _ _, hS.imm, IsBuiltA.zero μ 110⟩
end Go.Proofs.Ytgnpjhellmfhoaa

