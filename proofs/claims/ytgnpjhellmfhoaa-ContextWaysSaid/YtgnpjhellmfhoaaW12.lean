import Derived.Test.YtgnpjhellmfhoaaW11

/-
  Context: package best: the least costs to the last node.
-/
namespace Go.Proofs.Ytgnpjhellmfhoaa
open Go.RowKit Sy
def stepR (g : Grf) (h : List Int) (a : Int) (i : Nat) : Int := if (h[(lkAt g i).To.toNat]?).getD 1152921504606846976 < 1152921504606846976 then min a ((h[(lkAt g i).To.toNat]?).getD 1152921504606846976 + (lkAt g i).Cost) else a
def foldR (g : Grf) (h : List Int) (ls : List Nat) : Int := ls.foldl (stepR g h) 1152921504606846976
theorem foldR_congr {g : Grf} {h h' : List Int} : ∀ (ls : List Nat), (∀ i ∈ ls, h'[(lkAt g i).To.toNat]? = h[(lkAt g i).To.toNat]?) → ∀ a, ls.foldl (stepR g h') a = ls.foldl (stepR g h) a
  | [], _, _ => rfl
  | i :: r, hh, a => by
    rw [List.foldl_cons, List.foldl_cons, foldR_congr r fun z hz => hh z (List.mem_cons_of_mem _ hz)]
    congr 1
    unfold stepR
    rw [hh i (List.mem_cons_self ..)]
theorem foldR_take {g : Grf} {h : List Int} {ls : List Nat} {t : Nat} (ht : t < ls.length) : foldR g h (ls.take (t + 1)) = stepR g h (foldR g h (ls.take t)) ls[t] := by
  unfold foldR
  rw [List.take_succ_eq_append_getElem ht, List.foldl_append]; rfl
def RestFrom (g : Grf) (N k : Nat) (h : List Int) : Prop := (∀ z ∈ h, 0 ≤ z ∧ z ≤ 1152921504606846976) ∧ h[N - 1]? = some 0 ∧ ∀ q, k ≤ q → q + 1 < N → h[q]? = some (foldR g h (outTo g g.Links.length q))
theorem outTo_mem {g : Grf} {n q i : Nat} (h : i ∈ outTo g n q) : i < n ∧ (lkAt g i).From = q := by
  unfold outTo at h
  rw [List.mem_filter, List.mem_range, decide_eq_true_eq] at h
  exact h
theorem lkAt_mem {g : Grf} {i : Nat} (h : i < g.Links.length) : lkAt g i ∈ g.Links := by
  rw [lkAt_of (by omega) (by omega)]; exact List.getElem_mem _
theorem lkAt_nat {g : Grf} {i : Nat} (h : i < g.Links.length) : lkAt g i = g.Links[i] := by
  rw [lkAt_of (by omega) (by omega)]; simp only [Int.toNat_natCast]
theorem GOk.to {g : Grf} (hg : GOk g) {q i : Nat} (h : i ∈ outTo g g.Links.length q) : q < (lkAt g i).To.toNat ∧ (lkAt g i).To < g.N := by
  obtain ⟨h1, h2⟩ := outTo_mem h
  have := hg.lk _ (lkAt_mem h1); omega
theorem rest_set {g : Grf} (hg : GOk g) {N j : Nat} {h : List Int} {v : Int} (hj : j + 1 < N) (hr : RestFrom g N (j + 1) h) (hv : 0 ≤ v ∧ v ≤ 1152921504606846976) : RestFrom g N (j + 1) (h.set j v) := by
  obtain ⟨h1, h2, h3⟩ := hr
  refine ⟨fun z hz => ?_, by rw [List.getElem?_set_ne (by omega)]; exact h2, fun q h4 h5 => ?_⟩
  · rcases List.mem_or_eq_of_mem_set hz with h | h
    · exact h1 z h
    · subst h; exact hv
  · rw [List.getElem?_set_ne (by omega), h3 q h4 h5]
    unfold foldR
    rw [foldR_congr _ fun i hi => List.getElem?_set_ne (by have := hg.to hi; omega)]
theorem fold_set {g : Grf} (hg : GOk g) {j : Nat} {h : List Int} {v : Int} {ls : List Nat} (hl : ∀ i ∈ ls, i ∈ outTo g g.Links.length j) : foldR g (h.set j v) ls = foldR g h ls := by
  unfold foldR
  exact foldR_congr _ (fun i hi => List.getElem?_set_ne (by have := hg.to (hl i hi); omega)) _
theorem rest_init (g : Grf) {N : Nat} (hN : 1 ≤ N) : RestFrom g N (N - 1) (List.replicate N 0) :=
  ⟨fun z hz => by rw [List.eq_of_mem_replicate hz]; decide, by rw [List.getElem?_replicate, if_pos (by omega)], fun q h1 h2 => by omega⟩
theorem rest_step {g : Grf} {N j : Nat} {h : List Int} (hr : RestFrom g N (j + 1) h) (hj : h[j]? = some (foldR g h (outTo g g.Links.length j))) : RestFrom g N j h :=
  ⟨hr.1, hr.2.1, fun q h1 h2 => by
    by_cases e : q = j
    · subst e; exact hj
    · exact hr.2.2 q (by omega) h2⟩
def IsRest (g : Grf) (μ : Mem) (v : Value) : Prop := ∃ h : List Int, h.length = g.N.toNat ∧ RestFrom g g.N.toNat 0 h ∧ IsSl h μ v
set_option maxRecDepth 100000 in
set_option maxHeartbeats 1000000 in
theorem least_c (g : Grf) (hg : GOk g) (a4 a5 : Option Addr) (c4 c5 : Nat) (μ : Mem) (w : World) (hμ : Imm μ w) (hgl : Sl μ a4 c4 g.Links) (hol : Sl μ a5 c5 (outL g)) :
    Calls Try.prog 48 #[.agg #[.int .i64 g.N, .slice a4 g.Links.length c4], .slice a5 (outL g).length c5] w (RetV w μ (IsRest g)) := by
  have hgk := hg
  obtain ⟨n1, n2, nl, hlk⟩ := hgk
  obtain ⟨N, hN⟩ : ∃ N : Nat, g.N = N := ⟨g.N.toNat, by omega⟩
  have hNN : g.N.toNat = N := by omega
  have hoN : (outL g).length = N := by unfold outL; rw [List.length_map, List.length_range, hNN]
  rw [hN] at n1 n2
  rw [hN]
  have hS := St.start w μ hμ
  refine calls_start 61 [.agg #[.int .i64 N, .slice a4 g.Links.length c4], .slice a5 (outL g).length c5] Try.func48 rfl Try.ntmps48 rfl rfl ?_
  refine CW.seq fun K1 hK1 => ?_
  refine CW.region [0, 1] rfl ?_
  refine LW.hv rfl rfl rfl rfl (Hv.boxS hS rfl rfl) fun v w2 ⟨b2, hv, hb2, hS⟩ => ?_
  subst hv
  refine LW.ex rfl rfl rfl rfl (Ex.assign rfl) hS.rd ?_
  refine LW.nil fun aa ha => hK1 _ _ _ ?_ aa ha
  refine CW.seq fun K2 hK2 => ?_
  refine CW.region [0, 1, 2, 3] rfl ?_
  refine LW.ex rfl rfl rfl rfl (Ex.fieldO 0 Try.underlying46 rfl rfl ti3 rfl) hS.rd ?_
  refine LW.ex rfl rfl rfl rfl (Ex.load1 ti3 rfl rfl (by first | exact obT rfl | exact Rd.imm ‹_› | exact slT ‹_›)) hS.rd ?_
  refine LW.hv rfl rfl rfl rfl (Hv.makeSlice Try.underlying31 ti3 hS rfl rfl rfl rfl (by omega) (by unfold maxLen; omega)) fun v w12 ⟨b12, hv, hb12, hS⟩ => ?_
  subst hv
  rw [made_ints] at hS
  refine LW.ex rfl rfl rfl rfl (Ex.assign rfl) hS.rd ?_
  refine LW.nil fun aa ha => hK2 _ _ _ ?_ aa ha
  refine CW.seq fun K3 hK3 => ?_
  refine CW.seq fun K4 hK4 => ?_
  refine CW.region [0, 1, 2, 3] rfl ?_
  refine LW.ex rfl rfl rfl rfl (Ex.fieldO 0 Try.underlying46 rfl rfl ti3 rfl) hS.rd ?_
  refine LW.ex rfl rfl rfl rfl (Ex.load1 ti3 rfl rfl (by first | exact obT rfl | exact Rd.imm ‹_› | exact slT ‹_›)) hS.rd ?_
  refine LW.ex rfl rfl rfl rfl (Ex.sub (r := ((N - 1 : Nat) : Int) - 1) rfl rfl (by rw [w64 (by omega) (by omega)]; omega)) hS.rd ?_
  refine LW.ex rfl rfl rfl rfl (Ex.assign rfl) hS.rd ?_
  refine LW.nil fun aa ha => hK4 _ _ _ ?_ aa ha
  refine CW.block ?_
  refine CW.loop (fun qq frm wl3 => ∃ (k : Nat) (h : List Int), k + 1 ≤ N ∧ h.length = N ∧ qq = k ∧ frm = [(1, .slice a5 (outL g).length c5), (2, .pointer (some ⟨b2, 0, none⟩)), (5, .slice (some ⟨b12, 0, none⟩) N N), (6, .int .i64 ((k : Int) - 1))] ∧ St w wl3 μ [Own.sl (some ⟨b12, 0, none⟩) N N 3 1 (h.map fun x => Value.int .i64 x), Own.obj b2 [.int .i64 N, .slice a4 g.Links.length c4] 46] ∧ (RestFrom g N k h)) _ ⟨N - 1, List.replicate N 0, (by first | omega | (simp; done) | (simp; omega)), (by first | omega | (simp; done) | (simp; omega)), rfl, rfl, hS, rest_init g (by omega)⟩ ⟨rfl, rfl, rfl, rfl, trivial⟩ ?_
  clear hS
  rintro qq frm wl3 ⟨k, h, hk, hhl, hq, rfl, hS, hR⟩
  refine CW.seq fun K5 hK5 => ?_
  refine CW.seq fun K6 hK6 => ?_
  refine CW.region [0, 1] rfl ?_
  refine LW.ex rfl rfl rfl rfl (Ex.move rfl) hS.rd ?_
  refine LW.ex rfl rfl rfl rfl (Ex.geq rfl rfl rfl) hS.rd ?_
  refine LW.splitB (fun h3_1 => ?_) (fun h3_1 => ?_)
  · have h3_1 := of_decide_eq_true h3_1
    refine LW.nil fun aa ha => hK6 _ _ _ ?_ aa ha
    refine CW.yes rfl ?_
    refine CW.skip fun aa ha => hK5 _ _ _ ?_ aa ha
    refine CW.seq fun K7 hK7 => ?_
    refine CW.block ?_
    refine CW.seq fun K8 hK8 => ?_
    obtain ⟨j, rfl⟩ : ∃ j, k = j + 1 := ⟨k - 1, by omega⟩
    rw [show (((j + 1 : Nat) : Int) - 1) = (j : Int) by omega]
    have hov : 0 + j * 1 < (h.map fun x => Value.int .i64 x).length := by rw [List.length_map]; omega
    refine CW.region [0, 1, 2, 3] rfl ?_
    refine LW.ex rfl rfl rfl rfl (Ex.move rfl) hS.rd ?_
    refine LW.ex rfl rfl rfl rfl (Ex.move rfl) hS.rd ?_
    refine LW.ex rfl rfl rfl rfl (Ex.indexSl Try.underlying31 ti3 rfl rfl rfl (by omega)) hS.rd ?_
    refine LW.hu rfl rfl rfl (Hv.storeSl (k := 0) ti3 hS rfl rfl rfl rfl (by first | assumption | (simp; done) | omega | exact Nat.zero_lt_succ _)) fun _ w_3 hS => ?_
    dsimp only [List.set] at hS
    rw [show (h.map fun x => Value.int .i64 x).set (0 + j * 1) (Value.int .i64 1152921504606846976) = (h.set j 1152921504606846976).map fun x => Value.int .i64 x by rw [List.map_set, Nat.zero_add, Nat.mul_one]] at hS
    refine LW.nil fun aa ha => hK8 _ _ _ ?_ aa ha
    refine CW.seq fun K9 hK9 => ?_
    have hSl := hS
    have hjo : j < (outL g).length := by omega
    obtain ⟨bo, oo, rfl, ⟨ad9, c9, kq, hs9⟩⟩ := hol.at hjo
    have hS := hSl
    obtain ⟨O, hO⟩ : ∃ O, O = outTo g g.Links.length j := ⟨_, rfl⟩
    have hOl : O.length ≤ 20000 := by rw [hO]; exact Nat.le_trans (outTo_len _ _ _) nl
    have hel : (outL g)[j] = O.map fun (k : Nat) => (k : Int) := by simp only [outL, List.getElem_map, List.getElem_range, hO]
    rw [hel] at kq hs9
    rw [List.length_map] at kq
    have hR5 := rest_set hg (v := 1152921504606846976) (by omega) hR (by decide)
    refine CW.region [0, 1, 2, 3, 4, 5] rfl ?_
    refine LW.ex rfl rfl rfl rfl (Ex.move rfl) hS.rd ?_
    refine LW.ex rfl rfl rfl rfl (Ex.move rfl) hS.rd ?_
    refine LW.ex rfl rfl rfl rfl (Ex.indexSl Try.underlying106 ti31 rfl rfl rfl (by omega)) hS.rd ?_
    refine LW.ex rfl rfl rfl rfl (Ex.load1 ti31 rfl rfl (by first | exact obT rfl | exact Rd.imm ‹_› | exact slT ‹_›)) hS.rd ?_
    refine LW.ex rfl rfl rfl rfl (Ex.lenSl rfl Try.underlying31 rfl) hS.rd ?_
    refine LW.ex rfl rfl rfl rfl (Ex.move rfl) hS.rd ?_
    refine LW.nil fun aa ha => hK9 _ _ _ ?_ aa ha
    refine CW.block ?_
    refine CW.loop (fun qq frm wl7 => ∃ (t : Nat) (h2 : List Int), t ≤ O.length ∧ h2.length = N ∧ qq = O.length - t ∧ frm = [(1, .slice (some ⟨bo, oo, none⟩) (outL g).length c5), (2, .pointer (some ⟨b2, 0, none⟩)), (5, .slice (some ⟨b12, 0, none⟩) N N), (6, .int .i64 j), (26, .slice ad9 O.length c9), (27, .int .i64 O.length), (28, .int .i64 t)] ∧ St w wl7 μ [Own.sl (some ⟨b12, 0, none⟩) N N 3 1 (h2.map fun x => Value.int .i64 x), Own.obj b2 [.int .i64 N, .slice a4 g.Links.length c4] 46] ∧ (RestFrom g N (j + 1) h2) ∧ (h2[j]? = some (foldR g h2 (O.take t)))) _ ⟨0, h.set j 1152921504606846976, (by first | omega | (simp; done) | (simp; omega)), (by first | omega | (simp; done) | (simp; omega)), rfl, rfl, hS, hR5, by rw [List.getElem?_set_self (by omega)]; rfl⟩ ⟨rfl, rfl, rfl, rfl, rfl, rfl, rfl, trivial⟩ ?_
    clear hS
    rintro qq frm wl7 ⟨t, h2, ht, hh2, hq, rfl, hS, hR2, hf⟩
    refine CW.seq fun K10 hK10 => ?_
    refine CW.region [0] rfl ?_
    refine LW.ex rfl rfl rfl rfl (Ex.lss rfl rfl rfl) hS.rd ?_
    refine LW.splitB (fun h7_0 => ?_) (fun h7_0 => ?_)
    · have h7_0 := of_decide_eq_true h7_0
      refine LW.nil fun aa ha => hK10 _ _ _ ?_ aa ha
      refine CW.seq fun K11 hK11 => ?_
      refine CW.yes rfl ?_
      refine CW.skip fun aa ha => hK11 _ _ _ ?_ aa ha
      refine CW.seq fun K12 hK12 => ?_
      refine CW.block ?_
      refine CW.seq fun K13 hK13 => ?_
      have hSl := hS
      have ht2 : t < O.length := by omega
      obtain ⟨be, oe, rfl, ke⟩ := hs9.at (i := t) (by rw [List.length_map]; exact ht2)
      obtain ⟨i, hi⟩ : ∃ i, i = O[t] := ⟨_, rfl⟩
      rw [show (O.map fun (k : Nat) => (k : Int))[t]'(by rw [List.length_map]; exact ht2) = (i : Int) by rw [List.getElem_map, hi]] at ke
      have him : i ∈ outTo g g.Links.length j := by rw [hi, ← hO]; exact List.getElem_mem ht2
      obtain ⟨hi2, hi3⟩ := outTo_mem him
      obtain ⟨bl, ol, rfl, k0, k1, k2, k3⟩ := hgl.at hi2
      have hS := hSl
      have hkk := hlk _ (List.getElem_mem hi2)
      have hto := hg.to him
      have hsr := foldR_take (g := g) (h := h2) ht2
      rw [← hi] at hsr
      unfold stepR at hsr
      rw [lkAt_nat hi2] at hsr hto
      obtain ⟨z, hz⟩ : ∃ z, z = g.Links[i] := ⟨_, rfl⟩
      rw [← hz] at k0 k1 k2 k3 hkk hsr hto
      obtain ⟨v, hv⟩ : ∃ v : Nat, z.To = v := ⟨z.To.toNat, by omega⟩
      rw [hv] at k1 hsr hto
      rw [Int.toNat_natCast] at hsr hto
      have hvl : v < h2.length := by omega
      obtain ⟨r, hr⟩ : ∃ r, h2[v]? = some r := ⟨h2[v], List.getElem?_eq_getElem hvl⟩
      rw [hr, Option.getD_some] at hsr
      have g0 : (h2.map fun x => Value.int .i64 x)[v]? = some (.int .i64 r) := by rw [List.getElem?_map, hr]; rfl
      obtain ⟨a, ha0⟩ : ∃ a, a = foldR g h2 (O.take t) := ⟨_, rfl⟩
      rw [← ha0] at hsr hf
      have g1 : (h2.map fun x => Value.int .i64 x)[j]? = some (.int .i64 a) := by rw [List.getElem?_map, hf]; rfl
      have hr0 := hR2.1 r (List.mem_of_getElem? hr)
      have ha1 := hR2.1 a (List.mem_of_getElem? hf)
      have hov2 : 0 + j * 1 < (h2.map fun x => Value.int .i64 x).length := by rw [List.length_map]; omega
      refine CW.region [0, 1, 2] rfl ?_
      refine LW.ex rfl rfl rfl rfl (Ex.indexSl Try.underlying31 ti3 rfl rfl rfl (by omega)) hS.rd ?_
      refine LW.ex rfl rfl rfl rfl (Ex.load1 ti3 rfl rfl (by first | exact obT rfl | exact Rd.imm ‹_› | exact slT ‹_›)) hS.rd ?_
      refine LW.ex rfl rfl rfl rfl (Ex.assign rfl) hS.rd ?_
      refine LW.nil fun aa ha => hK13 _ _ _ ?_ aa ha
      refine CW.seq fun K14 hK14 => ?_
      refine CW.region [0, 1, 2, 3, 4, 5, 6, 7, 8, 9] rfl ?_
      refine LW.ex rfl rfl rfl rfl (Ex.move rfl) hS.rd ?_
      refine LW.ex rfl rfl rfl rfl (Ex.fieldO 1 Try.underlying46 rfl rfl ti44 rfl) hS.rd ?_
      refine LW.ex rfl rfl rfl rfl (Ex.load1 ti44 rfl rfl (by first | exact obT rfl | exact Rd.imm ‹_› | exact slT ‹_›)) hS.rd ?_
      refine LW.ex rfl rfl rfl rfl (Ex.move rfl) hS.rd ?_
      refine LW.ex rfl rfl rfl rfl (Ex.indexSl Try.underlying44 ti66 rfl rfl rfl (by omega)) hS.rd ?_
      refine LW.ex rfl rfl rfl rfl (Ex.fieldO 1 Try.underlying66 rfl rfl ti3 rfl) hS.rd ?_
      refine LW.ex rfl rfl rfl rfl (Ex.load1 ti3 rfl rfl (by first | exact obT rfl | exact Rd.imm ‹_› | exact slT ‹_›)) hS.rd ?_
      refine LW.ex rfl rfl rfl rfl (Ex.indexSl Try.underlying31 ti3 rfl rfl rfl (by omega)) hS.rd ?_
      refine LW.ex rfl rfl rfl rfl (Ex.load1 ti3 rfl rfl (slT (v := .int .i64 r) (by rw [Nat.zero_add, Nat.mul_one]; exact g0))) hS.rd ?_
      refine LW.ex rfl rfl rfl rfl (Ex.assign rfl) hS.rd ?_
      refine LW.nil fun aa ha => hK14 _ _ _ ?_ aa ha
      refine CW.seq fun K15 hK15 => ?_
      refine CW.region [0, 1] rfl ?_
      refine LW.ex rfl rfl rfl rfl (Ex.move rfl) hS.rd ?_
      refine LW.ex rfl rfl rfl rfl (Ex.lss rfl rfl rfl) hS.rd ?_
      refine LW.splitB (fun h10_1 => ?_) (fun h10_1 => ?_)
      · have h10_1 := of_decide_eq_true h10_1
        refine LW.nil fun aa ha => hK15 _ _ _ ?_ aa ha
        refine CW.yes rfl ?_
        have hS := hS.drew
        refine CW.draw 16 (.ex 0 <| .ex 1 <| .ex 2 <| .ex 3 <| .ex 4 <| .ex 5 <| .ex 6 <| .ex 7 <| .ex 8 <| .ex 9 <| .ex 10 <| .ex 11 <| .ex 12 <| .ex 13 <| .ex 14 <| .ex 15 <| .done) [16] (Rd _ _) mixed (by kernel_rfl) rfl rfl hS.rd ?_
        refine PW.ex rfl rfl rfl rfl (Ex.move rfl) ?_
        refine PW.ex rfl rfl rfl rfl (Ex.move rfl) ?_
        refine PW.ex rfl rfl rfl rfl (Ex.move rfl) ?_
        refine PW.ex rfl rfl rfl rfl (Ex.move rfl) ?_
        refine PW.ex rfl rfl rfl rfl (Ex.indexSl Try.underlying31 ti3 rfl rfl rfl (by omega)) ?_
        refine PW.ex rfl rfl rfl rfl (Ex.load1 ti3 rfl rfl (slT (v := .int .i64 a) (by rw [Nat.zero_add, Nat.mul_one]; exact g1))) ?_
        refine PW.ex rfl rfl rfl rfl (Ex.move rfl) ?_
        refine PW.ex rfl rfl rfl rfl (Ex.fieldO 1 Try.underlying46 rfl rfl ti44 rfl) ?_
        refine PW.ex rfl rfl rfl rfl (Ex.load1 ti44 rfl rfl (by first | exact obT rfl | exact Rd.imm ‹_› | exact slT ‹_›)) ?_
        refine PW.ex rfl rfl rfl rfl (Ex.move rfl) ?_
        refine PW.ex rfl rfl rfl rfl (Ex.indexSl Try.underlying44 ti66 rfl rfl rfl (by omega)) ?_
        refine PW.ex rfl rfl rfl rfl (Ex.fieldO 3 Try.underlying66 rfl rfl ti3 rfl) ?_
        refine PW.ex rfl rfl rfl rfl (Ex.load1 ti3 rfl rfl (by first | exact obT rfl | exact Rd.imm ‹_› | exact slT ‹_›)) ?_
        refine PW.ex rfl rfl rfl rfl (Ex.add rfl rfl (w64 (by omega) (by omega))) ?_
        refine PW.ex rfl rfl rfl rfl (Ex.min2 rfl rfl rfl) ?_
        refine PW.ex rfl rfl rfl rfl (Ex.indexSl Try.underlying31 ti3 rfl rfl rfl (by omega)) ?_
        refine PW.nil ?_
        refine LW.hu rfl rfl rfl (Hv.storeSl (k := 0) ti3 hS rfl rfl rfl rfl (by first | assumption | (simp; done) | omega | exact Nat.zero_lt_succ _)) fun _ w_16 hS => ?_
        dsimp only [List.set] at hS
        rw [show (h2.map fun x => Value.int .i64 x).set (0 + j * 1) (Value.int .i64 (min a (r + z.Cost))) = (h2.set j (min a (r + z.Cost))).map fun x => Value.int .i64 x by rw [List.map_set, Nat.zero_add, Nat.mul_one]] at hS
        refine LW.nil fun aa ha => hK12 _ _ _ ?_ aa ha
        refine CW.region [0, 1] rfl ?_
        refine LW.ex rfl rfl rfl rfl (Ex.add rfl rfl (by first | exact inc64 (by omega) | exact addN (by omega) | exact w64 (by omega) (by omega))) hS.rd ?_
        refine LW.ex rfl rfl rfl rfl (Ex.move rfl) hS.rd ?_
        refine LW.nil fun aa ha => ?_
        refine ⟨_, _, ?m7, ⟨t + 1, h2.set j (min a (r + z.Cost)), (by first | omega | (simp; done) | (simp; omega)), (by first | omega | (simp; done) | (simp; omega)), rfl, rfl, hS, rest_set hg (by omega) hR2 (by omega), by rw [List.getElem?_set_self (by omega), fold_set hg (fun i hi => by rw [hO] at hi; exact List.mem_of_mem_take hi), hsr, if_pos (by omega)]⟩, ha.sub ⟨rfl, rfl, rfl, rfl, rfl, rfl, rfl, trivial⟩⟩
        case m7 => omega
      · have h10_1 := of_decide_eq_false h10_1
        refine LW.nil fun aa ha => hK15 _ _ _ ?_ aa ha
        refine CW.no rfl ?_
        refine CW.skip fun aa ha => hK12 _ _ _ ?_ aa ha
        refine CW.region [0, 1] rfl ?_
        refine LW.ex rfl rfl rfl rfl (Ex.add rfl rfl (by first | exact inc64 (by omega) | exact addN (by omega) | exact w64 (by omega) (by omega))) hS.rd ?_
        refine LW.ex rfl rfl rfl rfl (Ex.move rfl) hS.rd ?_
        refine LW.nil fun aa ha => ?_
        refine ⟨_, _, ?m7, ⟨t + 1, h2, (by first | omega | (simp; done) | (simp; omega)), (by first | omega | (simp; done) | (simp; omega)), rfl, rfl, hS, hR2, by rw [hsr, if_neg (by omega), hf]⟩, ha.sub ⟨rfl, rfl, rfl, rfl, rfl, rfl, rfl, trivial⟩⟩
        case m7 => omega
    · have h7_0 := of_decide_eq_false h7_0
      refine LW.nil fun aa ha => hK10 _ _ _ ?_ aa ha
      refine CW.seq fun K16 hK16 => ?_
      refine CW.no rfl ?_
      refine CW.exit fun aa ha => hK7 _ _ _ ?_ aa ha
      refine CW.region [0, 1, 2] rfl ?_
      refine LW.ex rfl rfl rfl rfl (Ex.move rfl) hS.rd ?_
      refine LW.ex rfl rfl rfl rfl (Ex.sub rfl rfl (by first | exact dec64 (by omega) (by omega) | exact subN (by omega) (by omega) | exact w64 (by omega) (by omega))) hS.rd ?_
      refine LW.ex rfl rfl rfl rfl (Ex.assign rfl) hS.rd ?_
      refine LW.nil fun aa ha => ?_
      refine ⟨_, _, ?m3, ⟨j, h2, (by first | omega | (simp; done) | (simp; omega)), (by first | omega | (simp; done) | (simp; omega)), rfl, rfl, hS, rest_step hR2 (by rw [hf, List.take_of_length_le (by omega), hO])⟩, ha.sub ⟨rfl, rfl, rfl, rfl, trivial⟩⟩
      case m3 => omega
  · have h3_1 := of_decide_eq_false h3_1
    refine LW.nil fun aa ha => hK6 _ _ _ ?_ aa ha
    refine CW.no rfl ?_
    refine CW.exit fun aa ha => hK3 _ _ _ ?_ aa ha
    refine CW.seq fun K17 hK17 => ?_
    refine CW.region [0, 1] rfl ?_
    refine LW.ex rfl rfl rfl rfl (Ex.move rfl) hS.rd ?_
    refine LW.ex rfl rfl rfl rfl (Ex.assign rfl) hS.rd ?_
    refine LW.nil fun aa ha => hK17 _ _ _ ?_ aa ha
    refine CW.ret fun aa ha => ?_
    refine ret_one ha Try.results48 rfl ?_
    obtain rfl : k = 0 := by omega
    obtain ⟨bs, μ1, hmm1, hS, hφ⟩ := hS.shut 0 rfl
    exact ⟨_, μ1, rfl, hS.below, hmm1, hS.imm, h, by rw [hhl, hNN], by rw [hNN]; exact hR, _, N, by rw [hhl], Sl.of_own hφ (RepL.ints _ _) hhl.symm⟩
end Go.Proofs.Ytgnpjhellmfhoaa

/-
  Context: package best: the number of ways of a graph.
-/
namespace Go.Proofs.Ytgnpjhellmfhoaa
open Go.RowKit Sy
def stepN (g : Grf) (h : List Int) (a : Int) (i : Nat) : Int := min (a + (h[(lkAt g i).To.toNat]?).getD 0) 1000000000
def foldN (g : Grf) (h : List Int) (ls : List Nat) : Int := ls.foldl (stepN g h) 0
theorem foldN_congr {g : Grf} {h h' : List Int} : ∀ (ls : List Nat), (∀ i ∈ ls, h'[(lkAt g i).To.toNat]? = h[(lkAt g i).To.toNat]?) → ∀ a, ls.foldl (stepN g h') a = ls.foldl (stepN g h) a
  | [], _, _ => rfl
  | i :: r, hh, a => by
    rw [List.foldl_cons, List.foldl_cons, foldN_congr r fun z hz => hh z (List.mem_cons_of_mem _ hz)]
    congr 1
    unfold stepN
    rw [hh i (List.mem_cons_self ..)]
theorem foldN_take {g : Grf} {h : List Int} {ls : List Nat} {t : Nat} (ht : t < ls.length) : foldN g h (ls.take (t + 1)) = stepN g h (foldN g h (ls.take t)) ls[t] := by
  unfold foldN
  rw [List.take_succ_eq_append_getElem ht, List.foldl_append]; rfl
def NumFrom (g : Grf) (N k : Nat) (h : List Int) : Prop := (∀ z ∈ h, 0 ≤ z ∧ z ≤ 1000000000) ∧ h[N - 1]? = some 1 ∧ (∀ q, k ≤ q → q + 1 < N → h[q]? = some (foldN g h (outTo g g.Links.length q))) ∧ ∀ q, q < k → q + 1 < N → h[q]? = some 0
theorem num_set {g : Grf} (hg : GOk g) {N j : Nat} {h : List Int} {v : Int} (hj : j + 1 < N) (hr : (∀ z ∈ h, 0 ≤ z ∧ z ≤ 1000000000) ∧ h[N - 1]? = some 1 ∧ (∀ q, j + 1 ≤ q → q + 1 < N → h[q]? = some (foldN g h (outTo g g.Links.length q))) ∧ ∀ q, q < j → q + 1 < N → h[q]? = some 0) (hv : 0 ≤ v ∧ v ≤ 1000000000) :
    (∀ z ∈ h.set j v, 0 ≤ z ∧ z ≤ 1000000000) ∧ (h.set j v)[N - 1]? = some 1 ∧ (∀ q, j + 1 ≤ q → q + 1 < N → (h.set j v)[q]? = some (foldN g (h.set j v) (outTo g g.Links.length q))) ∧ ∀ q, q < j → q + 1 < N → (h.set j v)[q]? = some 0 := by
  obtain ⟨h1, h2, h3, h4⟩ := hr
  refine ⟨fun z hz => ?_, by rw [List.getElem?_set_ne (by omega)]; exact h2, fun q h5 h6 => ?_, fun q h5 h6 => by rw [List.getElem?_set_ne (by omega)]; exact h4 q h5 h6⟩
  · rcases List.mem_or_eq_of_mem_set hz with h | h
    · exact h1 z h
    · subst h; exact hv
  · rw [List.getElem?_set_ne (by omega), h3 q h5 h6]
    unfold foldN
    rw [foldN_congr _ fun i hi => List.getElem?_set_ne (by have := hg.to hi; omega)]
def NumMid (g : Grf) (N j : Nat) (h : List Int) : Prop := (∀ z ∈ h, 0 ≤ z ∧ z ≤ 1000000000) ∧ h[N - 1]? = some 1 ∧ (∀ q, j + 1 ≤ q → q + 1 < N → h[q]? = some (foldN g h (outTo g g.Links.length q))) ∧ ∀ q, q < j → q + 1 < N → h[q]? = some 0
theorem foldN_set {g : Grf} (hg : GOk g) {j : Nat} {h : List Int} {v : Int} {ls : List Nat} (hl : ∀ i ∈ ls, i ∈ outTo g g.Links.length j) : foldN g (h.set j v) ls = foldN g h ls := by
  unfold foldN
  exact foldN_congr _ (fun i hi => List.getElem?_set_ne (by have := hg.to (hl i hi); omega)) _
theorem num_init (g : Grf) {N : Nat} (hN : 1 ≤ N) : NumFrom g N (N - 1) ((List.replicate N 0).set (N - 1) 1) := by
  refine ⟨fun z hz => ?_, by rw [List.getElem?_set_self (by simp; omega)], fun q h1 h2 => by omega, fun q h1 h2 => by rw [List.getElem?_set_ne (by omega), List.getElem?_replicate, if_pos (by omega)]⟩
  rcases List.mem_or_eq_of_mem_set hz with h | h
  · rw [List.eq_of_mem_replicate h]; decide
  · subst h; decide
theorem num_step {g : Grf} {N j : Nat} {h : List Int} (hr : NumMid g N j h) (hj : h[j]? = some (foldN g h (outTo g g.Links.length j))) : NumFrom g N j h :=
  ⟨hr.1, hr.2.1, fun q h1 h2 => by
    by_cases e : q = j
    · subst e; exact hj
    · exact hr.2.2.1 q (by omega) h2, hr.2.2.2⟩
theorem num_mid {g : Grf} {N j : Nat} {h : List Int} (hr : NumFrom g N (j + 1) h) : NumMid g N j h := ⟨hr.1, hr.2.1, hr.2.2.1, fun q h1 h2 => hr.2.2.2 q (by omega) h2⟩
def IsNum (g : Grf) (_ : Mem) (v : Value) : Prop := ∃ (h : List Int) (z : Int), h.length = g.N.toNat ∧ NumFrom g g.N.toNat 0 h ∧ h[0]? = some z ∧ v = .int .i64 z
theorem out_n (g : Grf) (hg : GOk g) (N : Nat) (hN : g.N = N) (a4 : Option Addr) (c4 : Nat) (μ : Mem) (w : World) (hμ : Imm μ w) (hgl : Sl μ a4 c4 g.Links) :
    Calls Try.prog 47 #[.agg #[.int .i64 N, .slice a4 g.Links.length c4]] w (RetV w μ (IsSl (outL g))) := by
  rw [← hN]; exact out_c g hg a4 c4 μ w hμ hgl
set_option maxRecDepth 100000 in
set_option maxHeartbeats 1000000 in
theorem number_c (g : Grf) (hg : GOk g) (a4 : Option Addr) (c4 : Nat) (μ : Mem) (w : World) (hμ : Imm μ w) (hgl : Sl μ a4 c4 g.Links) :
    Calls Try.prog 27 #[.agg #[.int .i64 g.N, .slice a4 g.Links.length c4]] w (RetV w μ (IsNum g)) := by
  have hgk := hg
  obtain ⟨n1, n2, nl, hlk⟩ := hgk
  obtain ⟨N, hN⟩ : ∃ N : Nat, g.N = N := ⟨g.N.toNat, by omega⟩
  have hNN : g.N.toNat = N := by omega
  have hoN : (outL g).length = N := by unfold outL; rw [List.length_map, List.length_range, hNN]
  rw [hN] at n1 n2
  rw [hN]
  have hS := St.start w μ hμ
  refine calls_start 56 [.agg #[.int .i64 N, .slice a4 g.Links.length c4]] Try.func27 rfl Try.ntmps27 rfl rfl ?_
  refine CW.seq fun K1 hK1 => ?_
  refine CW.region [0, 1] rfl ?_
  refine LW.hv rfl rfl rfl rfl (Hv.boxS hS rfl rfl) fun v w1 ⟨b1, hv, hb1, hS⟩ => ?_
  subst hv
  refine LW.ex rfl rfl rfl rfl (Ex.assign rfl) hS.rd ?_
  refine LW.nil fun aa ha => hK1 _ _ _ ?_ aa ha
  refine CW.seq fun K2 hK2 => ?_
  have hsz0 := hS.below.size
  refine CW.region [0, 1, 2] rfl ?_
  refine LW.ex rfl rfl rfl rfl (Ex.load2c ti46 rfl rfl (by first | exact obT rfl | exact Rd.imm ‹_› | exact slT ‹_›) (by first | exact obT rfl | exact Rd.imm ‹_› | exact slT ‹_›)) hS.rd ?_
  refine LW.hv rfl rfl rfl rfl (Hv.callV hS rfl rfl rfl cb47 (out_n g hg N hN _ _ μ _ hS.imm hgl)) fun v w9 ⟨μ9, hv9, hm9, hS⟩ => ?_
  obtain ⟨a5, c5, hv, hol⟩ := hv9
  subst hv
  have hgl := hgl.mono hm9
  refine LW.ex rfl rfl rfl rfl (Ex.assign rfl) hS.rd ?_
  refine LW.nil fun aa ha => hK2 _ _ _ ?_ aa ha
  refine CW.seq fun K3 hK3 => ?_
  refine CW.region [0, 1, 2, 3] rfl ?_
  refine LW.ex rfl rfl rfl rfl (Ex.fieldO 0 Try.underlying46 rfl rfl ti3 rfl) hS.rd ?_
  refine LW.ex rfl rfl rfl rfl (Ex.load1 ti3 rfl rfl (by first | exact obT rfl | exact Rd.imm ‹_› | exact slT ‹_›)) hS.rd ?_
  refine LW.hv rfl rfl rfl rfl (Hv.makeSlice Try.underlying31 ti3 hS rfl rfl rfl rfl (by omega) (by unfold maxLen; omega)) fun v w12 ⟨b12, hv, hb12, hS⟩ => ?_
  subst hv
  rw [made_ints] at hS
  refine LW.ex rfl rfl rfl rfl (Ex.assign rfl) hS.rd ?_
  refine LW.nil fun aa ha => hK3 _ _ _ ?_ aa ha
  refine CW.seq fun K4 hK4 => ?_
  have hov3 : 0 + (N - 1) * 1 < ((List.replicate N (0 : Int)).map fun x => Value.int .i64 x).length := by simp; omega
  refine CW.region [0, 1, 2, 3, 4, 5] rfl ?_
  refine LW.ex rfl rfl rfl rfl (Ex.move rfl) hS.rd ?_
  refine LW.ex rfl rfl rfl rfl (Ex.fieldO 0 Try.underlying46 rfl rfl ti3 rfl) hS.rd ?_
  refine LW.ex rfl rfl rfl rfl (Ex.load1 ti3 rfl rfl (by first | exact obT rfl | exact Rd.imm ‹_› | exact slT ‹_›)) hS.rd ?_
  refine LW.ex rfl rfl rfl rfl (Ex.sub (r := ((N - 1 : Nat) : Int)) rfl rfl (by rw [w64 (by omega) (by omega)]; omega)) hS.rd ?_
  refine LW.ex rfl rfl rfl rfl (Ex.indexSl Try.underlying31 ti3 rfl rfl rfl (by omega)) hS.rd ?_
  refine LW.hu rfl rfl rfl (Hv.storeSl (k := 0) ti3 hS rfl rfl rfl rfl (by first | assumption | (simp; done) | omega | exact Nat.zero_lt_succ _)) fun _ w_5 hS => ?_
  dsimp only [List.set] at hS
  rw [show ((List.replicate N (0 : Int)).map fun x => Value.int .i64 x).set (0 + (N - 1) * 1) (Value.int .i64 1) = ((List.replicate N (0 : Int)).set (N - 1) 1).map fun x => Value.int .i64 x by rw [List.map_set, Nat.zero_add, Nat.mul_one]] at hS
  refine LW.nil fun aa ha => hK4 _ _ _ ?_ aa ha
  refine CW.seq fun K5 hK5 => ?_
  refine CW.seq fun K6 hK6 => ?_
  refine CW.region [0, 1, 2, 3] rfl ?_
  refine LW.ex rfl rfl rfl rfl (Ex.fieldO 0 Try.underlying46 rfl rfl ti3 rfl) hS.rd ?_
  refine LW.ex rfl rfl rfl rfl (Ex.load1 ti3 rfl rfl (by first | exact obT rfl | exact Rd.imm ‹_› | exact slT ‹_›)) hS.rd ?_
  refine LW.ex rfl rfl rfl rfl (Ex.sub (r := ((N - 1 : Nat) : Int) - 1) rfl rfl (by rw [w64 (by omega) (by omega)]; omega)) hS.rd ?_
  refine LW.ex rfl rfl rfl rfl (Ex.assign rfl) hS.rd ?_
  refine LW.nil fun aa ha => hK6 _ _ _ ?_ aa ha
  refine CW.block ?_
  refine CW.loop (fun qq frm wl5 => ∃ (k : Nat) (h : List Int), k + 1 ≤ N ∧ h.length = N ∧ qq = k ∧ frm = [(1, .pointer (some ⟨b1, 0, none⟩)), (3, .slice a5 (outL g).length c5), (4, .slice (some ⟨b12, 0, none⟩) N N), (5, .int .i64 ((k : Int) - 1))] ∧ St w wl5 μ9 [Own.sl (some ⟨b12, 0, none⟩) N N 3 1 (h.map fun x => Value.int .i64 x), Own.obj b1 [.int .i64 N, .slice a4 g.Links.length c4] 46] ∧ (NumFrom g N k h)) _ ⟨N - 1, (List.replicate N 0).set (N - 1) 1, (by first | omega | (simp; done) | (simp; omega)), (by first | omega | (simp; done) | (simp; omega)), rfl, rfl, hS, num_init g (by omega)⟩ ⟨rfl, rfl, rfl, rfl, trivial⟩ ?_
  clear hS
  rintro qq frm wl5 ⟨k, h, hk, hhl, hq, rfl, hS, hR⟩
  refine CW.seq fun K7 hK7 => ?_
  refine CW.seq fun K8 hK8 => ?_
  refine CW.region [0, 1] rfl ?_
  refine LW.ex rfl rfl rfl rfl (Ex.move rfl) hS.rd ?_
  refine LW.ex rfl rfl rfl rfl (Ex.geq rfl rfl rfl) hS.rd ?_
  refine LW.splitB (fun h5_1 => ?_) (fun h5_1 => ?_)
  · have h5_1 := of_decide_eq_true h5_1
    refine LW.nil fun aa ha => hK8 _ _ _ ?_ aa ha
    refine CW.yes rfl ?_
    refine CW.skip fun aa ha => hK7 _ _ _ ?_ aa ha
    refine CW.seq fun K9 hK9 => ?_
    refine CW.block ?_
    refine CW.seq fun K10 hK10 => ?_
    obtain ⟨j, rfl⟩ : ∃ j, k = j + 1 := ⟨k - 1, by omega⟩
    rw [show (((j + 1 : Nat) : Int) - 1) = (j : Int) by omega]
    have hSl := hS
    have hjo : j < (outL g).length := by omega
    obtain ⟨bo, oo, rfl, ⟨ad9, c9, kq, hs9⟩⟩ := hol.at hjo
    have hS := hSl
    obtain ⟨O, hO⟩ : ∃ O, O = outTo g g.Links.length j := ⟨_, rfl⟩
    have hOl : O.length ≤ 20000 := by rw [hO]; exact Nat.le_trans (outTo_len _ _ _) nl
    have hel : (outL g)[j] = O.map fun (k : Nat) => (k : Int) := by simp only [outL, List.getElem_map, List.getElem_range, hO]
    rw [hel] at kq hs9
    rw [List.length_map] at kq
    refine CW.region [0, 1, 2, 3, 4, 5] rfl ?_
    refine LW.ex rfl rfl rfl rfl (Ex.move rfl) hS.rd ?_
    refine LW.ex rfl rfl rfl rfl (Ex.move rfl) hS.rd ?_
    refine LW.ex rfl rfl rfl rfl (Ex.indexSl Try.underlying106 ti31 rfl rfl rfl (by omega)) hS.rd ?_
    refine LW.ex rfl rfl rfl rfl (Ex.load1 ti31 rfl rfl (by first | exact obT rfl | exact Rd.imm ‹_› | exact slT ‹_›)) hS.rd ?_
    refine LW.ex rfl rfl rfl rfl (Ex.lenSl rfl Try.underlying31 rfl) hS.rd ?_
    refine LW.ex rfl rfl rfl rfl (Ex.move rfl) hS.rd ?_
    refine LW.nil fun aa ha => hK10 _ _ _ ?_ aa ha
    refine CW.block ?_
    refine CW.loop (fun qq frm wl8 => ∃ (t : Nat) (h2 : List Int), t ≤ O.length ∧ h2.length = N ∧ qq = O.length - t ∧ frm = [(1, .pointer (some ⟨b1, 0, none⟩)), (3, .slice (some ⟨bo, oo, none⟩) (outL g).length c5), (4, .slice (some ⟨b12, 0, none⟩) N N), (5, .int .i64 j), (28, .slice ad9 O.length c9), (29, .int .i64 O.length), (30, .int .i64 t)] ∧ St w wl8 μ9 [Own.sl (some ⟨b12, 0, none⟩) N N 3 1 (h2.map fun x => Value.int .i64 x), Own.obj b1 [.int .i64 N, .slice a4 g.Links.length c4] 46] ∧ (NumMid g N j h2) ∧ (h2[j]? = some (foldN g h2 (O.take t)))) _ ⟨0, h, (by first | omega | (simp; done) | (simp; omega)), (by first | omega | (simp; done) | (simp; omega)), rfl, rfl, hS, num_mid hR, hR.2.2.2 j (by omega) (by omega)⟩ ⟨rfl, rfl, rfl, rfl, rfl, rfl, rfl, trivial⟩ ?_
    clear hS
    rintro qq frm wl8 ⟨t, h2, ht, hh2, hq, rfl, hS, hR2, hf⟩
    refine CW.seq fun K11 hK11 => ?_
    refine CW.region [0] rfl ?_
    refine LW.ex rfl rfl rfl rfl (Ex.lss rfl rfl rfl) hS.rd ?_
    refine LW.splitB (fun h8_0 => ?_) (fun h8_0 => ?_)
    · have h8_0 := of_decide_eq_true h8_0
      refine LW.nil fun aa ha => hK11 _ _ _ ?_ aa ha
      refine CW.seq fun K12 hK12 => ?_
      refine CW.yes rfl ?_
      refine CW.skip fun aa ha => hK12 _ _ _ ?_ aa ha
      refine CW.seq fun K13 hK13 => ?_
      refine CW.block ?_
      refine CW.seq fun K14 hK14 => ?_
      have hSl := hS
      have ht2 : t < O.length := by omega
      obtain ⟨be, oe, rfl, ke⟩ := hs9.at (i := t) (by rw [List.length_map]; exact ht2)
      obtain ⟨i, hi⟩ : ∃ i, i = O[t] := ⟨_, rfl⟩
      rw [show (O.map fun (k : Nat) => (k : Int))[t]'(by rw [List.length_map]; exact ht2) = (i : Int) by rw [List.getElem_map, hi]] at ke
      have him : i ∈ outTo g g.Links.length j := by rw [hi, ← hO]; exact List.getElem_mem ht2
      obtain ⟨hi2, hi3⟩ := outTo_mem him
      obtain ⟨bl, ol, rfl, k0, k1, k2, k3⟩ := hgl.at hi2
      have hS := hSl
      have hkk := hlk _ (List.getElem_mem hi2)
      have hto := hg.to him
      have hsr := foldN_take (g := g) (h := h2) ht2
      rw [← hi] at hsr
      unfold stepN at hsr
      rw [lkAt_nat hi2] at hsr hto
      obtain ⟨z, hz⟩ : ∃ z, z = g.Links[i] := ⟨_, rfl⟩
      rw [← hz] at k0 k1 k2 k3 hkk hsr hto
      obtain ⟨v, hv⟩ : ∃ v : Nat, z.To = v := ⟨z.To.toNat, by omega⟩
      rw [hv] at k1 hsr hto
      rw [Int.toNat_natCast] at hsr hto
      have hvl : v < h2.length := by omega
      obtain ⟨r, hr⟩ : ∃ r, h2[v]? = some r := ⟨h2[v], List.getElem?_eq_getElem hvl⟩
      rw [hr, Option.getD_some] at hsr
      have g0 : (h2.map fun x => Value.int .i64 x)[v]? = some (.int .i64 r) := by rw [List.getElem?_map, hr]; rfl
      obtain ⟨a, ha0⟩ : ∃ a, a = foldN g h2 (O.take t) := ⟨_, rfl⟩
      rw [← ha0] at hsr hf
      have g1 : (h2.map fun x => Value.int .i64 x)[j]? = some (.int .i64 a) := by rw [List.getElem?_map, hf]; rfl
      have hr0 := hR2.1 r (List.mem_of_getElem? hr)
      have ha1 := hR2.1 a (List.mem_of_getElem? hf)
      have hov2 : 0 + j * 1 < (h2.map fun x => Value.int .i64 x).length := by rw [List.length_map]; omega
      refine CW.region [0, 1, 2] rfl ?_
      refine LW.ex rfl rfl rfl rfl (Ex.indexSl Try.underlying31 ti3 rfl rfl rfl (by omega)) hS.rd ?_
      refine LW.ex rfl rfl rfl rfl (Ex.load1 ti3 rfl rfl (by first | exact obT rfl | exact Rd.imm ‹_› | exact slT ‹_›)) hS.rd ?_
      refine LW.ex rfl rfl rfl rfl (Ex.assign rfl) hS.rd ?_
      refine LW.nil fun aa ha => hK14 _ _ _ ?_ aa ha
      have hS := hS.drew
      refine CW.draw 18 (.ex 0 <| .ex 1 <| .ex 2 <| .ex 3 <| .ex 4 <| .ex 5 <| .ex 6 <| .ex 7 <| .ex 8 <| .ex 9 <| .ex 10 <| .ex 11 <| .ex 12 <| .ex 13 <| .ex 14 <| .ex 15 <| .ex 16 <| .ex 17 <| .done) [18] (Rd _ _) mixed (by kernel_rfl) rfl rfl hS.rd ?_
      refine PW.ex rfl rfl rfl rfl (Ex.move rfl) ?_
      refine PW.ex rfl rfl rfl rfl (Ex.move rfl) ?_
      refine PW.ex rfl rfl rfl rfl (Ex.move rfl) ?_
      refine PW.ex rfl rfl rfl rfl (Ex.move rfl) ?_
      refine PW.ex rfl rfl rfl rfl (Ex.indexSl Try.underlying31 ti3 rfl rfl rfl (by omega)) ?_
      refine PW.ex rfl rfl rfl rfl (Ex.load1 ti3 rfl rfl (slT (v := .int .i64 a) (by rw [Nat.zero_add, Nat.mul_one]; exact g1))) ?_
      refine PW.ex rfl rfl rfl rfl (Ex.move rfl) ?_
      refine PW.ex rfl rfl rfl rfl (Ex.fieldO 1 Try.underlying46 rfl rfl ti44 rfl) ?_
      refine PW.ex rfl rfl rfl rfl (Ex.load1 ti44 rfl rfl (by first | exact obT rfl | exact Rd.imm ‹_› | exact slT ‹_›)) ?_
      refine PW.ex rfl rfl rfl rfl (Ex.move rfl) ?_
      refine PW.ex rfl rfl rfl rfl (Ex.indexSl Try.underlying44 ti66 rfl rfl rfl (by omega)) ?_
      refine PW.ex rfl rfl rfl rfl (Ex.fieldO 1 Try.underlying66 rfl rfl ti3 rfl) ?_
      refine PW.ex rfl rfl rfl rfl (Ex.load1 ti3 rfl rfl (by first | exact obT rfl | exact Rd.imm ‹_› | exact slT ‹_›)) ?_
      refine PW.ex rfl rfl rfl rfl (Ex.indexSl Try.underlying31 ti3 rfl rfl rfl (by omega)) ?_
      refine PW.ex rfl rfl rfl rfl (Ex.load1 ti3 rfl rfl (slT (v := .int .i64 r) (by rw [Nat.zero_add, Nat.mul_one]; exact g0))) ?_
      refine PW.ex rfl rfl rfl rfl (Ex.add rfl rfl (w64 (by omega) (by omega))) ?_
      refine PW.ex rfl rfl rfl rfl (Ex.min2 rfl rfl rfl) ?_
      refine PW.ex rfl rfl rfl rfl (Ex.indexSl Try.underlying31 ti3 rfl rfl rfl (by omega)) ?_
      refine PW.nil ?_
      refine LW.hu rfl rfl rfl (Hv.storeSl (k := 0) ti3 hS rfl rfl rfl rfl (by first | assumption | (simp; done) | omega | exact Nat.zero_lt_succ _)) fun _ w_18 hS => ?_
      dsimp only [List.set] at hS
      rw [show (h2.map fun x => Value.int .i64 x).set (0 + j * 1) (Value.int .i64 (min (a + r) 1000000000)) = (h2.set j (min (a + r) 1000000000)).map fun x => Value.int .i64 x by rw [List.map_set, Nat.zero_add, Nat.mul_one]] at hS
      refine LW.nil fun aa ha => hK13 _ _ _ ?_ aa ha
      refine CW.region [0, 1] rfl ?_
      refine LW.ex rfl rfl rfl rfl (Ex.add rfl rfl (by first | exact inc64 (by omega) | exact addN (by omega) | exact w64 (by omega) (by omega))) hS.rd ?_
      refine LW.ex rfl rfl rfl rfl (Ex.move rfl) hS.rd ?_
      refine LW.nil fun aa ha => ?_
      refine ⟨_, _, ?m8, ⟨t + 1, h2.set j (min (a + r) 1000000000), (by first | omega | (simp; done) | (simp; omega)), (by first | omega | (simp; done) | (simp; omega)), rfl, rfl, hS, num_set hg (by omega) hR2 (by omega), by rw [List.getElem?_set_self (by omega), foldN_set hg (fun i hi => by rw [hO] at hi; exact List.mem_of_mem_take hi), hsr]⟩, ha.sub ⟨rfl, rfl, rfl, rfl, rfl, rfl, rfl, trivial⟩⟩
      case m8 => omega
    · have h8_0 := of_decide_eq_false h8_0
      refine LW.nil fun aa ha => hK11 _ _ _ ?_ aa ha
      refine CW.seq fun K15 hK15 => ?_
      refine CW.no rfl ?_
      refine CW.exit fun aa ha => hK9 _ _ _ ?_ aa ha
      refine CW.region [0, 1, 2] rfl ?_
      refine LW.ex rfl rfl rfl rfl (Ex.move rfl) hS.rd ?_
      refine LW.ex rfl rfl rfl rfl (Ex.sub rfl rfl (by first | exact dec64 (by omega) (by omega) | exact subN (by omega) (by omega) | exact w64 (by omega) (by omega))) hS.rd ?_
      refine LW.ex rfl rfl rfl rfl (Ex.assign rfl) hS.rd ?_
      refine LW.nil fun aa ha => ?_
      refine ⟨_, _, ?m5, ⟨j, h2, (by first | omega | (simp; done) | (simp; omega)), (by first | omega | (simp; done) | (simp; omega)), rfl, rfl, hS, num_step hR2 (by rw [hf, List.take_of_length_le (by omega), hO])⟩, ha.sub ⟨rfl, rfl, rfl, rfl, trivial⟩⟩
      case m5 => omega
  · have h5_1 := of_decide_eq_false h5_1
    refine LW.nil fun aa ha => hK8 _ _ _ ?_ aa ha
    refine CW.no rfl ?_
    refine CW.exit fun aa ha => hK5 _ _ _ ?_ aa ha
    refine CW.seq fun K16 hK16 => ?_
    obtain rfl : k = 0 := by omega
    obtain ⟨z, hz⟩ : ∃ z, h[0]? = some z := ⟨h[0]'(by omega), List.getElem?_eq_getElem (by omega)⟩
    have g0 : (h.map fun x => Value.int .i64 x)[0]? = some (.int .i64 z) := by rw [List.getElem?_map, hz]; rfl
    refine CW.region [0, 1, 2, 3] rfl ?_
    refine LW.ex rfl rfl rfl rfl (Ex.move rfl) hS.rd ?_
    refine LW.ex rfl rfl rfl rfl (Ex.indexSl (j := 0) Try.underlying31 ti3 rfl rfl rfl (by omega)) hS.rd ?_
    refine LW.ex rfl rfl rfl rfl (Ex.load1 ti3 rfl rfl (slT (v := .int .i64 z) (by rw [Nat.zero_add, Nat.mul_one]; exact g0))) hS.rd ?_
    refine LW.ex rfl rfl rfl rfl (Ex.assign rfl) hS.rd ?_
    refine LW.nil fun aa ha => hK16 _ _ _ ?_ aa ha
    refine CW.ret fun aa ha => ?_
    refine ret_one ha Try.results27 rfl ?_
    exact ⟨_, μ9, rfl, hS.below, hm9.mono hsz0, hS.imm, h, z, by rw [hhl, hNN], by rw [hNN]; exact hR, hz, rfl⟩
end Go.Proofs.Ytgnpjhellmfhoaa

/-
  Context: heaps, in plain Lean.
-/
namespace Go.Proofs.Ytgnpjhellmfhoaa

def hp (n : Nat) (K : Nat → Int) : Prop := ∀ j, 0 < j → j < n → K ((j - 1) / 2) ≤ K j
/-- A heap but for what lies at a place and its parent. -/
def hpU (n : Nat) (K : Nat → Int) (i : Nat) : Prop := (∀ j, 0 < j → j < n → j ≠ i → K ((j - 1) / 2) ≤ K j) ∧ ∀ j, 0 < j → j < n → (j - 1) / 2 = i → 0 < i → K ((i - 1) / 2) ≤ K j
/-- A heap but for what lies at a place and its children. -/
def hpD (n : Nat) (K : Nat → Int) (i : Nat) : Prop := (∀ j, 0 < j → j < n → (j - 1) / 2 ≠ i → K ((j - 1) / 2) ≤ K j) ∧ ∀ j, 0 < j → j < n → (j - 1) / 2 = i → 0 < i → K ((i - 1) / 2) ≤ K j
def swp (K : Nat → Int) (i j : Nat) : Nat → Int := fun q => if q = i then K j else if q = j then K i else K q
theorem swp_l (K : Nat → Int) (i j : Nat) : swp K i j i = K j := by unfold swp; rw [if_pos rfl]
theorem swp_r (K : Nat → Int) (i j : Nat) : swp K i j j = K i := by
  unfold swp
  by_cases h : j = i
  · rw [if_pos h, h]
  · rw [if_neg h, if_pos rfl]
theorem swp_o (K : Nat → Int) {i j q : Nat} (h1 : q ≠ i) (h2 : q ≠ j) : swp K i j q = K q := by unfold swp; rw [if_neg h1, if_neg h2]
theorem hpU_start {n : Nat} {K : Nat → Int} (h : hp n K) : hpU (n + 1) K n :=
  ⟨fun j h1 h2 h3 => h j h1 (by omega), fun j h1 h2 h3 => by omega⟩
theorem hpU_end {n : Nat} {K : Nat → Int} {i : Nat} (h : hpU n K i) (h1 : i = 0 ∨ K ((i - 1) / 2) ≤ K i) : hp n K := fun j h2 h3 => by
  by_cases e : j = i
  · subst e
    rcases h1 with h1 | h1
    · omega
    · exact h1
  · exact h.1 j h2 h3 e
theorem hpU_step {n : Nat} {K : Nat → Int} {i u : Nat} (hu : u = (i - 1) / 2) (hi : 0 < i) (hn : i < n) (h : hpU n K i) (hk : K i ≤ K u) : hpU n (swp K i u) u := by
  obtain ⟨g1, g2⟩ := h
  have hui : u ≠ i := by omega
  refine ⟨fun j h1 h2 h3 => ?_, fun j h1 h2 h3 h4 => ?_⟩
  · by_cases e : j = i
    · subst e
      rw [← hu, swp_r, swp_l]; exact hk
    · rw [swp_o K e h3]
      by_cases e2 : (j - 1) / 2 = i
      · rw [e2, swp_l]
        have := g2 j h1 h2 e2 hi
        rw [← hu] at this; exact this
      · by_cases e3 : (j - 1) / 2 = u
        · rw [e3, swp_r]
          have := g1 j h1 h2 e
          rw [e3] at this; omega
        · rw [swp_o K e2 e3]; exact g1 j h1 h2 e
  · have hp1 : (u - 1) / 2 ≠ i := by omega
    have hp2 : (u - 1) / 2 ≠ u := by omega
    rw [swp_o K hp1 hp2]
    have a1 := g1 u h4 (by omega) hui
    by_cases e : j = i
    · subst e
      rw [swp_l]; exact a1
    · rw [swp_o K e (by omega)]
      have := g1 j h1 h2 e
      rw [h3] at this; omega
theorem hpD_end {n : Nat} {K : Nat → Int} {i : Nat} (h : hpD n K i) (h1 : ∀ j, 0 < j → j < n → (j - 1) / 2 = i → K i ≤ K j) : hp n K := fun j h2 h3 => by
  by_cases e : (j - 1) / 2 = i
  · rw [e]; exact h1 j h2 h3 e
  · exact h.1 j h2 h3 e
theorem hpD_step {n : Nat} {K : Nat → Int} {i k : Nat} (hki : (k - 1) / 2 = i) (hk0 : 0 < k) (hn : k < n) (h : hpD n K i) (hk : K k ≤ K i) (hm : ∀ j, 0 < j → j < n → (j - 1) / 2 = i → K k ≤ K j) : hpD n (swp K i k) k := by
  obtain ⟨g1, g2⟩ := h
  have hui : k ≠ i := by omega
  refine ⟨fun j h1 h2 h3 => ?_, fun j h1 h2 h3 h4 => ?_⟩
  · by_cases e : (j - 1) / 2 = i
    · rw [e, swp_l]
      by_cases e2 : j = k
      · subst e2; rw [swp_r]; exact hk
      · rw [swp_o K (by omega) e2]; exact hm j h1 h2 e
    · rw [swp_o K e h3]
      by_cases e2 : j = i
      · subst e2
        rw [swp_l]
        exact g2 k hk0 hn hki h1
      · rw [swp_o K e2 (fun e3 => e (by rw [e3]; exact hki))]
        exact g1 j h1 h2 e
  · rw [hki, swp_l, swp_o K (by omega) (by omega)]
    have := g1 j h1 h2 (by omega)
    rw [h3] at this; exact this
theorem hp_min {n : Nat} {K : Nat → Int} (h : hp n K) : ∀ m j, j ≤ m → j < n → K 0 ≤ K j
  | 0, j, h1, h2 => by
    obtain rfl : j = 0 := by omega
    exact Int.le_refl _
  | m + 1, j, h1, h2 => by
    by_cases e : j = 0
    · subst e; exact Int.le_refl _
    · have a1 := h j (by omega) h2
      have a2 := hp_min h m ((j - 1) / 2) (by omega) (by omega)
      omega
theorem hp_congr {n : Nat} {K K' : Nat → Int} (h : ∀ j, j < n → K' j = K j) (hh : hp n K) : hp n K' := fun j h1 h2 => by
  rw [h j h2, h _ (by omega)]; exact hh j h1 h2
theorem hpU_congr {n : Nat} {K K' : Nat → Int} {i : Nat} (hi : i < n) (h : ∀ j, j < n → K' j = K j) (hh : hpU n K i) : hpU n K' i :=
  ⟨fun j h1 h2 h3 => by rw [h j h2, h _ (by omega)]; exact hh.1 j h1 h2 h3, fun j h1 h2 h3 h4 => by rw [h j h2, h _ (by omega)]; exact hh.2 j h1 h2 h3 h4⟩
theorem hpD_congr {n : Nat} {K K' : Nat → Int} {i : Nat} (hi : i < n) (h : ∀ j, j < n → K' j = K j) (hh : hpD n K i) : hpD n K' i :=
  ⟨fun j h1 h2 h3 => by rw [h j h2, h _ (by omega)]; exact hh.1 j h1 h2 h3, fun j h1 h2 h3 h4 => by rw [h j h2, h _ (by omega)]; exact hh.2 j h1 h2 h3 h4⟩
end Go.Proofs.Ytgnpjhellmfhoaa

/-
  Context: package best: parts of ways and how they are compared.
-/
namespace Go.Proofs.Ytgnpjhellmfhoaa
open Go.RowKit Sy

/-- A part of a way, with the place of its links in memory. -/
structure PartV where
  ad : Option Addr
  cp : Nat
  ls : List Int
  pos : Int
  cost : Int
  whole : Int
instance : Inhabited PartV := ⟨⟨none, 0, [], 0, 0, 0⟩⟩
def partL (x : PartV) : List Value := [.slice x.ad x.ls.length x.cp, .int .i64 x.pos, .int .i64 x.cost, .int .i64 x.whole]
abbrev partV (x : PartV) : Value := .agg #[.slice x.ad x.ls.length x.cp, .int .i64 x.pos, .int .i64 x.cost, .int .i64 x.whole]
theorem partL_len (x : PartV) : (partL x).length = 4 := rfl
def Lain (μ : Mem) (x : PartV) : Prop := Sl μ x.ad x.cp x.ls
def lessP (x y : PartV) : Bool := if x.whole ≠ y.whole then decide (x.whole < y.whole) else decide (cmpL x.ls y.ls < 0)
theorem lessP_yes {x y : PartV} (h : lessP x y = true) : x.whole ≤ y.whole := by
  unfold lessP at h
  split at h
  · have := of_decide_eq_true h; omega
  · omega
theorem lessP_no {x y : PartV} (h : lessP x y = false) : y.whole ≤ x.whole := by
  unfold lessP at h
  split at h
  · have := of_decide_eq_false h; omega
  · omega
set_option maxRecDepth 100000 in
theorem lessP_c (x y : PartV) (μ : Mem) (hx : Lain μ x) (hy : Lain μ y) (w : World) (hμ : Imm μ w) :
    Calls Try.prog 49 #[partV x, partV y] w (RetS w (.bool (lessP x y))) := by
  have hS := St.start w μ hμ
  refine calls_start 21 [partV x, partV y] Try.func49 rfl Try.ntmps49 rfl rfl ?_
  refine CW.seq fun K1 hK1 => ?_
  refine CW.region [0, 1, 2] rfl ?_
  refine LW.hv rfl rfl rfl rfl (Hv.boxS hS rfl rfl) fun v w2 ⟨b2, hv, hb2, hS⟩ => ?_
  subst hv
  refine LW.hv rfl rfl rfl rfl (Hv.boxS hS rfl rfl) fun v w3 ⟨b3, hv, hb3, hS⟩ => ?_
  subst hv
  refine LW.ex rfl rfl rfl rfl (Ex.assign rfl) hS.rd ?_
  refine LW.nil fun aa ha => hK1 _ _ _ ?_ aa ha
  refine CW.seq fun K2 hK2 => ?_
  refine CW.seq fun K3 hK3 => ?_
  refine CW.region [0, 1, 2, 3, 4] rfl ?_
  refine LW.ex rfl rfl rfl rfl (Ex.fieldO 3 Try.underlying110 rfl rfl ti3 rfl) hS.rd ?_
  refine LW.ex rfl rfl rfl rfl (Ex.load1 ti3 rfl rfl (by first | exact obT rfl | exact Rd.imm ‹_› | exact slT ‹_›)) hS.rd ?_
  refine LW.ex rfl rfl rfl rfl (Ex.fieldO 3 Try.underlying110 rfl rfl ti3 rfl) hS.rd ?_
  refine LW.ex rfl rfl rfl rfl (Ex.load1 ti3 rfl rfl (by first | exact obT rfl | exact Rd.imm ‹_› | exact slT ‹_›)) hS.rd ?_
  refine LW.ex rfl rfl rfl rfl (Ex.neq rfl rfl rfl) hS.rd ?_
  refine LW.splitB (fun h1_4 => ?_) (fun h1_4 => ?_)
  · have h1_4 := of_decide_eq_true h1_4
    refine LW.nil fun aa ha => hK3 _ _ _ ?_ aa ha
    refine CW.yes rfl ?_
    refine CW.seq fun K4 hK4 => ?_
    refine CW.region [0, 1, 2, 3, 4, 5] rfl ?_
    refine LW.ex rfl rfl rfl rfl (Ex.fieldO 3 Try.underlying110 rfl rfl ti3 rfl) hS.rd ?_
    refine LW.ex rfl rfl rfl rfl (Ex.load1 ti3 rfl rfl (by first | exact obT rfl | exact Rd.imm ‹_› | exact slT ‹_›)) hS.rd ?_
    refine LW.ex rfl rfl rfl rfl (Ex.fieldO 3 Try.underlying110 rfl rfl ti3 rfl) hS.rd ?_
    refine LW.ex rfl rfl rfl rfl (Ex.load1 ti3 rfl rfl (by first | exact obT rfl | exact Rd.imm ‹_› | exact slT ‹_›)) hS.rd ?_
    refine LW.ex rfl rfl rfl rfl (Ex.lss rfl rfl (by first | exact decide_eq_true (by omega) | exact decide_eq_false (by omega) | rfl)) hS.rd ?_
    refine LW.ex rfl rfl rfl rfl (Ex.assign rfl) hS.rd ?_
    refine LW.nil fun aa ha => hK4 _ _ _ ?_ aa ha
    refine CW.ret fun aa ha => ?_
    refine ret_one ha Try.results49 rfl ?_
    have e : lessP x y = decide (x.whole < y.whole) := by unfold lessP; rw [if_pos (by omega)]
    rw [e]; exact hS.retS
  · have h1_4 := of_decide_eq_false h1_4
    refine LW.nil fun aa ha => hK3 _ _ _ ?_ aa ha
    refine CW.no rfl ?_
    refine CW.skip fun aa ha => hK2 _ _ _ ?_ aa ha
    refine CW.seq fun K5 hK5 => ?_
    refine CW.region [0, 1, 2, 3, 4, 5, 6] rfl ?_
    refine LW.ex rfl rfl rfl rfl (Ex.fieldO 0 Try.underlying110 rfl rfl ti31 rfl) hS.rd ?_
    refine LW.ex rfl rfl rfl rfl (Ex.load1 ti31 rfl rfl (by first | exact obT rfl | exact Rd.imm ‹_› | exact slT ‹_›)) hS.rd ?_
    refine LW.ex rfl rfl rfl rfl (Ex.fieldO 0 Try.underlying110 rfl rfl ti31 rfl) hS.rd ?_
    refine LW.ex rfl rfl rfl rfl (Ex.load1 ti31 rfl rfl (by first | exact obT rfl | exact Rd.imm ‹_› | exact slT ‹_›)) hS.rd ?_
    refine LW.hv rfl rfl rfl rfl (Hv.callS hS rfl rfl rfl cb50 (compare_c x.ls y.ls _ _ _ _ μ _ hS.imm hx hy)) fun v w19 ⟨hv, hS⟩ => ?_
    subst hv
    refine LW.ex rfl rfl rfl rfl (Ex.lss rfl rfl (by first | exact decide_eq_true (by omega) | exact decide_eq_false (by omega) | rfl)) hS.rd ?_
    refine LW.ex rfl rfl rfl rfl (Ex.assign rfl) hS.rd ?_
    refine LW.nil fun aa ha => hK5 _ _ _ ?_ aa ha
    refine CW.ret fun aa ha => ?_
    refine ret_one ha Try.results49 rfl ?_
    have e : lessP x y = decide (cmpL x.ls y.ls < 0) := by unfold lessP; rw [if_neg (by omega)]
    rw [e]; exact hS.retS
end Go.Proofs.Ytgnpjhellmfhoaa

/-
  Context: package best: a part is put on the heap.
-/
namespace Go.Proofs.Ytgnpjhellmfhoaa
open Go.RowKit Sy

theorem partAt {qs : List PartV} {i : Nat} {y : PartV} (h : qs[i]? = some y) : (qs.flatMap partL)[0 + i * 4]? = some (.slice y.ad y.ls.length y.cp) ∧ (qs.flatMap partL)[0 + i * 4 + 1]? = some (.int .i64 y.pos) ∧ (qs.flatMap partL)[0 + i * 4 + 2]? = some (.int .i64 y.cost) ∧ (qs.flatMap partL)[0 + i * 4 + 3]? = some (.int .i64 y.whole) := by
  obtain ⟨hi, rfl⟩ := List.getElem?_eq_some_iff.1 h
  refine ⟨?_, ?_, ?_, ?_⟩
  · rw [Nat.zero_add]; exact flat2 partL_len qs i 0 hi (by omega) rfl
  · rw [Nat.zero_add]; exact flat2 partL_len qs i 1 hi (by omega) rfl
  · rw [Nat.zero_add]; exact flat2 partL_len qs i 2 hi (by omega) rfl
  · rw [Nat.zero_add]; exact flat2 partL_len qs i 3 hi (by omega) rfl
theorem rd_nil {μ : Mem} {L : List Own} {w : World} (h : Rd μ L w) : Rd μ [] w := ⟨h.1, [], rfl⟩
theorem partOne (y : PartV) : ∀ v ∈ partL y, v.oneCell' = true := by simp [partL, Value.oneCell']
def keyW (ps : List PartV) (j : Nat) : Int := (ps[j]?.getD default).whole
theorem keyW_swap {qs : List PartV} {i u : Nat} {y z : PartV} (hi : qs[i]? = some y) (hu : qs[u]? = some z) (hiu : i ≠ u) : ∀ j, keyW ((qs.set i z).set u y) j = swp (keyW qs) i u j := fun j => by
  obtain ⟨hi1, _⟩ := List.getElem?_eq_some_iff.1 hi
  obtain ⟨hu1, _⟩ := List.getElem?_eq_some_iff.1 hu
  by_cases e1 : j = i
  · subst e1
    rw [swp_l]
    unfold keyW
    rw [List.getElem?_set_ne (by omega), List.getElem?_set_self hi1, hu]
  · by_cases e2 : j = u
    · subst e2
      rw [swp_r]
      unfold keyW
      rw [List.getElem?_set_self (by rw [List.length_set]; exact hu1), hi]
    · rw [swp_o _ e1 e2]
      unfold keyW
      rw [List.getElem?_set_ne (by omega), List.getElem?_set_ne (by omega)]
theorem swap_perm {qs : List PartV} {i u : Nat} {y z : PartV} (hi : qs[i]? = some y) (hu : qs[u]? = some z) : ((qs.set i z).set u y).Perm qs := by
  obtain ⟨hi1, rfl⟩ := List.getElem?_eq_some_iff.1 hi
  obtain ⟨hu1, rfl⟩ := List.getElem?_eq_some_iff.1 hu
  exact List.set_set_perm hi1 hu1
theorem swap_mem {qs : List PartV} {i u : Nat} {y z : PartV} {μ : Mem} (hi : qs[i]? = some y) (hu : qs[u]? = some z) (h : ∀ x ∈ qs, Lain μ x) : ∀ x ∈ (qs.set i z).set u y, Lain μ x := fun x hx => h x ((swap_perm hi hu).mem_iff.1 hx)
theorem key_at {qs : List PartV} {i : Nat} {y : PartV} (h : qs[i]? = some y) : keyW qs i = y.whole := by unfold keyW; rw [h]; rfl
theorem key_push {ps : List PartV} (x : PartV) : ∀ j, j < ps.length → keyW (ps ++ [x]) j = keyW ps j := fun j h => by
  unfold keyW; rw [List.getElem?_append_left h]
theorem push_start {ps : List PartV} (x : PartV) (h : hp ps.length (keyW ps)) : hpU (ps.length + 1) (keyW (ps ++ [x])) ps.length :=
  hpU_start (hp_congr (key_push x) h)
set_option maxRecDepth 100000 in
set_option maxHeartbeats 2000000 in
theorem push_m {w0 w : World} {μ : Mem} {Lr : List Own} {bh ch : Nat} {adh : Option Addr} (ps : List PartV) (x : PartV) (hS : St w0 w μ (Own.obj bh [.slice adh ps.length ch, .func (.func 49) #[] #[]] 115 :: Own.sl adh ps.length ch 110 4 (ps.flatMap partL) :: Lr)) (hb : ps.length ≤ 1000000) (hl : ∀ y ∈ ps, Lain μ y) (hx : Lain μ x) :
    Calls Try.prog 51 #[.pointer (some ⟨bh, 0, none⟩), partV x] w (RetM fun _ w' => ∃ ad' c' qs, qs.Perm (x :: ps) ∧ (hp ps.length (keyW ps) → hp qs.length (keyW qs)) ∧
      St w0 w' μ (Own.obj bh [.slice ad' qs.length c', .func (.func 49) #[] #[]] 115 :: Own.sl ad' qs.length c' 110 4 (qs.flatMap partL) :: Lr)) := by
  refine calls_start 74 [.pointer (some ⟨bh, 0, none⟩), partV x] Try.func51 rfl Try.ntmps51 rfl rfl ?_
  refine CW.seq fun K1 hK1 => ?_
  refine CW.region [0] rfl ?_
  refine LW.hv rfl rfl rfl rfl (Hv.boxS hS rfl rfl) fun v w3 ⟨b3, hv, hb3, hS⟩ => ?_
  subst hv
  refine LW.nil fun aa ha => hK1 _ _ _ ?_ aa ha
  refine CW.seq fun K2 hK2 => ?_
  have hS := hS.drew
  refine CW.drawP 7 [0] (.pu 0 <| .ex 1 <| .ex 2 <| .ex 3 <| .ex 4 <| .ex 5 <| .one 6 <| .done) [7, 8, 9, 10] (Rd _ _) (Rd _ _) mixed (by kernel_rfl) rfl rfl (rd_nil hS.rd) hS.rd ?_
  refine QW.pu rfl rfl rfl rfl (Ex.move rfl) ?_
  refine QW.ex rfl rfl rfl rfl (Ex.move rfl) ?_
  refine QW.ex rfl rfl rfl rfl (Ex.nilCheck rfl) ?_
  refine QW.ex rfl rfl rfl rfl (Ex.fieldO 0 Try.underlying115 rfl rfl ti113 rfl) ?_
  refine QW.ex rfl rfl rfl rfl (Ex.load1 ti113 rfl rfl (by first | exact obT rfl | exact Rd.imm ‹_› | exact slT ‹_›)) ?_
  refine QW.ex rfl rfl rfl rfl (Ex.load4c ti110 rfl rfl (by first | exact obT rfl | exact Rd.imm ‹_› | exact slT ‹_›) (by first | exact obT rfl | exact Rd.imm ‹_› | exact slT ‹_›) (by first | exact obT rfl | exact Rd.imm ‹_› | exact slT ‹_›) (by first | exact obT rfl | exact Rd.imm ‹_› | exact slT ‹_›)) ?_
  refine QW.hv rfl rfl rfl rfl (Hv.buildSl hS Try.underlying113 ti110 rfl rfl rfl rfl rfl rfl) (fun _ _ ⟨_, _, _, h⟩ => rd_nil h.rd) (fun _ _ ⟨_, _, _, h⟩ => h.rd.tail) fun v w12 ⟨b12, hv, hb12, hS⟩ => ?_
  subst hv
  refine QW.nil ?_
  refine TW.hv rfl rfl rfl rfl (Hv.append (k := 3) rfl Try.underlying113 ti110 rfl hS rfl rfl rfl rfl (Rd.objAll (k := 0) rfl hS.rd) (by simp [Value.oneCell']) (by unfold maxLen; omega) (by omega)) (fun _ _ ⟨_, _, _, h⟩ => rd_nil h.rd) fun v w13 ⟨ad13, c13, hv, hS⟩ => ?_
  subst hv
  dsimp only [List.set] at hS
  have hS := hS.drop 0 rfl
  dsimp only [List.eraseIdx] at hS
  rw [show ps.flatMap partL ++ [.slice x.ad x.ls.length x.cp, .int .i64 x.pos, .int .i64 x.cost, .int .i64 x.whole] = (ps ++ [x]).flatMap partL by rw [List.flatMap_append, List.flatMap_singleton]; rfl] at hS
  refine TW.ex rfl rfl rfl rfl (Ex.nilCheck rfl) hS.rd ?_
  refine TW.ex rfl rfl rfl rfl (Ex.fieldO 0 Try.underlying115 rfl rfl ti113 rfl) hS.rd ?_
  refine TW.hu rfl rfl rfl (Hv.storeObj (k := 1) ti113 hS rfl rfl rfl rfl (by first | assumption | (simp; done) | omega | exact Nat.zero_lt_succ _)) (fun _ _ h => rd_nil h.rd) fun _ w_10 hS => ?_
  dsimp only [List.set] at hS
  refine TW.nil fun aa ha => hK2 _ _ _ ?_ aa ha
  refine CW.seq fun K3 hK3 => ?_
  refine CW.region [0, 1, 2, 3, 4, 5, 6] rfl ?_
  refine LW.ex rfl rfl rfl rfl (Ex.move rfl) hS.rd ?_
  refine LW.ex rfl rfl rfl rfl (Ex.nilCheck rfl) hS.rd ?_
  refine LW.ex rfl rfl rfl rfl (Ex.fieldO 0 Try.underlying115 rfl rfl ti113 rfl) hS.rd ?_
  refine LW.ex rfl rfl rfl rfl (Ex.load1 ti113 rfl rfl (by first | exact obT rfl | exact Rd.imm ‹_› | exact slT ‹_›)) hS.rd ?_
  refine LW.ex rfl rfl rfl rfl (Ex.lenSl rfl Try.underlying113 rfl) hS.rd ?_
  refine LW.ex rfl rfl rfl rfl (Ex.sub (r := (ps.length : Int)) rfl rfl (by rw [w64 (by omega) (by omega)]; omega)) hS.rd ?_
  refine LW.ex rfl rfl rfl rfl (Ex.assign rfl) hS.rd ?_
  refine LW.nil fun aa ha => hK3 _ _ _ ?_ aa ha
  refine CW.block ?_
  have hql0 : (ps ++ [x]).length = ps.length + 1 := by simp
  obtain ⟨g13, rfl⟩ := hS.sl_some 2 rfl (by omega)
  refine CW.loop (fun qq frm wl3 => ∃ (i : Nat) (qs : List PartV), i < ps.length + 1 ∧ qs.length = ps.length + 1 ∧ qq = i ∧ frm = [(0, .pointer (some ⟨bh, 0, none⟩)), (4, .int .i64 i)] ∧ St w0 wl3 μ (Own.obj b3 (partL x) 110 :: Own.obj bh [.slice (some ⟨g13, 0, none⟩) (ps.length + 1) c13, .func (.func 49) #[] #[]] 115 :: Own.sl (some ⟨g13, 0, none⟩) (ps.length + 1) c13 110 4 (qs.flatMap partL) :: Lr) ∧ (qs.Perm (x :: ps)) ∧ (hp ps.length (keyW ps) → hpU (ps.length + 1) (keyW qs) i) ∧ (∀ y ∈ qs, Lain μ y)) _ ⟨ps.length, ps ++ [x], (by first | omega | (simp; done) | (simp; omega)), (by first | omega | (simp; done) | (simp; omega)), rfl, rfl, hS, List.perm_append_comm, push_start x, fun y hy => (List.mem_append.1 hy).elim (hl y) fun h => by obtain rfl := List.mem_singleton.1 h; exact hx⟩ ⟨rfl, rfl, trivial⟩ ?_
  clear hS
  rintro qq frm wl3 ⟨i, qs, hi, hql, hq, rfl, hS, hq, hU, hlq⟩
  refine CW.seq fun K4 hK4 => ?_
  refine CW.seq fun K5 hK5 => ?_
  refine CW.region [0, 1] rfl ?_
  refine LW.ex rfl rfl rfl rfl (Ex.move rfl) hS.rd ?_
  refine LW.ex rfl rfl rfl rfl (Ex.gtr rfl rfl rfl) hS.rd ?_
  refine LW.splitB (fun h3_1 => ?_) (fun h3_1 => ?_)
  · have h3_1 := of_decide_eq_true h3_1
    refine LW.nil fun aa ha => hK5 _ _ _ ?_ aa ha
    refine CW.yes rfl ?_
    refine CW.skip fun aa ha => hK4 _ _ _ ?_ aa ha
    refine CW.block ?_
    refine CW.seq fun K6 hK6 => ?_
    refine CW.region [0, 1, 2, 3] rfl ?_
    refine LW.ex rfl rfl rfl rfl (Ex.move rfl) hS.rd ?_
    refine LW.ex rfl rfl rfl rfl (Ex.sub (r := ((i - 1 : Nat) : Int)) rfl rfl (by rw [w64 (by omega) (by omega)]; omega)) hS.rd ?_
    refine LW.ex rfl rfl rfl rfl (Ex.quo (r := (((i - 1) / 2 : Nat) : Int)) rfl rfl (by omega) (tdivW (a := i - 1) (b := 2) rfl rfl rfl (by omega))) hS.rd ?_
    refine LW.ex rfl rfl rfl rfl (Ex.assign rfl) hS.rd ?_
    refine LW.nil fun aa ha => hK6 _ _ _ ?_ aa ha
    refine CW.seq fun K7 hK7 => ?_
    refine CW.seq fun K8 hK8 => ?_
    obtain ⟨u, hu⟩ : ∃ u, u = (i - 1) / 2 := ⟨_, rfl⟩
    rw [← hu]
    obtain ⟨y, hy⟩ : ∃ y, qs[i]? = some y := ⟨qs[i]'(by omega), List.getElem?_eq_getElem (by omega)⟩
    obtain ⟨z, hz⟩ : ∃ z, qs[u]? = some z := ⟨qs[u]'(by omega), List.getElem?_eq_getElem (by omega)⟩
    obtain ⟨y0, y1, y2, y3⟩ := partAt hy
    obtain ⟨z0, z1, z2, z3⟩ := partAt hz
    have hly := hlq y (List.mem_of_getElem? hy)
    have hlz := hlq z (List.mem_of_getElem? hz)
    have hS := hS.drew
    refine CW.draw 20 (.ex 0 <| .ex 1 <| .ex 2 <| .ex 3 <| .ex 4 <| .ex 5 <| .ex 6 <| .ex 7 <| .ex 8 <| .ex 9 <| .ex 10 <| .ex 11 <| .ex 12 <| .ex 13 <| .ex 14 <| .ex 15 <| .ex 16 <| .ex 17 <| .one 18 <| .ex 19 <| .done) [] (Rd _ _) mixed (by kernel_rfl) rfl rfl hS.rd ?_
    refine PW.ex rfl rfl rfl rfl (Ex.move rfl) ?_
    refine PW.ex rfl rfl rfl rfl (Ex.nilCheck rfl) ?_
    refine PW.ex rfl rfl rfl rfl (Ex.fieldO 1 Try.underlying115 rfl rfl ti112 rfl) ?_
    refine PW.ex rfl rfl rfl rfl (Ex.load1 ti112 rfl rfl (by first | exact obT rfl | exact Rd.imm ‹_› | exact slT ‹_›)) ?_
    refine PW.ex rfl rfl rfl rfl (Ex.move rfl) ?_
    refine PW.ex rfl rfl rfl rfl (Ex.nilCheck rfl) ?_
    refine PW.ex rfl rfl rfl rfl (Ex.fieldO 0 Try.underlying115 rfl rfl ti113 rfl) ?_
    refine PW.ex rfl rfl rfl rfl (Ex.load1 ti113 rfl rfl (by first | exact obT rfl | exact Rd.imm ‹_› | exact slT ‹_›)) ?_
    refine PW.ex rfl rfl rfl rfl (Ex.move rfl) ?_
    refine PW.ex rfl rfl rfl rfl (Ex.indexSl Try.underlying113 ti110 rfl rfl rfl (by omega)) ?_
    refine PW.ex rfl rfl rfl rfl (Ex.load4c ti110 rfl rfl (slT y0) (slT y1) (slT y2) (slT y3)) ?_
    refine PW.ex rfl rfl rfl rfl (Ex.move rfl) ?_
    refine PW.ex rfl rfl rfl rfl (Ex.nilCheck rfl) ?_
    refine PW.ex rfl rfl rfl rfl (Ex.fieldO 0 Try.underlying115 rfl rfl ti113 rfl) ?_
    refine PW.ex rfl rfl rfl rfl (Ex.load1 ti113 rfl rfl (by first | exact obT rfl | exact Rd.imm ‹_› | exact slT ‹_›)) ?_
    refine PW.ex rfl rfl rfl rfl (Ex.move rfl) ?_
    refine PW.ex rfl rfl rfl rfl (Ex.indexSl Try.underlying113 ti110 rfl rfl rfl (by omega)) ?_
    refine PW.ex rfl rfl rfl rfl (Ex.load4c ti110 rfl rfl (slT z0) (slT z1) (slT z2) (slT z3)) ?_
    refine PW.hv rfl rfl rfl rfl (Hv.callS hS rfl rfl rfl cb49 (lessP_c y z μ hly hlz _ hS.imm)) (fun _ _ h => h.2.rd) fun v w45 ⟨hv, hS⟩ => ?_
    subst hv
    refine PW.splitB (fun h5_18 => ?_) (fun h5_18 => ?_)
    · skip
      refine PW.ex rfl rfl rfl rfl (Ex.not rfl rfl) ?_
      refine PW.nil ?_
      refine LW.nil fun aa ha => hK8 _ _ _ ?_ aa ha
      refine CW.no rfl ?_
      refine CW.skip fun aa ha => hK7 _ _ _ ?_ aa ha
      refine CW.seq fun K9 hK9 => ?_
      have hS := hS.drew
      refine CW.drawP 25 [9] (.ex 0 <| .ex 1 <| .ex 2 <| .ex 3 <| .ex 4 <| .ex 5 <| .ex 6 <| .ex 7 <| .ex 8 <| .pu 9 <| .ex 10 <| .ex 11 <| .ex 12 <| .ex 13 <| .ex 14 <| .ex 15 <| .ex 16 <| .ex 17 <| .ex 18 <| .ex 19 <| .ex 20 <| .ex 21 <| .ex 22 <| .ex 23 <| .ex 24 <| .done) [25, 26, 27] (Rd _ _) (Rd _ _) mixed (by kernel_rfl) rfl rfl (rd_head hS.rd.tail) hS.rd ?_
      refine QW.ex rfl rfl rfl rfl (Ex.move rfl) ?_
      refine QW.ex rfl rfl rfl rfl (Ex.nilCheck rfl) ?_
      refine QW.ex rfl rfl rfl rfl (Ex.fieldO 0 Try.underlying115 rfl rfl ti113 rfl) ?_
      refine QW.ex rfl rfl rfl rfl (Ex.load1 ti113 rfl rfl (by first | exact obT rfl | exact Rd.imm ‹_› | exact slT ‹_›)) ?_
      refine QW.ex rfl rfl rfl rfl (Ex.move rfl) ?_
      refine QW.ex rfl rfl rfl rfl (Ex.move rfl) ?_
      refine QW.ex rfl rfl rfl rfl (Ex.nilCheck rfl) ?_
      refine QW.ex rfl rfl rfl rfl (Ex.fieldO 0 Try.underlying115 rfl rfl ti113 rfl) ?_
      refine QW.ex rfl rfl rfl rfl (Ex.load1 ti113 rfl rfl (by first | exact obT rfl | exact Rd.imm ‹_› | exact slT ‹_›)) ?_
      refine QW.pu rfl rfl rfl rfl (Ex.move rfl) ?_
      refine QW.ex rfl rfl rfl rfl (Ex.move rfl) ?_
      refine QW.ex rfl rfl rfl rfl (Ex.nilCheck rfl) ?_
      refine QW.ex rfl rfl rfl rfl (Ex.fieldO 0 Try.underlying115 rfl rfl ti113 rfl) ?_
      refine QW.ex rfl rfl rfl rfl (Ex.load1 ti113 rfl rfl (by first | exact obT rfl | exact Rd.imm ‹_› | exact slT ‹_›)) ?_
      refine QW.ex rfl rfl rfl rfl (Ex.move rfl) ?_
      refine QW.ex rfl rfl rfl rfl (Ex.indexSl Try.underlying113 ti110 rfl rfl rfl (by omega)) ?_
      refine QW.ex rfl rfl rfl rfl (Ex.load4c ti110 rfl rfl (slT z0) (slT z1) (slT z2) (slT z3)) ?_
      refine QW.ex rfl rfl rfl rfl (Ex.move rfl) ?_
      refine QW.ex rfl rfl rfl rfl (Ex.nilCheck rfl) ?_
      refine QW.ex rfl rfl rfl rfl (Ex.fieldO 0 Try.underlying115 rfl rfl ti113 rfl) ?_
      refine QW.ex rfl rfl rfl rfl (Ex.load1 ti113 rfl rfl (by first | exact obT rfl | exact Rd.imm ‹_› | exact slT ‹_›)) ?_
      refine QW.ex rfl rfl rfl rfl (Ex.move rfl) ?_
      refine QW.ex rfl rfl rfl rfl (Ex.indexSl Try.underlying113 ti110 rfl rfl rfl (by omega)) ?_
      refine QW.ex rfl rfl rfl rfl (Ex.load4c ti110 rfl rfl (slT y0) (slT y1) (slT y2) (slT y3)) ?_
      refine QW.ex rfl rfl rfl rfl (Ex.indexSl Try.underlying113 ti110 rfl rfl rfl (by omega)) ?_
      refine QW.nil ?_
      refine TW.hu rfl rfl rfl (Hv.storeSlN (k := 2) (vs := partL z) ti110 hS rfl rfl rfl (by rw [flatMap_len partL_len, partL_len]; omega) (partOne _)) (fun _ _ h => rd_head (Rd.tail (show Rd _ (_ :: _ :: _) _ from h.rd))) fun _ w_25 hS => ?_
      dsimp only [List.set] at hS
      rw [show 0 + i * 4 = i * 4 by omega, partL_len, flatMap_set partL_len qs i _ (by omega)] at hS
      refine TW.ex rfl rfl rfl rfl (Ex.indexSl Try.underlying113 ti110 rfl rfl rfl (by omega)) hS.rd ?_
      refine TW.hu rfl rfl rfl (Hv.storeSlN (k := 2) (vs := partL y) ti110 hS rfl rfl rfl (by rw [flatMap_len partL_len, partL_len, List.length_set]; omega) (partOne _)) (fun _ _ h => rd_head (Rd.tail (show Rd _ (_ :: _ :: _) _ from h.rd))) fun _ w_27 hS => ?_
      dsimp only [List.set] at hS
      rw [show 0 + u * 4 = u * 4 by omega, partL_len, flatMap_set partL_len (qs.set i z) u _ (by rw [List.length_set]; omega)] at hS
      refine TW.nil fun aa ha => hK9 _ _ _ ?_ aa ha
      refine CW.region [0, 1] rfl ?_
      refine LW.ex rfl rfl rfl rfl (Ex.move rfl) hS.rd ?_
      refine LW.ex rfl rfl rfl rfl (Ex.assign rfl) hS.rd ?_
      refine LW.nil fun aa ha => ?_
      refine ⟨_, _, ?m3, ⟨u, (qs.set i z).set u y, (by first | omega | (simp; done) | (simp; omega)), (by first | omega | (simp; done) | (simp; omega)), rfl, rfl, hS, (swap_perm hy hz).trans hq, fun h => hpU_congr (by omega) (fun j _ => keyW_swap hy hz (by omega) j) (hpU_step hu (by omega) (by omega) (hU h) (by rw [key_at hy, key_at hz]; exact lessP_yes h5_18)), swap_mem hy hz hlq⟩, ha.sub ⟨rfl, rfl, trivial⟩⟩
      case m3 => omega
    · skip
      refine PW.ex rfl rfl rfl rfl (Ex.not rfl rfl) ?_
      refine PW.nil ?_
      refine LW.nil fun aa ha => hK8 _ _ _ ?_ aa ha
      refine CW.yes rfl ?_
      refine CW.ret fun aa ha => ?_
      refine end_none_ret ha Try.results51 ?_
      have hU2 := fun h => hpU_end (hU h) (.inr (by rw [← hu, key_at hy, key_at hz]; exact lessP_no h5_18))
      rw [← hql] at hU2 hS
      have hS := hS.drop 0 rfl
      dsimp only [List.eraseIdx] at hS
      exact ⟨_, rfl, _, _, qs, hq, hU2, hS⟩
  · have h3_1 := of_decide_eq_false h3_1
    refine LW.nil fun aa ha => hK5 _ _ _ ?_ aa ha
    refine CW.no rfl ?_
    refine CW.exit fun aa ha => ?_
    refine end_none ha Try.results51 ?_
    have hU2 := fun h => hpU_end (hU h) (.inl (by omega))
    rw [← hql] at hU2 hS
    have hS := hS.drop 0 rfl
    dsimp only [List.eraseIdx] at hS
    exact ⟨_, rfl, _, _, qs, hq, hU2, hS⟩
end Go.Proofs.Ytgnpjhellmfhoaa

/-
  Context: package best: the least part is taken off the heap.
-/
namespace Go.Proofs.Ytgnpjhellmfhoaa
open Go.RowKit Sy

theorem st_cut {w0 w : World} {μ : Mem} {L : List Own} {k g l c sz : Nat} {E : TypeId} {us : List Value} (h : St w0 w μ L) (hk : L[k]? = some (Own.sl (some ⟨g, 0, none⟩) l c E sz us)) (j : Nat) (hj : j ≤ l) :
    St w0 w μ (L.set k (Own.sl (some ⟨g, 0, none⟩) j c E sz (us.take (j * sz)))) := by
  obtain ⟨bs, ⟨hlen, hφ⟩, hnd, _, hstep⟩ := h.turn hk
  refine hstep w _ bs rfl rfl rfl (Nat.le_refl _) (Nat.le_refl _) (fun _ _ _ => rfl) ⟨?_, ?_⟩ hnd (fun x hx => .inl hx)
  · rw [List.length_take, hlen]; exact Nat.min_eq_left (Nat.mul_le_mul_right _ hj)
  · rcases hφ with ⟨h1, _⟩ | ⟨g', cur, h1, h2, h3, h4, h5, h6, h7⟩
    · cases h1
    · exact .inr ⟨g', cur, h1, h2, h3, by omega, h5, h6, by rw [← h7, List.take_take, Nat.min_eq_left (Nat.mul_le_mul_right _ hj)]⟩
theorem pop_perm {ps : List PartV} {x l : PartV} {n : Nat} (hn : ps.length = n + 1) (hx : ps[0]? = some x) (hl : ps[n]? = some l) : ps.Perm (x :: (ps.set 0 l).take n) := by
  match ps, hn with
  | y :: r, hn =>
    obtain rfl : y = x := by simpa using hx
    match n with
    | 0 =>
      have : r = [] := List.eq_nil_of_length_eq_zero (by simpa using hn)
      subst this; simp
    | n + 1 =>
      have hrl : r.length = n + 1 := by simpa using hn
      have hl2 : r[n]? = some l := by simpa using hl
      obtain ⟨hn2, hl3⟩ := List.getElem?_eq_some_iff.1 hl2
      have e : r = r.take n ++ [l] := by
        rw [← hl3, ← List.take_succ_eq_append_getElem hn2, List.take_of_length_le (by omega)]
      rw [List.set_cons_zero, List.take_succ_cons]
      refine List.Perm.cons _ ?_
      have h2 : (r.take n ++ [l]).Perm ([l] ++ r.take n) := List.perm_append_comm
      rw [← e] at h2; exact h2
theorem pop_start {ps : List PartV} {l : PartV} {n : Nat} (hn : ps.length = n + 1) (h : hp (n + 1) (keyW ps)) : hpD n (keyW ((ps.set 0 l).take n)) 0 := by
  have e : ∀ j, 0 < j → j < n → keyW ((ps.set 0 l).take n) j = keyW ps j := fun j h1 h2 => by
    unfold keyW; rw [List.getElem?_take_of_lt h2, List.getElem?_set_ne (by omega)]
  exact ⟨fun j h1 h2 h3 => by rw [e j h1 h2, e _ (by omega) (by omega)]; exact h j h1 (by omega), fun j _ _ _ h => by omega⟩
theorem kid_two {qs : List PartV} {i n : Nat} {y z : PartV} (hy : qs[2 * i + 1]? = some y) (hz : qs[2 * i + 1 + 1]? = some z) (h' : z.whole ≤ y.whole) : ∀ j, 0 < j → j < n → (j - 1) / 2 = i → keyW qs (2 * i + 1 + 1) ≤ keyW qs j := fun j h1 _ h3 => by
  rw [key_at hz]
  rcases (show j = 2 * i + 1 ∨ j = 2 * i + 1 + 1 by omega) with rfl | rfl
  · rw [key_at hy]; exact h'
  · rw [key_at hz]; exact Int.le_refl _
theorem kid_one {qs : List PartV} {i n : Nat} {y : PartV} (hy : qs[2 * i + 1]? = some y) (h : 2 * i + 1 + 1 < n → ∃ z, qs[2 * i + 1 + 1]? = some z ∧ y.whole ≤ z.whole) : ∀ j, 0 < j → j < n → (j - 1) / 2 = i → keyW qs (2 * i + 1) ≤ keyW qs j := fun j h1 h2 h3 => by
  rw [key_at hy]
  rcases (show j = 2 * i + 1 ∨ j = 2 * i + 1 + 1 by omega) with rfl | rfl
  · rw [key_at hy]; exact Int.le_refl _
  · obtain ⟨z, hz, hh⟩ := h h2
    rw [key_at hz]; exact hh
set_option maxRecDepth 100000 in
set_option maxHeartbeats 2000000 in
theorem pop_m {w0 w : World} {μ : Mem} {Lr : List Own} {bh ch n : Nat} {adh : Option Addr} (ps : List PartV) (x l : PartV) (hn : ps.length = n + 1) (hx : ps[0]? = some x) (hl0 : ps[n]? = some l) (hS : St w0 w μ (Own.obj bh [.slice adh (n + 1) ch, .func (.func 49) #[] #[]] 115 :: Own.sl adh (n + 1) ch 110 4 (ps.flatMap partL) :: Lr)) (hb : n ≤ 1000000) (hl : ∀ y ∈ ps, Lain μ y) :
    Calls Try.prog 52 #[.pointer (some ⟨bh, 0, none⟩)] w (RetM fun v w' => ∃ qs, v = partV x ∧ qs.length = n ∧ ps.Perm (x :: qs) ∧ (hp (n + 1) (keyW ps) → hp n (keyW qs)) ∧
      St w0 w' μ (Own.obj bh [.slice adh n ch, .func (.func 49) #[] #[]] 115 :: Own.sl adh n ch 110 4 (qs.flatMap partL) :: Lr)) := by
  obtain ⟨gh, rfl⟩ := hS.sl_some 1 rfl (by omega)
  have hcap := (hS.sl_cap 1 rfl).1
  obtain ⟨x0, x4, x5, x6⟩ := partAt hx
  obtain ⟨l0, l1, l2, l3⟩ := partAt hl0
  refine calls_start 123 [.pointer (some ⟨bh, 0, none⟩)] Try.func52 rfl Try.ntmps52 rfl rfl ?_
  refine CW.seq fun K1 hK1 => ?_
  refine CW.region [0] rfl ?_
  refine LW.hv rfl rfl rfl rfl (Hv.alloc ti110 hS) fun v w2 ⟨b2, hv, hb2, hS⟩ => ?_
  subst hv
  refine LW.nil fun aa ha => hK1 _ _ _ ?_ aa ha
  refine CW.seq fun K2 hK2 => ?_
  refine CW.region [0, 1, 2, 3, 4, 5, 6, 7] rfl ?_
  refine LW.ex rfl rfl rfl rfl (Ex.move rfl) hS.rd ?_
  refine LW.ex rfl rfl rfl rfl (Ex.nilCheck rfl) hS.rd ?_
  refine LW.ex rfl rfl rfl rfl (Ex.fieldO 0 Try.underlying115 rfl rfl ti113 rfl) hS.rd ?_
  refine LW.ex rfl rfl rfl rfl (Ex.load1 ti113 rfl rfl (by first | exact obT rfl | exact Rd.imm ‹_› | exact slT ‹_›)) hS.rd ?_
  refine LW.ex rfl rfl rfl rfl (Ex.indexSl (j := 0) Try.underlying113 ti110 rfl rfl rfl (by omega)) hS.rd ?_
  refine LW.ex rfl rfl rfl rfl (Ex.load4c ti110 rfl rfl (slT x0) (slT x4) (slT x5) (slT x6)) hS.rd ?_
  refine LW.hv rfl rfl rfl rfl (Hv.alloc ti110 hS) fun v w3 ⟨b3, hv, hb3, hS⟩ => ?_
  subst hv
  refine LW.hu rfl rfl rfl (Hv.storeN (k := 0) ti110 hS rfl rfl rfl rfl (by simp [Value.oneCell'])) fun _ w_7 hS => ?_
  dsimp only [List.set] at hS
  refine LW.nil fun aa ha => hK2 _ _ _ ?_ aa ha
  refine CW.seq fun K3 hK3 => ?_
  refine CW.region [0, 1, 2, 3, 4, 5, 6] rfl ?_
  refine LW.ex rfl rfl rfl rfl (Ex.move rfl) hS.rd ?_
  refine LW.ex rfl rfl rfl rfl (Ex.nilCheck rfl) hS.rd ?_
  refine LW.ex rfl rfl rfl rfl (Ex.fieldO 0 Try.underlying115 rfl rfl ti113 rfl) hS.rd ?_
  refine LW.ex rfl rfl rfl rfl (Ex.load1 ti113 rfl rfl (by first | exact obT rfl | exact Rd.imm ‹_› | exact slT ‹_›)) hS.rd ?_
  refine LW.ex rfl rfl rfl rfl (Ex.lenSl rfl Try.underlying113 rfl) hS.rd ?_
  refine LW.ex rfl rfl rfl rfl (Ex.sub (r := (n : Int)) rfl rfl (by rw [w64 (by omega) (by omega)]; omega)) hS.rd ?_
  refine LW.ex rfl rfl rfl rfl (Ex.assign rfl) hS.rd ?_
  refine LW.nil fun aa ha => hK3 _ _ _ ?_ aa ha
  refine CW.seq fun K4 hK4 => ?_
  have hS := hS.drew
  refine CW.draw 12 (.ex 0 <| .ex 1 <| .ex 2 <| .ex 3 <| .ex 4 <| .ex 5 <| .ex 6 <| .ex 7 <| .ex 8 <| .ex 9 <| .ex 10 <| .ex 11 <| .done) [12] (Rd _ _) mixed (by kernel_rfl) rfl rfl hS.rd ?_
  refine PW.ex rfl rfl rfl rfl (Ex.move rfl) ?_
  refine PW.ex rfl rfl rfl rfl (Ex.nilCheck rfl) ?_
  refine PW.ex rfl rfl rfl rfl (Ex.fieldO 0 Try.underlying115 rfl rfl ti113 rfl) ?_
  refine PW.ex rfl rfl rfl rfl (Ex.load1 ti113 rfl rfl (by first | exact obT rfl | exact Rd.imm ‹_› | exact slT ‹_›)) ?_
  refine PW.ex rfl rfl rfl rfl (Ex.move rfl) ?_
  refine PW.ex rfl rfl rfl rfl (Ex.nilCheck rfl) ?_
  refine PW.ex rfl rfl rfl rfl (Ex.fieldO 0 Try.underlying115 rfl rfl ti113 rfl) ?_
  refine PW.ex rfl rfl rfl rfl (Ex.load1 ti113 rfl rfl (by first | exact obT rfl | exact Rd.imm ‹_› | exact slT ‹_›)) ?_
  refine PW.ex rfl rfl rfl rfl (Ex.move rfl) ?_
  refine PW.ex rfl rfl rfl rfl (Ex.indexSl Try.underlying113 ti110 rfl rfl rfl (by omega)) ?_
  refine PW.ex rfl rfl rfl rfl (Ex.load4c ti110 rfl rfl (slT l0) (slT l1) (slT l2) (slT l3)) ?_
  refine PW.ex rfl rfl rfl rfl (Ex.indexSl (j := 0) Try.underlying113 ti110 rfl rfl rfl (by omega)) ?_
  refine PW.nil ?_
  refine LW.hu rfl rfl rfl (Hv.storeSlN (k := 3) (vs := partL l) ti110 hS rfl rfl rfl (by rw [flatMap_len partL_len, partL_len]; omega) (partOne _)) fun _ w_12 hS => ?_
  dsimp only [List.set] at hS
  rw [show 0 + 0 * 4 = 0 * 4 by omega, partL_len, flatMap_set partL_len ps 0 _ (by omega)] at hS
  refine LW.nil fun aa ha => hK4 _ _ _ ?_ aa ha
  refine CW.seq fun K5 hK5 => ?_
  refine CW.region [0, 1, 2, 3, 4, 5, 6, 7, 8, 9] rfl ?_
  refine LW.ex rfl rfl rfl rfl (Ex.move rfl) hS.rd ?_
  refine LW.ex rfl rfl rfl rfl (Ex.move rfl) hS.rd ?_
  refine LW.ex rfl rfl rfl rfl (Ex.nilCheck rfl) hS.rd ?_
  refine LW.ex rfl rfl rfl rfl (Ex.fieldO 0 Try.underlying115 rfl rfl ti113 rfl) hS.rd ?_
  refine LW.ex rfl rfl rfl rfl (Ex.load1 ti113 rfl rfl (by first | exact obT rfl | exact Rd.imm ‹_› | exact slT ‹_›)) hS.rd ?_
  refine LW.ex rfl rfl rfl rfl (Ex.move rfl) hS.rd ?_
  refine LW.ex rfl rfl rfl rfl (Ex.sliceTo Try.underlying113 ti110 rfl rfl rfl (by omega)) hS.rd ?_
  refine LW.ex rfl rfl rfl rfl (Ex.nilCheck rfl) hS.rd ?_
  refine LW.ex rfl rfl rfl rfl (Ex.fieldO 0 Try.underlying115 rfl rfl ti113 rfl) hS.rd ?_
  refine LW.hu rfl rfl rfl (Hv.storeObj (k := 2) ti113 hS rfl rfl rfl rfl (by first | assumption | (simp; done) | omega | exact Nat.zero_lt_succ _)) fun _ w_9 hS => ?_
  dsimp only [List.set] at hS
  refine LW.nil fun aa ha => hK5 _ _ _ ?_ aa ha
  refine CW.seq fun K6 hK6 => ?_
  refine CW.region [0] rfl ?_
  refine LW.ex rfl rfl rfl rfl (Ex.assign rfl) hS.rd ?_
  refine LW.nil fun aa ha => hK6 _ _ _ ?_ aa ha
  refine CW.block ?_
  have hS := st_cut hS (k := 3) rfl n (by omega)
  dsimp only [List.set] at hS
  rw [flatMap_take partL_len] at hS
  refine CW.loop (fun qq frm wl6 => ∃ (i : Nat) (qs : List PartV), i ≤ n ∧ qs.length = n ∧ qq = n - i ∧ frm = [(0, .pointer (some ⟨bh, 0, none⟩)), (2, .pointer (some ⟨b2, 0, none⟩)), (3, .pointer (some ⟨b3, 0, none⟩)), (4, .int .i64 n), (5, .int .i64 i)] ∧ St w0 wl6 μ (Own.obj b3 (partL x) 110 :: Own.obj b2 [.slice none 0 0, .int .i64 0, .int .i64 0, .int .i64 0] 110 :: Own.obj bh [.slice (some ⟨gh, 0, none⟩) n ch, .func (.func 49) #[] #[]] 115 :: Own.sl (some ⟨gh, 0, none⟩) n ch 110 4 (qs.flatMap partL) :: Lr) ∧ (ps.Perm (x :: qs)) ∧ (hp (n + 1) (keyW ps) → hpD n (keyW qs) i) ∧ (∀ y ∈ qs, Lain μ y)) _ ⟨0, (ps.set 0 l).take n, (by first | omega | (simp; done) | (simp; omega)), (by first | omega | (simp; done) | (simp; omega)), rfl, rfl, hS, pop_perm hn hx hl0, pop_start hn, fun y hy => hl y ((pop_perm hn hx hl0).mem_iff.2 (List.mem_cons_of_mem _ hy))⟩ ⟨rfl, rfl, rfl, rfl, rfl, trivial⟩ ?_
  clear hS
  rintro qq frm wl6 ⟨i, qs, hi, hql, hq, rfl, hS, hq, hD, hlq⟩
  refine CW.block ?_
  refine CW.seq fun K7 hK7 => ?_
  refine CW.region [0, 1, 2, 3] rfl ?_
  refine LW.ex rfl rfl rfl rfl (Ex.move rfl) hS.rd ?_
  refine LW.ex rfl rfl rfl rfl (Ex.mul (r := ((2 * i : Nat) : Int)) rfl rfl (by rw [w64 (by omega) (by omega)]; omega)) hS.rd ?_
  refine LW.ex rfl rfl rfl rfl (Ex.add (r := ((2 * i + 1 : Nat) : Int)) rfl rfl (by rw [w64 (by omega) (by omega)]; omega)) hS.rd ?_
  refine LW.ex rfl rfl rfl rfl (Ex.assign rfl) hS.rd ?_
  refine LW.nil fun aa ha => hK7 _ _ _ ?_ aa ha
  refine CW.seq fun K8 hK8 => ?_
  refine CW.seq fun K9 hK9 => ?_
  refine CW.region [0, 1, 2] rfl ?_
  refine LW.ex rfl rfl rfl rfl (Ex.move rfl) hS.rd ?_
  refine LW.ex rfl rfl rfl rfl (Ex.move rfl) hS.rd ?_
  refine LW.ex rfl rfl rfl rfl (Ex.geq rfl rfl rfl) hS.rd ?_
  refine LW.splitB (fun h7_2 => ?_) (fun h7_2 => ?_)
  · have h7_2 := of_decide_eq_true h7_2
    refine LW.nil fun aa ha => hK9 _ _ _ ?_ aa ha
    refine CW.yes rfl ?_
    refine CW.seq fun K10 hK10 => ?_
    refine CW.region [0, 1] rfl ?_
    refine LW.ex rfl rfl rfl rfl (Ex.load4c ti110 rfl rfl (by first | exact obT rfl | exact Rd.imm ‹_› | exact slT ‹_›) (by first | exact obT rfl | exact Rd.imm ‹_› | exact slT ‹_›) (by first | exact obT rfl | exact Rd.imm ‹_› | exact slT ‹_›) (by first | exact obT rfl | exact Rd.imm ‹_› | exact slT ‹_›)) hS.rd ?_
    refine LW.hu rfl rfl rfl (Hv.storeN (k := 1) ti110 hS rfl rfl rfl rfl (by simp [Value.oneCell'])) fun _ w_1 hS => ?_
    dsimp only [List.set] at hS
    refine LW.nil fun aa ha => hK10 _ _ _ ?_ aa ha
    refine CW.ret fun aa ha => ?_
    refine ret_cell ha Try.results52 rfl ti110 rfl (fun j v hv => Rd.objAll (k := 1) rfl hS.rd j v hv) ?_
    have hD2 := fun h => hpD_end (hD h) (fun j h1 h2 h3 => by omega)
    have hS := (hS.drop 0 rfl).drop 0 rfl
    dsimp only [List.eraseIdx] at hS
    exact ⟨_, rfl, qs, rfl, hql, hq, hD2, hS⟩
  · have h7_2 := of_decide_eq_false h7_2
    refine LW.nil fun aa ha => hK9 _ _ _ ?_ aa ha
    refine CW.no rfl ?_
    refine CW.skip fun aa ha => hK8 _ _ _ ?_ aa ha
    refine CW.seq fun K11 hK11 => ?_
    obtain ⟨y, hy⟩ : ∃ y, qs[2 * i + 1]? = some y := ⟨qs[2 * i + 1]'(by omega), List.getElem?_eq_getElem (by omega)⟩
    obtain ⟨u, hu⟩ : ∃ u, qs[i]? = some u := ⟨qs[i]'(by omega), List.getElem?_eq_getElem (by omega)⟩
    obtain ⟨y0, y1, y2, y3⟩ := partAt hy
    obtain ⟨u0, u1, u2, u3⟩ := partAt hu
    have hly := hlq y (List.mem_of_getElem? hy)
    have hlu := hlq u (List.mem_of_getElem? hu)
    have hJ9 : ∀ (wj : World) (kk : Nat) (v : PartV), St w0 wj μ (Own.obj b3 (partL x) 110 :: Own.obj b2 [.slice none 0 0, .int .i64 0, .int .i64 0, .int .i64 0] 110 :: Own.obj bh [.slice (some ⟨gh, 0, none⟩) n ch, .func (.func 49) #[] #[]] 115 :: Own.sl (some ⟨gh, 0, none⟩) n ch 110 4 (qs.flatMap partL) :: Lr) → (qs[kk]? = some v) → ((kk - 1) / 2 = i ∧ 0 < kk ∧ kk < n) → (∀ j, 0 < j → j < n → (j - 1) / 2 = i → keyW qs kk ≤ keyW qs j) → KW K11 123 [(0, .pointer (some ⟨bh, 0, none⟩)), (2, .pointer (some ⟨b2, 0, none⟩)), (3, .pointer (some ⟨b3, 0, none⟩)), (4, .int .i64 n), (5, .int .i64 i), (6, .int .i64 kk)] wj := by
      intro wj kk v hS hv hkk hmin
      refine hK11 _ _ _ ?_
      refine CW.seq fun K12 hK12 => ?_
      refine CW.seq fun K13 hK13 => ?_
      obtain ⟨v0, v1, v2, v3⟩ := partAt hv
      have hlv := hlq v (List.mem_of_getElem? hv)
      have hS := hS.drew
      refine CW.draw 20 (.ex 0 <| .ex 1 <| .ex 2 <| .ex 3 <| .ex 4 <| .ex 5 <| .ex 6 <| .ex 7 <| .ex 8 <| .ex 9 <| .ex 10 <| .ex 11 <| .ex 12 <| .ex 13 <| .ex 14 <| .ex 15 <| .ex 16 <| .ex 17 <| .one 18 <| .ex 19 <| .done) [] (Rd _ _) mixed (by kernel_rfl) rfl rfl hS.rd ?_
      refine PW.ex rfl rfl rfl rfl (Ex.move rfl) ?_
      refine PW.ex rfl rfl rfl rfl (Ex.nilCheck rfl) ?_
      refine PW.ex rfl rfl rfl rfl (Ex.fieldO 1 Try.underlying115 rfl rfl ti112 rfl) ?_
      refine PW.ex rfl rfl rfl rfl (Ex.load1 ti112 rfl rfl (by first | exact obT rfl | exact Rd.imm ‹_› | exact slT ‹_›)) ?_
      refine PW.ex rfl rfl rfl rfl (Ex.move rfl) ?_
      refine PW.ex rfl rfl rfl rfl (Ex.nilCheck rfl) ?_
      refine PW.ex rfl rfl rfl rfl (Ex.fieldO 0 Try.underlying115 rfl rfl ti113 rfl) ?_
      refine PW.ex rfl rfl rfl rfl (Ex.load1 ti113 rfl rfl (by first | exact obT rfl | exact Rd.imm ‹_› | exact slT ‹_›)) ?_
      refine PW.ex rfl rfl rfl rfl (Ex.move rfl) ?_
      refine PW.ex rfl rfl rfl rfl (Ex.indexSl Try.underlying113 ti110 rfl rfl rfl (by omega)) ?_
      refine PW.ex rfl rfl rfl rfl (Ex.load4c ti110 rfl rfl (slT v0) (slT v1) (slT v2) (slT v3)) ?_
      refine PW.ex rfl rfl rfl rfl (Ex.move rfl) ?_
      refine PW.ex rfl rfl rfl rfl (Ex.nilCheck rfl) ?_
      refine PW.ex rfl rfl rfl rfl (Ex.fieldO 0 Try.underlying115 rfl rfl ti113 rfl) ?_
      refine PW.ex rfl rfl rfl rfl (Ex.load1 ti113 rfl rfl (by first | exact obT rfl | exact Rd.imm ‹_› | exact slT ‹_›)) ?_
      refine PW.ex rfl rfl rfl rfl (Ex.move rfl) ?_
      refine PW.ex rfl rfl rfl rfl (Ex.indexSl Try.underlying113 ti110 rfl rfl rfl (by omega)) ?_
      refine PW.ex rfl rfl rfl rfl (Ex.load4c ti110 rfl rfl (slT u0) (slT u1) (slT u2) (slT u3)) ?_
      refine PW.hv rfl rfl rfl rfl (Hv.callS hS rfl rfl rfl cb49 (lessP_c v u μ hlv hlu _ hS.imm)) (fun _ _ h => h.2.rd) fun v w93 ⟨hv, hS⟩ => ?_
      subst hv
      refine PW.splitB (fun h11_18 => ?_) (fun h11_18 => ?_)
      · skip
        refine PW.ex rfl rfl rfl rfl (Ex.not rfl rfl) ?_
        refine PW.nil ?_
        refine LW.nil fun aa ha => hK13 _ _ _ ?_ aa ha
        refine CW.no rfl ?_
        refine CW.skip fun aa ha => hK12 _ _ _ ?_ aa ha
        refine CW.seq fun K14 hK14 => ?_
        have hS := hS.drew
        refine CW.drawP 25 [9] (.ex 0 <| .ex 1 <| .ex 2 <| .ex 3 <| .ex 4 <| .ex 5 <| .ex 6 <| .ex 7 <| .ex 8 <| .pu 9 <| .ex 10 <| .ex 11 <| .ex 12 <| .ex 13 <| .ex 14 <| .ex 15 <| .ex 16 <| .ex 17 <| .ex 18 <| .ex 19 <| .ex 20 <| .ex 21 <| .ex 22 <| .ex 23 <| .ex 24 <| .done) [25, 26, 27] (Rd _ _) (Rd _ _) mixed (by kernel_rfl) rfl rfl (rd_head hS.rd.tail.tail) hS.rd ?_
        refine QW.ex rfl rfl rfl rfl (Ex.move rfl) ?_
        refine QW.ex rfl rfl rfl rfl (Ex.nilCheck rfl) ?_
        refine QW.ex rfl rfl rfl rfl (Ex.fieldO 0 Try.underlying115 rfl rfl ti113 rfl) ?_
        refine QW.ex rfl rfl rfl rfl (Ex.load1 ti113 rfl rfl (by first | exact obT rfl | exact Rd.imm ‹_› | exact slT ‹_›)) ?_
        refine QW.ex rfl rfl rfl rfl (Ex.move rfl) ?_
        refine QW.ex rfl rfl rfl rfl (Ex.move rfl) ?_
        refine QW.ex rfl rfl rfl rfl (Ex.nilCheck rfl) ?_
        refine QW.ex rfl rfl rfl rfl (Ex.fieldO 0 Try.underlying115 rfl rfl ti113 rfl) ?_
        refine QW.ex rfl rfl rfl rfl (Ex.load1 ti113 rfl rfl (by first | exact obT rfl | exact Rd.imm ‹_› | exact slT ‹_›)) ?_
        refine QW.pu rfl rfl rfl rfl (Ex.move rfl) ?_
        refine QW.ex rfl rfl rfl rfl (Ex.move rfl) ?_
        refine QW.ex rfl rfl rfl rfl (Ex.nilCheck rfl) ?_
        refine QW.ex rfl rfl rfl rfl (Ex.fieldO 0 Try.underlying115 rfl rfl ti113 rfl) ?_
        refine QW.ex rfl rfl rfl rfl (Ex.load1 ti113 rfl rfl (by first | exact obT rfl | exact Rd.imm ‹_› | exact slT ‹_›)) ?_
        refine QW.ex rfl rfl rfl rfl (Ex.move rfl) ?_
        refine QW.ex rfl rfl rfl rfl (Ex.indexSl Try.underlying113 ti110 rfl rfl rfl (by omega)) ?_
        refine QW.ex rfl rfl rfl rfl (Ex.load4c ti110 rfl rfl (slT v0) (slT v1) (slT v2) (slT v3)) ?_
        refine QW.ex rfl rfl rfl rfl (Ex.move rfl) ?_
        refine QW.ex rfl rfl rfl rfl (Ex.nilCheck rfl) ?_
        refine QW.ex rfl rfl rfl rfl (Ex.fieldO 0 Try.underlying115 rfl rfl ti113 rfl) ?_
        refine QW.ex rfl rfl rfl rfl (Ex.load1 ti113 rfl rfl (by first | exact obT rfl | exact Rd.imm ‹_› | exact slT ‹_›)) ?_
        refine QW.ex rfl rfl rfl rfl (Ex.move rfl) ?_
        refine QW.ex rfl rfl rfl rfl (Ex.indexSl Try.underlying113 ti110 rfl rfl rfl (by omega)) ?_
        refine QW.ex rfl rfl rfl rfl (Ex.load4c ti110 rfl rfl (slT u0) (slT u1) (slT u2) (slT u3)) ?_
        refine QW.ex rfl rfl rfl rfl (Ex.indexSl Try.underlying113 ti110 rfl rfl rfl (by omega)) ?_
        refine QW.nil ?_
        refine TW.hu rfl rfl rfl (Hv.storeSlN (k := 3) (vs := partL v) ti110 hS rfl rfl rfl (by rw [flatMap_len partL_len, partL_len]; omega) (partOne _)) (fun _ _ h => rd_head (Rd.tail (Rd.tail (show Rd _ (_ :: _ :: _ :: _) _ from h.rd)))) fun _ w_25 hS => ?_
        dsimp only [List.set] at hS
        rw [show 0 + i * 4 = i * 4 by omega, partL_len, flatMap_set partL_len qs i _ (by omega)] at hS
        refine TW.ex rfl rfl rfl rfl (Ex.indexSl Try.underlying113 ti110 rfl rfl rfl (by omega)) hS.rd ?_
        refine TW.hu rfl rfl rfl (Hv.storeSlN (k := 3) (vs := partL u) ti110 hS rfl rfl rfl (by rw [flatMap_len partL_len, partL_len, List.length_set]; omega) (partOne _)) (fun _ _ h => rd_head (Rd.tail (Rd.tail (show Rd _ (_ :: _ :: _ :: _) _ from h.rd)))) fun _ w_27 hS => ?_
        dsimp only [List.set] at hS
        rw [show 0 + kk * 4 = kk * 4 by omega, partL_len, flatMap_set partL_len (qs.set i v) kk _ (by rw [List.length_set]; omega)] at hS
        refine TW.nil fun aa ha => hK14 _ _ _ ?_ aa ha
        refine CW.region [0, 1] rfl ?_
        refine LW.ex rfl rfl rfl rfl (Ex.move rfl) hS.rd ?_
        refine LW.ex rfl rfl rfl rfl (Ex.assign rfl) hS.rd ?_
        refine LW.nil fun aa ha => ?_
        refine ⟨_, _, ?m6, ⟨kk, (qs.set i v).set kk u, (by first | omega | (simp; done) | (simp; omega)), (by first | omega | (simp; done) | (simp; omega)), rfl, rfl, hS, hq.trans ((swap_perm hu hv).symm.cons x), fun h => hpD_congr (by omega) (fun j _ => keyW_swap hu hv (by omega) j) (hpD_step hkk.1 hkk.2.1 hkk.2.2 (hD h) (by rw [key_at hu, key_at hv]; exact lessP_yes h11_18) hmin), swap_mem hu hv hlq⟩, ha.sub ⟨rfl, rfl, rfl, rfl, rfl, trivial⟩⟩
        case m6 => omega
      · skip
        refine PW.ex rfl rfl rfl rfl (Ex.not rfl rfl) ?_
        refine PW.nil ?_
        refine LW.nil fun aa ha => hK13 _ _ _ ?_ aa ha
        refine CW.yes rfl ?_
        refine CW.seq fun K15 hK15 => ?_
        refine CW.region [0, 1] rfl ?_
        refine LW.ex rfl rfl rfl rfl (Ex.load4c ti110 rfl rfl (by first | exact obT rfl | exact Rd.imm ‹_› | exact slT ‹_›) (by first | exact obT rfl | exact Rd.imm ‹_› | exact slT ‹_›) (by first | exact obT rfl | exact Rd.imm ‹_› | exact slT ‹_›) (by first | exact obT rfl | exact Rd.imm ‹_› | exact slT ‹_›)) hS.rd ?_
        refine LW.hu rfl rfl rfl (Hv.storeN (k := 1) ti110 hS rfl rfl rfl rfl (by simp [Value.oneCell'])) fun _ w_1 hS => ?_
        dsimp only [List.set] at hS
        refine LW.nil fun aa ha => hK15 _ _ _ ?_ aa ha
        refine CW.ret fun aa ha => ?_
        refine ret_cell ha Try.results52 rfl ti110 rfl (fun j v hv => Rd.objAll (k := 1) rfl hS.rd j v hv) ?_
        have hD2 := fun h => hpD_end (hD h) (fun j h1 h2 h3 => Int.le_trans (by rw [key_at hu, key_at hv]; exact lessP_no h11_18) (hmin j h1 h2 h3))
        have hS := (hS.drop 0 rfl).drop 0 rfl
        dsimp only [List.eraseIdx] at hS
        exact ⟨_, rfl, qs, rfl, hql, hq, hD2, hS⟩
    refine CW.seq fun K16 hK16 => ?_
    have hS := hS.drew
    refine CW.draw 26 (.ex 0 <| .ex 1 <| .ex 2 <| .ex 3 <| .ex 4 <| .ex 5 <| .ex 6 <| .ex 7 <| .ex 8 <| .ex 9 <| .ex 10 <| .ex 11 <| .ex 12 <| .ex 13 <| .ex 14 <| .ex 15 <| .ex 16 <| .ex 17 <| .ex 18 <| .ex 19 <| .ex 20 <| .ex 21 <| .ex 22 <| .ex 23 <| .one 24 <| .ex 25 <| .done) [] (Rd _ _) mixed (by kernel_rfl) rfl rfl hS.rd ?_
    refine PW.ex rfl rfl rfl rfl (Ex.move rfl) ?_
    refine PW.ex rfl rfl rfl rfl (Ex.add rfl rfl (by first | exact inc64 (by omega) | exact addN (by omega) | exact w64 (by omega) (by omega))) ?_
    refine PW.ex rfl rfl rfl rfl (Ex.move rfl) ?_
    refine PW.ex rfl rfl rfl rfl (Ex.lss rfl rfl rfl) ?_
    refine PW.splitB (fun h9_3 => ?_) (fun h9_3 => ?_)
    · have h9_3 := of_decide_eq_true h9_3
      obtain ⟨z, hz⟩ : ∃ z, qs[2 * i + 1 + 1]? = some z := ⟨qs[2 * i + 1 + 1]'(by omega), List.getElem?_eq_getElem (by omega)⟩
      obtain ⟨z0, z1, z2, z3⟩ := partAt hz
      have hlz := hlq z (List.mem_of_getElem? hz)
      refine PW.ex rfl rfl rfl rfl (Ex.move rfl) ?_
      refine PW.ex rfl rfl rfl rfl (Ex.move rfl) ?_
      refine PW.ex rfl rfl rfl rfl (Ex.nilCheck rfl) ?_
      refine PW.ex rfl rfl rfl rfl (Ex.fieldO 1 Try.underlying115 rfl rfl ti112 rfl) ?_
      refine PW.ex rfl rfl rfl rfl (Ex.load1 ti112 rfl rfl (by first | exact obT rfl | exact Rd.imm ‹_› | exact slT ‹_›)) ?_
      refine PW.ex rfl rfl rfl rfl (Ex.move rfl) ?_
      refine PW.ex rfl rfl rfl rfl (Ex.nilCheck rfl) ?_
      refine PW.ex rfl rfl rfl rfl (Ex.fieldO 0 Try.underlying115 rfl rfl ti113 rfl) ?_
      refine PW.ex rfl rfl rfl rfl (Ex.load1 ti113 rfl rfl (by first | exact obT rfl | exact Rd.imm ‹_› | exact slT ‹_›)) ?_
      refine PW.ex rfl rfl rfl rfl (Ex.move rfl) ?_
      refine PW.ex rfl rfl rfl rfl (Ex.add (r := ((2 * i + 1 + 1 : Nat) : Int)) rfl rfl (by rw [w64 (by omega) (by omega)]; omega)) ?_
      refine PW.ex rfl rfl rfl rfl (Ex.indexSl Try.underlying113 ti110 rfl rfl rfl (by omega)) ?_
      refine PW.ex rfl rfl rfl rfl (Ex.load4c ti110 rfl rfl (slT z0) (slT z1) (slT z2) (slT z3)) ?_
      refine PW.ex rfl rfl rfl rfl (Ex.move rfl) ?_
      refine PW.ex rfl rfl rfl rfl (Ex.nilCheck rfl) ?_
      refine PW.ex rfl rfl rfl rfl (Ex.fieldO 0 Try.underlying115 rfl rfl ti113 rfl) ?_
      refine PW.ex rfl rfl rfl rfl (Ex.load1 ti113 rfl rfl (by first | exact obT rfl | exact Rd.imm ‹_› | exact slT ‹_›)) ?_
      refine PW.ex rfl rfl rfl rfl (Ex.move rfl) ?_
      refine PW.ex rfl rfl rfl rfl (Ex.indexSl Try.underlying113 ti110 rfl rfl rfl (by omega)) ?_
      refine PW.ex rfl rfl rfl rfl (Ex.load4c ti110 rfl rfl (slT y0) (slT y1) (slT y2) (slT y3)) ?_
      refine PW.hv rfl rfl rfl rfl (Hv.callS hS rfl rfl rfl cb49 (lessP_c z y μ hlz hly _ hS.imm)) (fun _ _ h => h.2.rd) fun v w71 ⟨hv, hS⟩ => ?_
      subst hv
      refine PW.splitB (fun h9_24 => ?_) (fun h9_24 => ?_)
      · skip
        refine PW.ex rfl rfl rfl rfl (by first | exact Ex.pick_yes rfl rfl | exact Ex.pick_no rfl rfl) ?_
        refine PW.nil ?_
        refine LW.nil fun aa ha => hK16 _ _ _ ?_ aa ha
        refine CW.yes rfl ?_
        refine CW.region [0, 1, 2] rfl ?_
        refine LW.ex rfl rfl rfl rfl (Ex.move rfl) hS.rd ?_
        refine LW.ex rfl rfl rfl rfl (Ex.add (r := ((2 * i + 1 + 1 : Nat) : Int)) rfl rfl (by rw [w64 (by omega) (by omega)]; omega)) hS.rd ?_
        refine LW.ex rfl rfl rfl rfl (Ex.assign rfl) hS.rd ?_
        refine LW.nil fun aa ha => ?_
        refine hJ9 _ (2 * i + 1 + 1) (z) hS (hz) (by omega) (kid_two hy hz (lessP_yes h9_24)) aa (ha.sub ⟨rfl, rfl, rfl, rfl, rfl, rfl, trivial⟩)
      · skip
        refine PW.ex rfl rfl rfl rfl (by first | exact Ex.pick_yes rfl rfl | exact Ex.pick_no rfl rfl) ?_
        refine PW.nil ?_
        refine LW.nil fun aa ha => hK16 _ _ _ ?_ aa ha
        refine CW.no rfl ?_
        refine CW.skip fun aa ha => ?_
        refine hJ9 _ (2 * i + 1) (y) hS (hy) (by omega) (kid_one hy (fun _ => ⟨z, hz, lessP_no h9_24⟩)) aa (ha.sub ⟨rfl, rfl, rfl, rfl, rfl, rfl, trivial⟩)
    · have h9_3 := of_decide_eq_false h9_3
      refine PW.ex rfl rfl rfl rfl (Ex.move rfl) ?_
      refine PW.skip rfl rfl rfl rfl ?_
      refine PW.skip rfl rfl rfl rfl ?_
      refine PW.skip rfl rfl rfl rfl ?_
      refine PW.skip rfl rfl rfl rfl ?_
      refine PW.skip rfl rfl rfl rfl ?_
      refine PW.skip rfl rfl rfl rfl ?_
      refine PW.skip rfl rfl rfl rfl ?_
      refine PW.skip rfl rfl rfl rfl ?_
      refine PW.skip rfl rfl rfl rfl ?_
      refine PW.skip rfl rfl rfl rfl ?_
      refine PW.skip rfl rfl rfl rfl ?_
      refine PW.skip rfl rfl rfl rfl ?_
      refine PW.skip rfl rfl rfl rfl ?_
      refine PW.skip rfl rfl rfl rfl ?_
      refine PW.skip rfl rfl rfl rfl ?_
      refine PW.skip rfl rfl rfl rfl ?_
      refine PW.skip rfl rfl rfl rfl ?_
      refine PW.skip rfl rfl rfl rfl ?_
      refine PW.skip rfl rfl rfl rfl ?_
      refine PW.skip1 rfl rfl rfl rfl ?_
      refine PW.ex rfl rfl rfl rfl (by first | exact Ex.pick_yes rfl rfl | exact Ex.pick_no rfl rfl) ?_
      refine PW.nil ?_
      refine LW.nil fun aa ha => hK16 _ _ _ ?_ aa ha
      refine CW.no rfl ?_
      refine CW.skip fun aa ha => ?_
      refine hJ9 _ (2 * i + 1) (y) hS (hy) (by omega) (kid_one hy (fun h => absurd h (by omega))) aa (ha.sub ⟨rfl, rfl, rfl, rfl, rfl, rfl, trivial⟩)
end Go.Proofs.Ytgnpjhellmfhoaa

/-
  Context: package best: paths, and the least costs as a bound from below (plain Lean).
-/
namespace Go.Proofs.Ytgnpjhellmfhoaa
open Go.RowKit Sy

/-- A path from the first node: its links, where it ends, what it costs. -/
inductive Path (g : Grf) : List Int → Int → Int → Prop
  | nil : Path g [] 0 0
  | snoc {ls : List Int} {p c : Int} (i : Nat) (h : Path g ls p c) (hi : i < g.Links.length) (hf : (lkAt g i).From = p) : Path g (ls ++ [(i : Int)]) (lkAt g i).To (c + (lkAt g i).Cost)
/-- A path from any node, from its beginning. -/
inductive Seg (g : Grf) : Int → List Int → Int → Int → Prop
  | nil (p : Int) : Seg g p [] p 0
  | cons {p q d : Int} {ms : List Int} (i : Nat) (hi : i < g.Links.length) (hf : (lkAt g i).From = p) (h : Seg g (lkAt g i).To ms q d) : Seg g p ((i : Int) :: ms) q ((lkAt g i).Cost + d)
theorem Seg.snoc {g : Grf} {p q d : Int} {ms : List Int} (h : Seg g p ms q d) (i : Nat) (hi : i < g.Links.length) (hf : (lkAt g i).From = q) : Seg g p (ms ++ [(i : Int)]) (lkAt g i).To (d + (lkAt g i).Cost) := by
  induction h with
  | nil p =>
    have := Seg.cons (g := g) i hi hf (Seg.nil _)
    rw [Int.add_zero] at this
    rw [Int.zero_add]; exact this
  | cons j hj hjf h ih =>
    have := Seg.cons (g := g) j hj hjf (ih hf)
    rw [Int.add_assoc]; exact this
theorem Path.seg {g : Grf} {ls : List Int} {p c : Int} (h : Path g ls p c) : Seg g 0 ls p c := by
  induction h with
  | nil => exact Seg.nil 0
  | snoc i _ hi hf ih => exact ih.snoc i hi hf
theorem Seg.det {g : Grf} {p q d : Int} {ms : List Int} (h : Seg g p ms q d) : ∀ {q' d' : Int}, Seg g p ms q' d' → q' = q ∧ d' = d := by
  induction h with
  | nil p => intro q' d' h'; cases h'; exact ⟨rfl, rfl⟩
  | cons i hi hf h ih =>
    intro q' d' h'
    generalize he : ((i : Int) :: _) = l at h'
    cases h' with
    | nil => cases he
    | cons j hj hjf h2 =>
      obtain ⟨e1, e2⟩ := List.cons.inj he
      have : j = i := by omega
      subst this; subst e2
      obtain ⟨a1, a2⟩ := ih h2
      exact ⟨a1, by rw [a2]⟩
theorem Path.det {g : Grf} {ls : List Int} {p c p' c' : Int} (h : Path g ls p c) (h' : Path g ls p' c') : p' = p ∧ c' = c := h.seg.det h'.seg
/-- What goes on behind a beginning. -/
theorem Seg.split {g : Grf} : ∀ {ls ms : List Int} {p q d : Int}, Seg g p (ls ++ ms) q d → ∃ r d1 d2, Seg g p ls r d1 ∧ Seg g r ms q d2 ∧ d = d1 + d2
  | [], ms, p, q, d, h => ⟨p, 0, d, Seg.nil p, h, by omega⟩
  | l :: ls, ms, p, q, d, h => by
    rw [List.cons_append] at h
    generalize he : l :: (ls ++ ms) = z at h
    cases h with
    | nil => cases he
    | cons i hi hf h2 =>
      obtain ⟨e1, e2⟩ := List.cons.inj he
      subst e2
      obtain ⟨r, d1, d2, a1, a2, a3⟩ := Seg.split h2
      exact ⟨r, (lkAt g i).Cost + d1, d2, by rw [e1]; exact Seg.cons i hi hf a1, a2, by omega⟩
theorem fold_le {g : Grf} {h : List Int} : ∀ (ls : List Nat) (a : Int), ls.foldl (stepR g h) a ≤ a ∧ ∀ i ∈ ls, (h[(lkAt g i).To.toNat]?).getD 1152921504606846976 < 1152921504606846976 → ls.foldl (stepR g h) a ≤ (h[(lkAt g i).To.toNat]?).getD 1152921504606846976 + (lkAt g i).Cost
  | [], a => ⟨Int.le_refl _, fun i hi => by cases hi⟩
  | j :: r, a => by
    obtain ⟨h1, h2⟩ := fold_le (g := g) (h := h) r (stepR g h a j)
    have hs : stepR g h a j ≤ a := by unfold stepR; split <;> omega
    rw [List.foldl_cons]
    refine ⟨by omega, fun i hi hlt => ?_⟩
    rcases List.mem_cons.1 hi with rfl | hi
    · have : stepR g h a i ≤ (h[(lkAt g i).To.toNat]?).getD 1152921504606846976 + (lkAt g i).Cost := by unfold stepR; rw [if_pos hlt]; omega
      omega
    · exact h2 i hi hlt
theorem outTo_of {g : Grf} {i q : Nat} (hi : i < g.Links.length) (hf : (lkAt g i).From = q) : i ∈ outTo g g.Links.length q := by
  unfold outTo
  rw [List.mem_filter, List.mem_range, decide_eq_true_eq]
  exact ⟨hi, hf⟩
/-- The bound of one link. -/
theorem rest_link {g : Grf} (hg : GOk g) {h : List Int} (hl : h.length = g.N.toNat) (hr : RestFrom g g.N.toNat 0 h) {i : Nat} (hi : i < g.Links.length) {r r' : Int} (h1 : h[(lkAt g i).From.toNat]? = some r) (h2 : h[(lkAt g i).To.toNat]? = some r') : r ≤ r' + (lkAt g i).Cost := by
  have hk := hg.lk _ (lkAt_mem hi)
  have hb := hr.1 r (List.mem_of_getElem? h1)
  have hb' := hr.1 r' (List.mem_of_getElem? h2)
  obtain ⟨q, hq⟩ : ∃ q : Nat, (lkAt g i).From = q := ⟨(lkAt g i).From.toNat, by omega⟩
  have h3 := hr.2.2 q (Nat.zero_le _) (by omega)
  rw [hq, Int.toNat_natCast, h3] at h1
  by_cases hf : r' < 1152921504606846976
  · have := (fold_le (g := g) (h := h) (outTo g g.Links.length q) 1152921504606846976).2 i (outTo_of hi hq) (by rw [h2]; exact hf)
    rw [h2] at this
    have e := Option.some.inj h1
    unfold foldR at e
    rw [e] at this
    exact this
  · omega
/-- The least costs are no greater than what any path costs. -/
theorem rest_le {g : Grf} (hg : GOk g) {h : List Int} (hl : h.length = g.N.toNat) (hr : RestFrom g g.N.toNat 0 h) {p q d : Int} {ms : List Int} (hs : Seg g p ms q d) : q = g.N - 1 → ∀ r, h[p.toNat]? = some r → r ≤ d := by
  induction hs with
  | nil p =>
    intro hq r h1
    have h2 := hr.2.1
    have hn := hg.n1
    rw [hq, show (g.N - 1).toNat = g.N.toNat - 1 by omega, h2] at h1
    have := Option.some.inj h1; omega
  | cons i hi hf hseg ih =>
    intro hq r h1
    have hk := hg.lk _ (lkAt_mem hi)
    rw [← hf] at h1
    obtain ⟨r', h2⟩ : ∃ r', h[(lkAt g i).To.toNat]? = some r' := ⟨_, List.getElem?_eq_getElem (by omega)⟩
    have a1 := rest_link hg hl hr hi h1 h2
    have a2 := ih hq r' h2
    omega
end Go.Proofs.Ytgnpjhellmfhoaa

/-
  Context: package best: what holds while ways are listed (plain Lean).
-/
namespace Go.Proofs.Ytgnpjhellmfhoaa
open Go.RowKit Sy

structure POk (g : Grf) (R : List Int) (x : PartV) : Prop where
  path : Path g x.ls x.pos x.cost
  rest : ∃ r, R[x.pos.toNat]? = some r ∧ r < 1152921504606846976 ∧ x.whole = x.cost + r
def apart (s t : List Int) : Prop := ¬ s <+: t ∧ ¬ t <+: s
theorem apart_symm {s t : List Int} (h : apart s t) : apart t s := ⟨h.2, h.1⟩
structure SInv (g : Grf) (R : List Int) (H : List PartV) (A : List Cand) : Prop where
  ph : ∀ x ∈ H, POk g R x
  pa : ∀ a ∈ A, Path g a.Links (g.N - 1) a.Cost
  so : A.Pairwise fun a b => a.Cost ≤ b.Cost
  le : ∀ a ∈ A, ∀ x ∈ H, a.Cost ≤ x.whole
  an : (A.map (·.Links) ++ H.map (·.ls)).Pairwise apart
  co : ∀ ls c, Path g ls (g.N - 1) c → (∃ a ∈ A, a.Links = ls) ∨ ∃ x ∈ H, x.ls <+: ls
theorem SInv.perm {g : Grf} {R : List Int} {H H' : List PartV} {A : List Cand} (h : SInv g R H A) (hp : H.Perm H') : SInv g R H' A :=
  ⟨fun x hx => h.ph x (hp.mem_iff.2 hx), h.pa, h.so, fun a ha x hx => h.le a ha x (hp.mem_iff.2 hx),
    (List.Perm.pairwise_iff apart_symm (List.Perm.append_left _ (hp.map _))).1 h.an,
    fun ls c hc => (h.co ls c hc).imp id fun ⟨x, hx, he⟩ => ⟨x, hp.mem_iff.1 hx, he⟩⟩
theorem last_nil {g : Grf} (hg : GOk g) {ms : List Int} {q d : Int} (h : Seg g (g.N - 1) ms q d) : ms = [] := by
  cases h with
  | nil => rfl
  | cons i hi hf h2 =>
    have := hg.lk _ (lkAt_mem hi); omega
theorem seg_cost {g : Grf} (hg : GOk g) {p q d : Int} {ms : List Int} (h : Seg g p ms q d) : p ≤ q ∧ d ≤ (q - p) * 1000000 := by
  induction h with
  | nil p => omega
  | cons i hi hf h2 ih =>
    have := hg.lk _ (lkAt_mem hi); omega
theorem path_in {g : Grf} (hg : GOk g) {ls : List Int} {p c : Int} (h : Path g ls p c) : 0 ≤ p ∧ p < g.N := by
  have hn := hg.n1
  cases h with
  | nil => omega
  | snoc i h hi hf =>
    have := hg.lk _ (lkAt_mem hi); omega
/-- A part at the last node is an answer. -/
theorem SInv.take {g : Grf} (hg : GOk g) {R : List Int} (hr : RestFrom g g.N.toNat 0 R) {x : PartV} {H : List PartV} {A : List Cand} (h : SInv g R (x :: H) A) (hm : ∀ y ∈ H, x.whole ≤ y.whole) (hx : x.pos = g.N - 1) : SInv g R H (A ++ [⟨x.ls, x.cost⟩]) := by
  have hn := hg.n1
  have hpx := h.ph x (List.mem_cons_self ..)
  obtain ⟨hp, r, h1, h2, h3⟩ := hpx
  have hr0 : r = 0 := by
    have := hr.2.1
    rw [hx, show (g.N - 1).toNat = g.N.toNat - 1 by omega, this] at h1
    exact (Option.some.inj h1).symm
  rw [hx] at hp
  refine ⟨fun y hy => h.ph y (List.mem_cons_of_mem _ hy), fun a ha => ?_, ?_, fun a ha y hy => ?_, ?_, fun ls c hc => ?_⟩
  · rcases List.mem_append.1 ha with ha | ha
    · exact h.pa a ha
    · obtain rfl := List.mem_singleton.1 ha; exact hp
  · rw [List.pairwise_append]
    refine ⟨h.so, List.pairwise_singleton .., fun a ha b hb => ?_⟩
    obtain rfl := List.mem_singleton.1 hb
    have := h.le a ha x (List.mem_cons_self ..)
    simp only; omega
  · rcases List.mem_append.1 ha with ha | ha
    · exact h.le a ha y (List.mem_cons_of_mem _ hy)
    · obtain rfl := List.mem_singleton.1 ha
      have := hm y hy
      simp only; omega
  · have := h.an
    rw [List.map_append, List.append_assoc]; exact this
  · rcases h.co ls c hc with ⟨a, ha, e⟩ | ⟨y, hy, e⟩
    · exact .inl ⟨a, List.mem_append_left _ ha, e⟩
    · rcases List.mem_cons.1 hy with rfl | hy
      · obtain ⟨ms, rfl⟩ := e
        obtain ⟨q, d1, d2, s1, s2, _⟩ := Seg.split hc.seg
        obtain ⟨e1, _⟩ := hp.seg.det s1
        rw [e1] at s2
        have := last_nil hg s2
        exact .inl ⟨_, List.mem_append_right _ (List.mem_singleton.2 rfl), by rw [this, List.append_nil]⟩
      · exact .inr ⟨y, hy, e⟩
/-- A part that goes on by one link. -/
structure Kid (g : Grf) (R : List Int) (x : PartV) (i : Nat) (k : PartV) : Prop where
  ls : k.ls = x.ls ++ [(i : Int)]
  pos : k.pos = (lkAt g i).To
  cost : k.cost = x.cost + (lkAt g i).Cost
  rest : ∃ r, R[(lkAt g i).To.toNat]? = some r ∧ r < 1152921504606846976 ∧ k.whole = k.cost + r
theorem apart_kid {s t : List Int} {i : Int} (h : apart s t) : apart s (t ++ [i]) := by
  refine ⟨fun h1 => ?_, fun h1 => h.2 ((List.prefix_append t [i]).trans h1)⟩
  rcases List.prefix_concat_iff.1 h1 with h2 | h2
  · exact h.2 (by rw [h2]; exact List.prefix_append t [i])
  · exact h.1 h2
theorem apart_kids {t : List Int} {i j : Int} (h : i ≠ j) : apart (t ++ [i]) (t ++ [j]) := by
  constructor <;> intro h1
  · have := h1.eq_of_length (by simp)
    have := List.append_cancel_left this
    exact h (by simpa using this)
  · have := h1.eq_of_length (by simp)
    have := List.append_cancel_left this
    exact h (by simpa using this.symm)
/-- The parts that go on are put in the place of one. -/
theorem SInv.grow {g : Grf} (hg : GOk g) {R : List Int} (hl : R.length = g.N.toNat) (hr : RestFrom g g.N.toNat 0 R) {x : PartV} {H ks : List PartV} {A : List Cand} (h : SInv g R (x :: H) A) (hx : x.pos ≠ g.N - 1)
    (hk : ∀ k ∈ ks, ∃ i ∈ outTo g g.Links.length x.pos.toNat, Kid g R x i k) (hd : (ks.map (·.ls)).Pairwise apart)
    (hall : ∀ i ∈ outTo g g.Links.length x.pos.toNat, (∃ r, R[(lkAt g i).To.toNat]? = some r ∧ r < 1152921504606846976) → ∃ k ∈ ks, k.ls = x.ls ++ [(i : Int)]) : SInv g R (ks ++ H) A := by
  have hpx := h.ph x (List.mem_cons_self ..)
  obtain ⟨hp, r, h1, h2, h3⟩ := hpx
  have hin := path_in hg hp
  have han := h.an
  rw [List.map_cons, List.pairwise_append] at han
  obtain ⟨an1, an2, an3⟩ := han
  rw [List.pairwise_cons] at an2
  refine ⟨fun y hy => ?_, h.pa, h.so, fun a ha y hy => ?_, ?_, fun ls c hc => ?_⟩
  · rcases List.mem_append.1 hy with hy | hy
    · obtain ⟨i, hi, k1, k2, k3, k4⟩ := hk y hy
      obtain ⟨hi1, hi2⟩ := outTo_mem hi
      refine ⟨?_, by rw [k2]; exact k4⟩
      rw [k1, k2, k3]
      exact Path.snoc i hp hi1 (by rw [hi2]; omega)
    · exact h.ph y (List.mem_cons_of_mem _ hy)
  · rcases List.mem_append.1 hy with hy | hy
    · obtain ⟨i, hi, k1, k2, k3, r', k4, k5, k6⟩ := hk y hy
      obtain ⟨hi1, hi2⟩ := outTo_mem hi
      have a1 := h.le a ha x (List.mem_cons_self ..)
      have a2 := rest_link hg hl hr hi1 (by rw [hi2, Int.toNat_natCast]; exact h1) k4
      omega
    · exact h.le a ha y (List.mem_cons_of_mem _ hy)
  · rw [List.map_append, List.pairwise_append]
    refine ⟨an1, List.pairwise_append.2 ⟨hd, an2.2, fun s hs t ht => ?_⟩, fun s hs t ht => ?_⟩
    · obtain ⟨k, hk1, rfl⟩ := List.mem_map.1 hs
      obtain ⟨i, _, kk⟩ := hk k hk1
      rw [kk.ls]
      exact apart_symm (apart_kid (apart_symm (an2.1 t ht)))
    · rcases List.mem_append.1 ht with ht | ht
      · obtain ⟨k, hk1, rfl⟩ := List.mem_map.1 ht
        obtain ⟨i, _, kk⟩ := hk k hk1
        rw [kk.ls]
        exact apart_kid (an3 s hs x.ls (List.mem_cons_self ..))
      · exact an3 s hs t (List.mem_cons_of_mem _ ht)
  · rcases h.co ls c hc with he | ⟨y, hy, e⟩
    · exact .inl he
    · rcases List.mem_cons.1 hy with rfl | hy
      · obtain ⟨ms, rfl⟩ := e
        obtain ⟨q, d1, d2, s1, s2, _⟩ := Seg.split hc.seg
        obtain ⟨e1, _⟩ := hp.seg.det s1
        rw [e1] at s2
        generalize hz : g.N - 1 = z at s2
        cases s2 with
        | nil => exact absurd hz.symm hx
        | cons i hi hf s3 =>
          have hk3 := hg.lk _ (lkAt_mem hi)
          obtain ⟨r', hr'⟩ : ∃ r', R[(lkAt g i).To.toNat]? = some r' := ⟨_, List.getElem?_eq_getElem (by omega)⟩
          have b1 := rest_le hg hl hr s3 hz.symm r' hr'
          have b2 := seg_cost hg s3
          have hn2 := hg.n2
          obtain ⟨k, hk1, hk2⟩ := hall i (outTo_of hi (by rw [hf]; omega)) ⟨r', hr', by omega⟩
          exact .inr ⟨k, List.mem_append_left _ hk1, by rw [hk2]; exact ⟨_, by rw [List.append_assoc]; rfl⟩⟩
      · exact .inr ⟨y, List.mem_append_right _ hy, e⟩
end Go.Proofs.Ytgnpjhellmfhoaa

/-
  Context: package best: how many parts can come out of one (plain Lean).
-/
namespace Go.Proofs.Ytgnpjhellmfhoaa
open Go.RowKit Sy

def wt (g : Grf) : Nat → Nat → Nat
  | 0, _ => 1
  | f + 1, q => 1 + ((outTo g g.Links.length q).map fun (i : Nat) => wt g f (lkAt g i).To.toNat).sum
theorem sum_mono {α : Type} {F G : α → Nat} : ∀ {l : List α}, (∀ x ∈ l, F x ≤ G x) → (l.map F).sum ≤ (l.map G).sum
  | [], _ => Nat.le_refl _
  | x :: r, h => by
    have h1 := h x (List.mem_cons_self ..)
    have h2 := sum_mono (l := r) fun y hy => h y (List.mem_cons_of_mem _ hy)
    simp only [List.map_cons, List.sum_cons]; omega
theorem wt_pos (g : Grf) (f q : Nat) : 1 ≤ wt g f q := by
  cases f with
  | zero => exact Nat.le_refl _
  | succ f => rw [wt]; omega
theorem wt_mono (g : Grf) : ∀ (f f' q : Nat), f ≤ f' → wt g f q ≤ wt g f' q
  | 0, f', q, _ => by
    have := wt_pos g f' q
    rw [wt]; exact this
  | f + 1, 0, q, h => by omega
  | f + 1, f' + 1, q, h => by
    rw [wt, wt]
    have := sum_mono (l := outTo g g.Links.length q) (F := fun (i : Nat) => wt g f (lkAt g i).To.toNat) (G := fun (i : Nat) => wt g f' (lkAt g i).To.toNat) fun (i : Nat) _ => wt_mono g f f' _ (by omega)
    omega
/-- How many parts can come out of a part at a node, itself with them. -/
def W (g : Grf) (q : Nat) : Nat := wt g (g.N.toNat - q) q
theorem W_pos (g : Grf) (q : Nat) : 1 ≤ W g q := wt_pos g _ q
theorem W_links {g : Grf} (hg : GOk g) {q : Nat} (hq : q < g.N.toNat) : 1 + ((outTo g g.Links.length q).map fun (i : Nat) => W g (lkAt g i).To.toNat).sum ≤ W g q := by
  unfold W
  obtain ⟨f, hf⟩ : ∃ f, g.N.toNat - q = f + 1 := ⟨g.N.toNat - q - 1, by omega⟩
  rw [hf, wt]
  have := sum_mono (l := outTo g g.Links.length q) (F := fun (i : Nat) => wt g (g.N.toNat - (lkAt g i).To.toNat) (lkAt g i).To.toNat) (G := fun (i : Nat) => wt g f (lkAt g i).To.toNat) fun (i : Nat) hi => wt_mono g _ f _ (by have := hg.to hi; omega)
  omega
def wsH (g : Grf) (H : List PartV) : Nat := (H.map fun x => W g x.pos.toNat).sum
theorem wsH_perm {g : Grf} {H H' : List PartV} (h : H.Perm H') : wsH g H = wsH g H' := (h.map _).sum_nat
theorem wsH_cons (g : Grf) (x : PartV) (H : List PartV) : wsH g (x :: H) = W g x.pos.toNat + wsH g H := by unfold wsH; rw [List.map_cons, List.sum_cons]
theorem wsH_append (g : Grf) (H H' : List PartV) : wsH g (H ++ H') = wsH g H + wsH g H' := by unfold wsH; rw [List.map_append, List.sum_append_nat]
theorem wsH_len (g : Grf) : ∀ H : List PartV, H.length ≤ wsH g H
  | [] => Nat.le_refl _
  | x :: H => by
    have := wsH_len g H
    have h2 := W_pos g x.pos.toNat
    rw [wsH_cons, List.length_cons]; omega
end Go.Proofs.Ytgnpjhellmfhoaa

/-
  Context: the walks of the statement's small functions: equal graphs, building, labels.
-/
namespace Go.Proofs.Ytgnpjhellmfhoaa
open Go.RowKit Sy

set_option maxRecDepth 100000 in
theorem linkEq (a b : Link) (w : World) : (Op.equal 66 (linkV a) (linkV b)).run Try.prog w = .ok (decide (a = b)) w := by
  have h := eqStruct (P := Try.prog) (xs := #[.int .i64 a.From, .int .i64 a.To, .int .i64 a.Label, .int .i64 a.Cost]) (ys := #[.int .i64 b.From, .int .i64 b.To, .int .i64 b.Label, .int .i64 b.Cost]) Try.underlying66 (by kernel_rfl) (eqF_int rfl ti3 rfl rfl (eqF_int rfl ti3 rfl rfl (eqF_int rfl ti3 rfl rfl (eqF_int rfl ti3 rfl rfl eqF_nil)))) w
  rw [h]; congr 1
  obtain ⟨a1, a2, a3, a4⟩ := a
  obtain ⟨c1, c2, c3, c4⟩ := b
  rw [Bool.eq_iff_iff]; simp
def sameG (a b : Grf) : Bool := decide (a.N = b.N ∧ a.Links = b.Links)
set_option maxRecDepth 100000 in
theorem sameG_c (a b : Grf) (ada adb : Option Addr) (ca cb : Nat) (μ : Mem) (w : World) (hμ : Imm μ w) (ha0 : Sl μ ada ca a.Links) (hb0 : Sl μ adb cb b.Links) :
    Calls Try.prog 42 #[.agg #[.int .i64 a.N, .slice ada a.Links.length ca], .agg #[.int .i64 b.N, .slice adb b.Links.length cb]] w (RetS w (.bool (sameG a b))) := by
  have hal := ha0.1
  have hac := ha0.2.1
  simp only [maxLen] at hac
  have hS := St.start w μ hμ
  refine calls_start 38 [.agg #[.int .i64 a.N, .slice ada a.Links.length ca], .agg #[.int .i64 b.N, .slice adb b.Links.length cb]] Try.func42 rfl Try.ntmps42 rfl rfl ?_
  refine CW.seq fun K1 hK1 => ?_
  refine CW.region [0, 1, 2] rfl ?_
  refine LW.hv rfl rfl rfl rfl (Hv.boxS hS rfl rfl) fun v w2 ⟨b2, hv, hb2, hS⟩ => ?_
  subst hv
  refine LW.hv rfl rfl rfl rfl (Hv.boxS hS rfl rfl) fun v w3 ⟨b3, hv, hb3, hS⟩ => ?_
  subst hv
  refine LW.ex rfl rfl rfl rfl (Ex.assign rfl) hS.rd ?_
  refine LW.nil fun aa ha => hK1 _ _ _ ?_ aa ha
  refine CW.seq fun K2 hK2 => ?_
  refine CW.seq fun K3 hK3 => ?_
  refine CW.region [0, 1, 2, 3, 4, 5, 6, 7, 8, 9, 10, 11, 12, 13] rfl ?_
  refine LW.ex rfl rfl rfl rfl (Ex.fieldO 0 Try.underlying46 rfl rfl ti3 rfl) hS.rd ?_
  refine LW.ex rfl rfl rfl rfl (Ex.load1 ti3 rfl rfl (by first | exact obT rfl | exact Rd.imm ‹_› | exact slT ‹_›)) hS.rd ?_
  refine LW.ex rfl rfl rfl rfl (Ex.fieldO 0 Try.underlying46 rfl rfl ti3 rfl) hS.rd ?_
  refine LW.ex rfl rfl rfl rfl (Ex.load1 ti3 rfl rfl (by first | exact obT rfl | exact Rd.imm ‹_› | exact slT ‹_›)) hS.rd ?_
  refine LW.ex rfl rfl rfl rfl (Ex.neq rfl rfl rfl) hS.rd ?_
  refine LW.splitB (fun h1_4 => ?_) (fun h1_4 => ?_)
  · have h1_4 := of_decide_eq_true h1_4
    refine LW.ex rfl rfl rfl rfl (Ex.move rfl) hS.rd ?_
    refine LW.skip rfl rfl rfl rfl ?_
    refine LW.skip rfl rfl rfl rfl ?_
    refine LW.skip rfl rfl rfl rfl ?_
    refine LW.skip rfl rfl rfl rfl ?_
    refine LW.skip rfl rfl rfl rfl ?_
    refine LW.skip rfl rfl rfl rfl ?_
    refine LW.skip rfl rfl rfl rfl ?_
    refine LW.ex rfl rfl rfl rfl (by first | exact Ex.pick_yes rfl rfl | exact Ex.pick_no rfl rfl) hS.rd ?_
    refine LW.nil fun aa ha => hK3 _ _ _ ?_ aa ha
    refine CW.yes rfl ?_
    refine CW.seq fun K4 hK4 => ?_
    refine CW.region [0] rfl ?_
    refine LW.ex rfl rfl rfl rfl (Ex.assign rfl) hS.rd ?_
    refine LW.nil fun aa ha => hK4 _ _ _ ?_ aa ha
    refine CW.ret fun aa ha => ?_
    refine ret_one ha Try.results42 rfl ?_
    exact hS.retB (by unfold sameG; rw [decide_eq_false]; intro h; exact h1_4 h.1)
  · have h1_4 := of_decide_eq_false h1_4
    refine LW.ex rfl rfl rfl rfl (Ex.move rfl) hS.rd ?_
    refine LW.ex rfl rfl rfl rfl (Ex.fieldO 1 Try.underlying46 rfl rfl ti44 rfl) hS.rd ?_
    refine LW.ex rfl rfl rfl rfl (Ex.load1 ti44 rfl rfl (by first | exact obT rfl | exact Rd.imm ‹_› | exact slT ‹_›)) hS.rd ?_
    refine LW.ex rfl rfl rfl rfl (Ex.lenSl rfl Try.underlying44 rfl) hS.rd ?_
    refine LW.ex rfl rfl rfl rfl (Ex.fieldO 1 Try.underlying46 rfl rfl ti44 rfl) hS.rd ?_
    refine LW.ex rfl rfl rfl rfl (Ex.load1 ti44 rfl rfl (by first | exact obT rfl | exact Rd.imm ‹_› | exact slT ‹_›)) hS.rd ?_
    refine LW.ex rfl rfl rfl rfl (Ex.lenSl rfl Try.underlying44 rfl) hS.rd ?_
    refine LW.ex rfl rfl rfl rfl (Ex.neq rfl rfl rfl) hS.rd ?_
    refine LW.splitB (fun h1_12 => ?_) (fun h1_12 => ?_)
    · have h1_12 := of_decide_eq_true h1_12
      refine LW.ex rfl rfl rfl rfl (by first | exact Ex.pick_yes rfl rfl | exact Ex.pick_no rfl rfl) hS.rd ?_
      refine LW.nil fun aa ha => hK3 _ _ _ ?_ aa ha
      refine CW.yes rfl ?_
      refine CW.seq fun K5 hK5 => ?_
      refine CW.region [0] rfl ?_
      refine LW.ex rfl rfl rfl rfl (Ex.assign rfl) hS.rd ?_
      refine LW.nil fun aa ha => hK5 _ _ _ ?_ aa ha
      refine CW.ret fun aa ha => ?_
      refine ret_one ha Try.results42 rfl ?_
      exact hS.retB (by unfold sameG; rw [decide_eq_false]; intro h; rw [h.2] at h1_12; exact h1_12 rfl)
    · have h1_12 := of_decide_eq_false h1_12
      refine LW.ex rfl rfl rfl rfl (by first | exact Ex.pick_yes rfl rfl | exact Ex.pick_no rfl rfl) hS.rd ?_
      refine LW.nil fun aa ha => hK3 _ _ _ ?_ aa ha
      refine CW.no rfl ?_
      refine CW.skip fun aa ha => hK2 _ _ _ ?_ aa ha
      refine CW.seq fun K6 hK6 => ?_
      refine CW.seq fun K7 hK7 => ?_
      refine CW.region [0] rfl ?_
      refine LW.ex rfl rfl rfl rfl (Ex.assign rfl) hS.rd ?_
      refine LW.nil fun aa ha => hK7 _ _ _ ?_ aa ha
      refine CW.block ?_
      refine CW.loop (fun qq frm wl4 => ∃ (i : Nat), i ≤ a.Links.length ∧ qq = a.Links.length - i ∧ frm = [(2, .pointer (some ⟨b2, 0, none⟩)), (3, .pointer (some ⟨b3, 0, none⟩)), (5, .int .i64 i)] ∧ St w wl4 μ [Own.obj b3 [.int .i64 b.N, .slice adb b.Links.length cb] 46, Own.obj b2 [.int .i64 a.N, .slice ada a.Links.length ca] 46] ∧ (a.Links.take i = b.Links.take i)) _ ⟨0, (by first | omega | (simp; done) | (simp; omega)), rfl, rfl, hS, rfl⟩ ⟨rfl, rfl, rfl, trivial⟩ ?_
      clear hS
      rintro qq frm wl4 ⟨i, hi, hq, rfl, hS, he⟩
      refine CW.seq fun K8 hK8 => ?_
      refine CW.seq fun K9 hK9 => ?_
      refine CW.region [0, 1, 2, 3, 4] rfl ?_
      refine LW.ex rfl rfl rfl rfl (Ex.move rfl) hS.rd ?_
      refine LW.ex rfl rfl rfl rfl (Ex.fieldO 1 Try.underlying46 rfl rfl ti44 rfl) hS.rd ?_
      refine LW.ex rfl rfl rfl rfl (Ex.load1 ti44 rfl rfl (by first | exact obT rfl | exact Rd.imm ‹_› | exact slT ‹_›)) hS.rd ?_
      refine LW.ex rfl rfl rfl rfl (Ex.lenSl rfl Try.underlying44 rfl) hS.rd ?_
      refine LW.ex rfl rfl rfl rfl (Ex.lss rfl rfl rfl) hS.rd ?_
      refine LW.splitB (fun h4_4 => ?_) (fun h4_4 => ?_)
      · have h4_4 := of_decide_eq_true h4_4
        refine LW.nil fun aa ha => hK9 _ _ _ ?_ aa ha
        refine CW.yes rfl ?_
        refine CW.skip fun aa ha => hK8 _ _ _ ?_ aa ha
        refine CW.seq fun K10 hK10 => ?_
        refine CW.block ?_
        refine CW.seq fun K11 hK11 => ?_
        have hi2 : i < a.Links.length := by omega
        have hi3 : i < b.Links.length := by omega
        obtain ⟨bl', ol, rfl, k0, k1, k2, k3⟩ := ha0.at hi2
        obtain ⟨bl2, ol2, rfl, j0, j1, j2, j3⟩ := hb0.at hi3
        have hS := hS.drew
        refine CW.draw 11 (.ex 0 <| .ex 1 <| .ex 2 <| .ex 3 <| .ex 4 <| .ex 5 <| .ex 6 <| .ex 7 <| .ex 8 <| .ex 9 <| .ex 10 <| .done) [] (Rd _ _) mixed (by kernel_rfl) rfl rfl hS.rd ?_
        refine PW.ex rfl rfl rfl rfl (Ex.fieldO 1 Try.underlying46 rfl rfl ti44 rfl) ?_
        refine PW.ex rfl rfl rfl rfl (Ex.load1 ti44 rfl rfl (by first | exact obT rfl | exact Rd.imm ‹_› | exact slT ‹_›)) ?_
        refine PW.ex rfl rfl rfl rfl (Ex.move rfl) ?_
        refine PW.ex rfl rfl rfl rfl (Ex.indexSl Try.underlying44 ti66 rfl rfl rfl (by omega)) ?_
        refine PW.ex rfl rfl rfl rfl (Ex.load4c ti66 rfl rfl (by first | exact obT rfl | exact Rd.imm ‹_› | exact slT ‹_›) (by first | exact obT rfl | exact Rd.imm ‹_› | exact slT ‹_›) (by first | exact obT rfl | exact Rd.imm ‹_› | exact slT ‹_›) (by first | exact obT rfl | exact Rd.imm ‹_› | exact slT ‹_›)) ?_
        refine PW.ex rfl rfl rfl rfl (Ex.fieldO 1 Try.underlying46 rfl rfl ti44 rfl) ?_
        refine PW.ex rfl rfl rfl rfl (Ex.load1 ti44 rfl rfl (by first | exact obT rfl | exact Rd.imm ‹_› | exact slT ‹_›)) ?_
        refine PW.ex rfl rfl rfl rfl (Ex.move rfl) ?_
        refine PW.ex rfl rfl rfl rfl (Ex.indexSl Try.underlying44 ti66 rfl rfl rfl (by omega)) ?_
        refine PW.ex rfl rfl rfl rfl (Ex.load4c ti66 rfl rfl (by first | exact obT rfl | exact Rd.imm ‹_› | exact slT ‹_›) (by first | exact obT rfl | exact Rd.imm ‹_› | exact slT ‹_›) (by first | exact obT rfl | exact Rd.imm ‹_› | exact slT ‹_›) (by first | exact obT rfl | exact Rd.imm ‹_› | exact slT ‹_›)) ?_
        refine PW.ex rfl rfl rfl rfl (Ex.neqSt (by kernel_rfl) rfl rfl (linkEq a.Links[i] b.Links[i])) ?_
        refine PW.splitB (fun h6_10 => ?_) (fun h6_10 => ?_)
        · have h6_10 : a.Links[i] ≠ b.Links[i] := by simpa using h6_10
          refine PW.nil ?_
          refine LW.nil fun aa ha => hK11 _ _ _ ?_ aa ha
          refine CW.yes rfl ?_
          refine CW.seq fun K12 hK12 => ?_
          refine CW.region [0] rfl ?_
          refine LW.ex rfl rfl rfl rfl (Ex.assign rfl) hS.rd ?_
          refine LW.nil fun aa ha => hK12 _ _ _ ?_ aa ha
          refine CW.ret fun aa ha => ?_
          refine ret_one ha Try.results42 rfl ?_
          exact hS.retB (by unfold sameG; rw [decide_eq_false]; rintro ⟨_, h⟩; apply h6_10; simp only [h])
        · have h6_10 : a.Links[i] = b.Links[i] := by simpa using h6_10
          refine PW.nil ?_
          refine LW.nil fun aa ha => hK11 _ _ _ ?_ aa ha
          refine CW.no rfl ?_
          refine CW.skip fun aa ha => hK10 _ _ _ ?_ aa ha
          refine CW.region [0, 1, 2] rfl ?_
          refine LW.ex rfl rfl rfl rfl (Ex.move rfl) hS.rd ?_
          refine LW.ex rfl rfl rfl rfl (Ex.add rfl rfl (by first | exact inc64 (by omega) | exact addN (by omega) | exact w64 (by omega) (by omega))) hS.rd ?_
          refine LW.ex rfl rfl rfl rfl (Ex.assign rfl) hS.rd ?_
          refine LW.nil fun aa ha => ?_
          refine ⟨_, _, ?m4, ⟨i + 1, (by first | omega | (simp; done) | (simp; omega)), rfl, rfl, hS, by rw [List.take_succ_eq_append_getElem hi2, List.take_succ_eq_append_getElem hi3, he, h6_10]⟩, ha.sub ⟨rfl, rfl, rfl, trivial⟩⟩
          case m4 => omega
      · have h4_4 := of_decide_eq_false h4_4
        refine LW.nil fun aa ha => hK9 _ _ _ ?_ aa ha
        refine CW.no rfl ?_
        refine CW.exit fun aa ha => hK6 _ _ _ ?_ aa ha
        refine CW.seq fun K13 hK13 => ?_
        refine CW.region [0] rfl ?_
        refine LW.ex rfl rfl rfl rfl (Ex.assign rfl) hS.rd ?_
        refine LW.nil fun aa ha => hK13 _ _ _ ?_ aa ha
        refine CW.ret fun aa ha => ?_
        refine ret_one ha Try.results42 rfl ?_
        exact hS.retB (by unfold sameG; rw [decide_eq_true]; refine ⟨by omega, ?_⟩; have h1 : i = a.Links.length := (by omega); have h2 : a.Links.length = b.Links.length := (by omega); rw [h1, List.take_length, h2, List.take_length] at he; exact he)
def sameB (a b : Built) : Bool := sameG a.G b.G && decide (a.Last = b.Last) && decide (a.E = b.E)
set_option maxRecDepth 100000 in
theorem sameB_c (a b : Built) (p0 p1 p2 p3 : Option Addr) (q0 q1 q2 q3 : Nat) (μ : Mem) (w : World) (hμ : Imm μ w) (ha0 : Sl μ p0 q0 a.G.Links) (ha1 : Sl μ p1 q1 a.Last) (hb0 : Sl μ p2 q2 b.G.Links) (hb1 : Sl μ p3 q3 b.Last) :
    Calls Try.prog 17 #[.agg #[.int .i64 a.G.N, .slice p0 a.G.Links.length q0, .slice p1 a.Last.length q1, .int .i64 a.E], .agg #[.int .i64 b.G.N, .slice p2 b.G.Links.length q2, .slice p3 b.Last.length q3, .int .i64 b.E]] w (RetS w (.bool (sameB a b))) := by
  have hS := St.start w μ hμ
  refine calls_start 24 [.agg #[.int .i64 a.G.N, .slice p0 a.G.Links.length q0, .slice p1 a.Last.length q1, .int .i64 a.E], .agg #[.int .i64 b.G.N, .slice p2 b.G.Links.length q2, .slice p3 b.Last.length q3, .int .i64 b.E]] Try.func17 rfl Try.ntmps17 rfl rfl ?_
  refine CW.seq fun K14 hK14 => ?_
  refine CW.region [0, 1, 2] rfl ?_
  refine LW.hv rfl rfl rfl rfl (Hv.boxS hS rfl rfl) fun v w2 ⟨b2, hv, hb2, hS⟩ => ?_
  subst hv
  refine LW.hv rfl rfl rfl rfl (Hv.boxS hS rfl rfl) fun v w3 ⟨b3, hv, hb3, hS⟩ => ?_
  subst hv
  refine LW.ex rfl rfl rfl rfl (Ex.assign rfl) hS.rd ?_
  refine LW.nil fun aa ha => hK14 _ _ _ ?_ aa ha
  refine CW.seq fun K15 hK15 => ?_
  refine CW.region [0, 1, 2, 3, 4, 5, 6, 7, 8, 9, 10, 11, 12, 13, 14, 15, 16, 17, 18, 19] rfl ?_
  refine LW.ex rfl rfl rfl rfl (Ex.fieldO 0 Try.underlying49 rfl rfl ti46 rfl) hS.rd ?_
  refine LW.ex rfl rfl rfl rfl (Ex.load2c ti46 rfl rfl (by first | exact obT rfl | exact Rd.imm ‹_› | exact slT ‹_›) (by first | exact obT rfl | exact Rd.imm ‹_› | exact slT ‹_›)) hS.rd ?_
  refine LW.ex rfl rfl rfl rfl (Ex.fieldO 0 Try.underlying49 rfl rfl ti46 rfl) hS.rd ?_
  refine LW.ex rfl rfl rfl rfl (Ex.load2c ti46 rfl rfl (by first | exact obT rfl | exact Rd.imm ‹_› | exact slT ‹_›) (by first | exact obT rfl | exact Rd.imm ‹_› | exact slT ‹_›)) hS.rd ?_
  refine LW.hv rfl rfl rfl rfl (Hv.callS hS rfl rfl rfl cb42 (sameG_c a.G b.G _ _ _ _ μ _ hS.imm ha0 hb0)) fun v w9 ⟨hv, hS⟩ => ?_
  subst hv
  refine LW.splitB (fun h1_4 => ?_) (fun h1_4 => ?_)
  · skip
    refine LW.ex rfl rfl rfl rfl (Ex.move rfl) hS.rd ?_
    refine LW.ex rfl rfl rfl rfl (Ex.fieldO 2 Try.underlying49 rfl rfl ti31 rfl) hS.rd ?_
    refine LW.ex rfl rfl rfl rfl (Ex.load1 ti31 rfl rfl (by first | exact obT rfl | exact Rd.imm ‹_› | exact slT ‹_›)) hS.rd ?_
    refine LW.ex rfl rfl rfl rfl (Ex.fieldO 2 Try.underlying49 rfl rfl ti31 rfl) hS.rd ?_
    refine LW.ex rfl rfl rfl rfl (Ex.load1 ti31 rfl rfl (by first | exact obT rfl | exact Rd.imm ‹_› | exact slT ‹_›)) hS.rd ?_
    refine LW.hv rfl rfl rfl rfl (Hv.callS hS rfl rfl rfl cb18 (ints_c a.Last b.Last _ _ _ _ μ _ hS.imm ha1 hb1)) fun v w15 ⟨hv, hS⟩ => ?_
    subst hv
    refine LW.splitB (fun h1_10 => ?_) (fun h1_10 => ?_)
    · skip
      refine LW.ex rfl rfl rfl rfl (by first | exact Ex.pick_yes rfl rfl | exact Ex.pick_no rfl rfl) hS.rd ?_
      refine LW.ex rfl rfl rfl rfl (Ex.move rfl) hS.rd ?_
      refine LW.ex rfl rfl rfl rfl (Ex.fieldO 3 Try.underlying49 rfl rfl ti47 rfl) hS.rd ?_
      refine LW.ex rfl rfl rfl rfl (Ex.load1 ti47 rfl rfl (by first | exact obT rfl | exact Rd.imm ‹_› | exact slT ‹_›)) hS.rd ?_
      refine LW.ex rfl rfl rfl rfl (Ex.fieldO 3 Try.underlying49 rfl rfl ti47 rfl) hS.rd ?_
      refine LW.ex rfl rfl rfl rfl (Ex.load1 ti47 rfl rfl (by first | exact obT rfl | exact Rd.imm ‹_› | exact slT ‹_›)) hS.rd ?_
      refine LW.ex rfl rfl rfl rfl (Ex.eql rfl rfl (by first | exact decide_eq_true (by omega) | exact decide_eq_false (by omega) | rfl)) hS.rd ?_
      refine LW.ex rfl rfl rfl rfl (by first | exact Ex.pick_yes rfl rfl | exact Ex.pick_no rfl rfl) hS.rd ?_
      refine LW.ex rfl rfl rfl rfl (Ex.assign rfl) hS.rd ?_
      refine LW.nil fun aa ha => hK15 _ _ _ ?_ aa ha
      refine CW.ret fun aa ha => ?_
      refine ret_one ha Try.results17 rfl ?_
      refine hS.retB ?_
      unfold sameB
      simp_all
    · skip
      refine LW.ex rfl rfl rfl rfl (by first | exact Ex.pick_yes rfl rfl | exact Ex.pick_no rfl rfl) hS.rd ?_
      refine LW.ex rfl rfl rfl rfl (Ex.move rfl) hS.rd ?_
      refine LW.skip rfl rfl rfl rfl ?_
      refine LW.skip rfl rfl rfl rfl ?_
      refine LW.skip rfl rfl rfl rfl ?_
      refine LW.skip rfl rfl rfl rfl ?_
      refine LW.skip rfl rfl rfl rfl ?_
      refine LW.ex rfl rfl rfl rfl (by first | exact Ex.pick_yes rfl rfl | exact Ex.pick_no rfl rfl) hS.rd ?_
      refine LW.ex rfl rfl rfl rfl (Ex.assign rfl) hS.rd ?_
      refine LW.nil fun aa ha => hK15 _ _ _ ?_ aa ha
      refine CW.ret fun aa ha => ?_
      refine ret_one ha Try.results17 rfl ?_
      refine hS.retB ?_
      unfold sameB
      simp_all
  · skip
    refine LW.ex rfl rfl rfl rfl (Ex.move rfl) hS.rd ?_
    refine LW.skip rfl rfl rfl rfl ?_
    refine LW.skip rfl rfl rfl rfl ?_
    refine LW.skip rfl rfl rfl rfl ?_
    refine LW.skip rfl rfl rfl rfl ?_
    refine LW.skip rfl rfl rfl rfl ?_
    refine LW.ex rfl rfl rfl rfl (by first | exact Ex.pick_yes rfl rfl | exact Ex.pick_no rfl rfl) hS.rd ?_
    refine LW.ex rfl rfl rfl rfl (Ex.move rfl) hS.rd ?_
    refine LW.skip rfl rfl rfl rfl ?_
    refine LW.skip rfl rfl rfl rfl ?_
    refine LW.skip rfl rfl rfl rfl ?_
    refine LW.skip rfl rfl rfl rfl ?_
    refine LW.skip rfl rfl rfl rfl ?_
    refine LW.ex rfl rfl rfl rfl (by first | exact Ex.pick_yes rfl rfl | exact Ex.pick_no rfl rfl) hS.rd ?_
    refine LW.ex rfl rfl rfl rfl (Ex.assign rfl) hS.rd ?_
    refine LW.nil fun aa ha => hK15 _ _ _ ?_ aa ha
    refine CW.ret fun aa ha => ?_
    refine ret_one ha Try.results17 rfl ?_
    refine hS.retB ?_
    unfold sameB
    simp_all
theorem sameB_self (a : Built) : sameB a a = true := by unfold sameB sameG; simp
set_option maxRecDepth 100000 in
theorem lbuild_c (x : Lat) (m : Mdl) (p : Int) (hws : ∀ s ∈ m.Words, s.size ≤ 9223372036854775807) (hsm : ∀ e ∈ x.Edges, -1099511627776 ≤ e.To ∧ e.To ≤ 1099511627776) (hE : x.Edges.length ≤ 100)
    (a0 a1 a2 a3 : Option Addr) (c0 c1 c2 c3 : Nat) (μ : Mem) (w : World) (hμ : Imm μ w) (hxl : Sl μ a3 c3 x.Edges) (hm0 : Sl μ a0 c0 m.Words) (hm1 : Sl μ a1 c1 m.Counts) (hm2 : Sl μ a2 c2 m.Pairs) :
    Calls Try.prog 13 #[.agg #[.int .i64 x.N, .slice a3 x.Edges.length c3], .agg #[.slice a0 m.Words.length c0, .slice a1 m.Counts.length c1, .slice a2 m.Pairs.length c2, .int .i64 m.Back], .int .i64 p] w (RetV w μ (IsBuiltA (buildR x m p))) := by
  have hS := St.start w μ hμ
  refine calls_start 22 [.agg #[.int .i64 x.N, .slice a3 x.Edges.length c3], .agg #[.slice a0 m.Words.length c0, .slice a1 m.Counts.length c1, .slice a2 m.Pairs.length c2, .int .i64 m.Back], .int .i64 p] Try.func13 rfl Try.ntmps13 rfl rfl ?_
  refine CW.seq fun K16 hK16 => ?_
  refine CW.region [0, 1, 2] rfl ?_
  refine LW.hv rfl rfl rfl rfl (Hv.boxS hS rfl rfl) fun v w3 ⟨b3, hv, hb3, hS⟩ => ?_
  subst hv
  refine LW.hv rfl rfl rfl rfl (Hv.boxS hS rfl rfl) fun v w4 ⟨b4, hv, hb4, hS⟩ => ?_
  subst hv
  refine LW.hv rfl rfl rfl rfl (Hv.alloc ti49 hS) fun v w6 ⟨b6, hv, hb6, hS⟩ => ?_
  subst hv
  refine LW.nil fun aa ha => hK16 _ _ _ ?_ aa ha
  refine CW.seq fun K17 hK17 => ?_
  have hsz := hS.below.size
  refine CW.region [0, 1, 2, 3, 4, 5, 6, 7, 8, 9, 10, 11] rfl ?_
  refine LW.ex rfl rfl rfl rfl (Ex.load2c ti38 rfl rfl (by first | exact obT rfl | exact Rd.imm ‹_› | exact slT ‹_›) (by first | exact obT rfl | exact Rd.imm ‹_› | exact slT ‹_›)) hS.rd ?_
  refine LW.ex rfl rfl rfl rfl (Ex.load4c ti34 rfl rfl (by first | exact obT rfl | exact Rd.imm ‹_› | exact slT ‹_›) (by first | exact obT rfl | exact Rd.imm ‹_› | exact slT ‹_›) (by first | exact obT rfl | exact Rd.imm ‹_› | exact slT ‹_›) (by first | exact obT rfl | exact Rd.imm ‹_› | exact slT ‹_›)) hS.rd ?_
  refine LW.ex rfl rfl rfl rfl (Ex.move rfl) hS.rd ?_
  refine LW.hv rfl rfl rfl rfl (Hv.callV hS rfl rfl rfl cb33 (build_c x m p hws hsm hE _ _ _ _ _ _ _ _ μ _ hS.imm hxl hm0 hm1 hm2)) fun v w14 ⟨μ14, hv14, hm14, hS⟩ => ?_
  obtain ⟨adl, cl, adt, ct, hv, hsl, hst⟩ := hv14
  subst hv
  refine LW.ex rfl rfl rfl rfl (Ex.move rfl) hS.rd ?_
  refine LW.ex rfl rfl rfl rfl (Ex.extract rfl rfl) hS.rd ?_
  refine LW.ex rfl rfl rfl rfl (Ex.extract rfl rfl) hS.rd ?_
  refine LW.ex rfl rfl rfl rfl (Ex.extract rfl rfl) hS.rd ?_
  refine LW.hv rfl rfl rfl rfl (Hv.alloc ti46 hS) fun v w7 ⟨b7, hv, hb7, hS⟩ => ?_
  subst hv
  refine LW.hu rfl rfl rfl (Hv.storeN (k := 0) ti46 hS rfl rfl rfl rfl (by simp [Value.oneCell'])) fun _ w_9 hS => ?_
  dsimp only [List.set] at hS
  refine LW.ex rfl rfl rfl rfl (Ex.assign rfl) hS.rd ?_
  refine LW.ex rfl rfl rfl rfl (Ex.assign rfl) hS.rd ?_
  refine LW.nil fun aa ha => hK17 _ _ _ ?_ aa ha
  refine CW.seq fun K18 hK18 => ?_
  refine CW.region [0, 1, 2, 3, 4] rfl ?_
  refine LW.ex rfl rfl rfl rfl (Ex.load2c ti46 rfl rfl (by first | exact obT rfl | exact Rd.imm ‹_› | exact slT ‹_›) (by first | exact obT rfl | exact Rd.imm ‹_› | exact slT ‹_›)) hS.rd ?_
  refine LW.ex rfl rfl rfl rfl (Ex.move rfl) hS.rd ?_
  refine LW.ex rfl rfl rfl rfl (Ex.move rfl) hS.rd ?_
  refine LW.ex rfl rfl rfl rfl (Ex.buildS st49 rfl rfl rfl) hS.rd ?_
  refine LW.hu rfl rfl rfl (Hv.storeN (k := 1) ti49 hS rfl rfl rfl rfl (by simp [Value.oneCell'])) fun _ w_4 hS => ?_
  dsimp only [List.set] at hS
  refine LW.nil fun aa ha => hK18 _ _ _ ?_ aa ha
  refine CW.ret fun aa ha => ?_
  refine ret_cell ha Try.results13 rfl ti49 rfl (fun j v hv => Rd.objAll (k := 1) rfl hS.rd j v hv) ?_
  exact ⟨_, μ14, rfl, hS.below, hm14.mono hsz, hS.imm, adl, cl, adt, ct, rfl, hsl, hst⟩

/-! ### The fixed examples -/
def x0 : Lat := ⟨2, [⟨0, 1, 1, 0⟩, ⟨0, 2, 0, 2⟩, ⟨1, 2, 2, 1⟩]⟩
def xE : Lat := ⟨0, []⟩
def xB : Lat := ⟨41, []⟩
def m0 : Mdl := ⟨[⟨#[67]⟩, ⟨#[97]⟩, ⟨#[98]⟩], [0, 0, 0], [], 0⟩
def mE : Mdl := ⟨[], [], [], 0⟩
def bW : Built := ⟨⟨3, [⟨0, 1, 0, 12⟩, ⟨0, 2, 1, 14⟩, ⟨1, 2, 2, 13⟩]⟩, [-1, 1, -1], 0⟩
theorem m0_ok : MdlOk m0 := ⟨by decide, by decide, by decide, by decide, by decide, by decide, by decide, List.Pairwise.nil, (fun p hp => by cases hp), (fun a => by show (0 : Int) ≤ _; decide), by decide, by decide⟩
theorem mE_no : okM mE = false := okM_no fun h => by have := h.n1; revert this; decide
theorem nodes0 : nodesL x0 3 (-1) = [⟨0, -1⟩, ⟨1, 1⟩, ⟨2, -1⟩] := by decide +kernel
theorem nodesE : nodesL xE 3 2 = [⟨0, 2⟩] := by decide +kernel
theorem fits0 : fitsC x0 3 (-1) = true := by decide +kernel
theorem fitsE : fitsC xE 3 2 = true := by decide +kernel
theorem bW_eq : buildR x0 m0 (-1) = bW := by
  unfold buildR
  rw [if_pos (okM_yes m0_ok), if_pos (show fitsC x0 m0.Words.length (-1) = true from fits0)]
  unfold graphR
  rw [show m0.Words.length = 3 from rfl, nodes0]
  have h : linksTo x0 m0 [⟨0, -1⟩, ⟨1, 1⟩, ⟨2, -1⟩] [(⟨0, -1⟩ : I2), ⟨1, 1⟩, ⟨2, -1⟩].length = [⟨0, 1, 0, 12⟩, ⟨0, 2, 1, 14⟩, ⟨1, 2, 2, 13⟩] := by decide +kernel
  rw [h]; rfl
theorem bE_eq : buildR xE m0 2 = ⟨⟨1, []⟩, [2], 0⟩ := by
  unfold buildR
  rw [if_pos (okM_yes m0_ok), if_pos (show fitsC xE m0.Words.length 2 = true from fitsE)]
  unfold graphR
  rw [show m0.Words.length = 3 from rfl, nodesE]
  have h : linksTo xE m0 [⟨0, 2⟩] [(⟨0, 2⟩ : I2)].length = [] := by decide +kernel
  rw [h]; rfl
theorem b3_eq : buildR x0 m0 3 = ⟨⟨0, []⟩, [], 1⟩ := by
  unfold buildR
  rw [if_pos (okM_yes m0_ok), if_neg (by decide +kernel)]
theorem bM_eq : buildR x0 mE (-1) = ⟨⟨0, []⟩, [], 110⟩ := by
  unfold buildR
  rw [if_neg (by rw [mE_no]; decide)]
theorem bB_eq : buildR xB m0 (-1) = ⟨⟨0, []⟩, [], 1⟩ := by
  unfold buildR
  rw [if_pos (okM_yes m0_ok), if_neg (by decide +kernel)]
theorem cost_of {x : Lat} {p : Int} {es : List Int} {r : Int × Bool} (hf : fitsC x 3 p = true) (h : costGo x m0 0 p 0 es = r) : costR x m0 p es = r := by
  unfold costR; rw [if_pos (okM_yes m0_ok), if_pos (show fitsC x m0.Words.length p = true from hf), h]
theorem c0_eq : costR x0 m0 (-1) [0, 2] = (25, true) := cost_of fits0 (by decide +kernel)
theorem c1_eq : costR x0 m0 (-1) [1] = (14, true) := cost_of fits0 (by decide +kernel)
theorem c2_eq : costR x0 m0 (-1) [0] = (0, false) := cost_of fits0 (by decide +kernel)
theorem c3_eq : costR xE m0 2 [] = (0, true) := cost_of fitsE (by decide +kernel)
theorem m0_words : ∀ s ∈ m0.Words, s.size ≤ 9223372036854775807 := by decide
theorem x0_small : ∀ e ∈ x0.Edges, -1099511627776 ≤ e.To ∧ e.To ≤ 1099511627776 := by decide
theorem lb0_c (b3 : Nat) (a0 a1 : Option Addr) (c0 c1 : Nat) (μ : Mem) (w : World) (hμ : Imm μ w) (hx : Sl μ (some ⟨b3, 0, none⟩) 3 x0.Edges) (hm0 : Sl μ a0 c0 m0.Words) (hm1 : Sl μ a1 c1 m0.Counts) :
    Calls Try.prog 13 #[.agg #[.int .i64 2, .slice (some ⟨b3, 0, none⟩) 3 3], .agg #[.slice a0 3 c0, .slice a1 3 c1, .slice none 0 0, .int .i64 0], .int .i64 (-1)] w (RetV w μ (IsBuiltA bW)) := by
  rw [← bW_eq]
  exact lbuild_c x0 m0 (-1) m0_words x0_small (by decide) a0 a1 none (some ⟨b3, 0, none⟩) c0 c1 0 3 μ w hμ hx hm0 hm1 (Sl.nil _ _ _ (by simp [maxLen]))
theorem lbE_c (b3 : Nat) (a0 a1 : Option Addr) (c0 c1 : Nat) (μ : Mem) (w : World) (hμ : Imm μ w)  (hm0 : Sl μ a0 c0 m0.Words) (hm1 : Sl μ a1 c1 m0.Counts) :
    Calls Try.prog 13 #[.agg #[.int .i64 0, .slice none 0 0], .agg #[.slice a0 3 c0, .slice a1 3 c1, .slice none 0 0, .int .i64 0], .int .i64 2] w (RetV w μ (IsBuiltA ⟨⟨1, []⟩, [2], 0⟩)) := by
  rw [← bE_eq]
  exact lbuild_c xE m0 2 m0_words (fun e he => by cases he) (by decide) a0 a1 none none c0 c1 0 0 μ w hμ (Sl.nil _ _ _ (by simp [maxLen])) hm0 hm1 (Sl.nil _ _ _ (by simp [maxLen]))
theorem lb3_c (b3 : Nat) (a0 a1 : Option Addr) (c0 c1 : Nat) (μ : Mem) (w : World) (hμ : Imm μ w) (hx : Sl μ (some ⟨b3, 0, none⟩) 3 x0.Edges) (hm0 : Sl μ a0 c0 m0.Words) (hm1 : Sl μ a1 c1 m0.Counts) :
    Calls Try.prog 13 #[.agg #[.int .i64 2, .slice (some ⟨b3, 0, none⟩) 3 3], .agg #[.slice a0 3 c0, .slice a1 3 c1, .slice none 0 0, .int .i64 0], .int .i64 3] w (RetV w μ (IsBuiltA ⟨⟨0, []⟩, [], 1⟩)) := by
  rw [← b3_eq]
  exact lbuild_c x0 m0 3 m0_words x0_small (by decide) a0 a1 none (some ⟨b3, 0, none⟩) c0 c1 0 3 μ w hμ hx hm0 hm1 (Sl.nil _ _ _ (by simp [maxLen]))
theorem lbB_c (b3 : Nat) (a0 a1 : Option Addr) (c0 c1 : Nat) (μ : Mem) (w : World) (hμ : Imm μ w)  (hm0 : Sl μ a0 c0 m0.Words) (hm1 : Sl μ a1 c1 m0.Counts) :
    Calls Try.prog 13 #[.agg #[.int .i64 41, .slice none 0 0], .agg #[.slice a0 3 c0, .slice a1 3 c1, .slice none 0 0, .int .i64 0], .int .i64 (-1)] w (RetV w μ (IsBuiltA ⟨⟨0, []⟩, [], 1⟩)) := by
  rw [← bB_eq]
  exact lbuild_c xB m0 (-1) m0_words (fun e he => by cases he) (by decide) a0 a1 none none c0 c1 0 0 μ w hμ (Sl.nil _ _ _ (by simp [maxLen])) hm0 hm1 (Sl.nil _ _ _ (by simp [maxLen]))
theorem lbM_c (b3 : Nat) (μ : Mem) (w : World) (hμ : Imm μ w) (hx : Sl μ (some ⟨b3, 0, none⟩) 3 x0.Edges) :
    Calls Try.prog 13 #[.agg #[.int .i64 2, .slice (some ⟨b3, 0, none⟩) 3 3], .agg #[.slice none 0 0, .slice none 0 0, .slice none 0 0, .int .i64 0], .int .i64 (-1)] w (RetV w μ (IsBuiltA ⟨⟨0, []⟩, [], 110⟩)) := by
  rw [← bM_eq]
  exact lbuild_c x0 mE (-1) (fun s hs => by cases hs) x0_small (by decide) none none none (some ⟨b3, 0, none⟩) 0 0 0 3 μ w hμ hx (Sl.nil _ _ _ (by simp [maxLen])) (Sl.nil _ _ _ (by simp [maxLen])) (Sl.nil _ _ _ (by simp [maxLen]))
end Go.Proofs.Ytgnpjhellmfhoaa

/-
  Context: the walks of the reference's making of models: words, sorted lists of words, pairs.
-/
namespace Go.Proofs.Ytgnpjhellmfhoaa
open Go.RowKit Sy


/-! ### Words -/
def ab6 : ByteArray := ⟨#[97, 98, 99, 65, 66, 49]⟩
def pieceR (c : UInt8) : ByteArray := ab6.extract (c.toNat % 6) (c.toNat % 6 + 1)
def wordTo (l : List UInt8) : ByteArray := l.foldl (fun o c => o ++ pieceR c) ⟨#[]⟩
def wordR (l : List UInt8) : ByteArray := if (wordTo (l.take 3) == ⟨#[]⟩) = true then ⟨#[97]⟩ else wordTo (l.take 3)
theorem piece_bl (c : UInt8) : ∃ b : UInt8, bl (pieceR c) = [b] ∧ 1 ≤ classN b ∧ classN b ≤ 3 := by
  have h : c.toNat % 6 < 6 := Nat.mod_lt _ (by decide)
  unfold pieceR
  generalize c.toNat % 6 = r at h
  match r, h with
  | 0, _ => exact ⟨97, rfl, by decide, by decide⟩
  | 1, _ => exact ⟨98, rfl, by decide, by decide⟩
  | 2, _ => exact ⟨99, rfl, by decide, by decide⟩
  | 3, _ => exact ⟨65, rfl, by decide, by decide⟩
  | 4, _ => exact ⟨66, rfl, by decide, by decide⟩
  | 5, _ => exact ⟨49, rfl, by decide, by decide⟩
theorem bl_append (s u : ByteArray) : bl (s ++ u) = bl s ++ bl u := by simp [bl]
theorem wordTo_snoc (l : List UInt8) (c : UInt8) : wordTo (l ++ [c]) = wordTo l ++ pieceR c := by unfold wordTo; rw [List.foldl_append]; rfl
theorem wordTo_bl : ∀ (n : Nat) (l : List UInt8), l.length = n → (bl (wordTo l)).length = n ∧ ∀ b ∈ bl (wordTo l), 1 ≤ classN b ∧ classN b ≤ 3
  | 0, l, h => by
    obtain rfl := List.eq_nil_of_length_eq_zero h
    exact ⟨rfl, fun b hb => by cases hb⟩
  | n + 1, l, h => by
    obtain ⟨l', c, rfl⟩ : ∃ l' c, l = l' ++ [c] := ⟨l.dropLast, l.getLast (by intro e; subst e; simp at h), (List.dropLast_concat_getLast (by intro e; subst e; simp at h)).symm⟩
    obtain ⟨ih1, ih2⟩ := wordTo_bl n l' (by simpa using h)
    obtain ⟨b, hb, hb1, hb2⟩ := piece_bl c
    rw [wordTo_snoc, bl_append, hb]
    refine ⟨by simp [ih1], fun d hd => ?_⟩
    rcases List.mem_append.1 hd with hd | hd
    · exact ih2 d hd
    · obtain rfl := List.mem_singleton.1 hd; exact ⟨hb1, hb2⟩
theorem wordOk_of {s : ByteArray} (h1 : 1 ≤ (bl s).length) (h2 : (bl s).length ≤ 20) (h3 : ∀ b ∈ bl s, 1 ≤ classN b ∧ classN b ≤ 3) : wordOk s = true := by
  rw [bl_len] at h1 h2
  unfold wordOk allC
  rw [decide_eq_true h1, decide_eq_true h2, List.all_eq_true.2 fun b hb => by
    have := h3 b hb
    simp only [Bool.and_eq_true, Bool.not_eq_true', decide_eq_false_iff_not, decide_eq_true_eq]; omega]
  rfl
theorem wordR_ok (l : List UInt8) : wordOk (wordR l) = true ∧ (wordR l).size ≤ 3 := by
  unfold wordR
  split
  · exact ⟨wordOk_of (by decide) (by decide) (by decide), by decide⟩
  · rename_i h
    obtain ⟨h1, h2⟩ := wordTo_bl _ (l.take 3) rfl
    have h3 : (l.take 3).length ≤ 3 := by rw [List.length_take]; omega
    refine ⟨wordOk_of ?_ (by omega) h2, by rw [← bl_len]; omega⟩
    rcases Nat.lt_or_ge 0 (bl (wordTo (l.take 3))).length with h4 | h4
    · exact h4
    · exfalso; apply h
      rw [bl_eq, decide_eq_true_eq]
      exact List.eq_nil_of_length_eq_zero (by omega)
theorem rem6 {a : Nat} : ((a : Int)).tmod 6 = ((a % 6 : Nat) : Int) := by rw [Int.tmod_eq_emod_of_nonneg (by omega)]; omega
set_option maxRecDepth 100000 in
theorem mword_c (l : List UInt8) (ad : Option Addr) (c : Nat) (μ : Mem) (w : World) (hμ : Imm μ w) (hl : Sl μ ad c l) :
    Calls Try.prog 29 #[.slice ad l.length c] w (RetS w (.string (wordR l))) := by
  have hll := hl.1
  have hlc := hl.2.1
  simp only [maxLen] at hlc
  have hS := St.start w μ hμ
  refine calls_start 32 [.slice ad l.length c] Try.func29 rfl Try.ntmps29 rfl rfl ?_
  refine CW.seq fun K1 hK1 => ?_
  refine CW.region [0] rfl ?_
  refine LW.ex rfl rfl rfl rfl (Ex.assign rfl) hS.rd ?_
  refine LW.nil fun aa ha => hK1 _ _ _ ?_ aa ha
  refine CW.seq fun K2 hK2 => ?_
  refine CW.region [0] rfl ?_
  refine LW.ex rfl rfl rfl rfl (Ex.assign rfl) hS.rd ?_
  refine LW.nil fun aa ha => hK2 _ _ _ ?_ aa ha
  refine CW.seq fun K3 hK3 => ?_
  refine CW.seq fun K4 hK4 => ?_
  refine CW.region [0] rfl ?_
  refine LW.ex rfl rfl rfl rfl (Ex.assign rfl) hS.rd ?_
  refine LW.nil fun aa ha => hK4 _ _ _ ?_ aa ha
  refine CW.block ?_
  refine CW.loop (fun qq frm wl3 => ∃ (i : Nat), i ≤ l.length ∧ i ≤ 3 ∧ qq = 3 - i ∧ frm = [(0, .slice ad l.length c), (3, .string (wordTo (l.take i))), (4, .int .i64 i)] ∧ St w wl3 μ []) _ ⟨0, (by first | omega | (simp; done) | (simp; omega)), (by first | omega | (simp; done) | (simp; omega)), rfl, rfl, hS⟩ ⟨rfl, rfl, rfl, trivial⟩ ?_
  clear hS
  rintro qq frm wl3 ⟨i, hi, hi3, hq, rfl, hS⟩
  refine CW.seq fun K5 hK5 => ?_
  refine CW.seq fun K6 hK6 => ?_
  refine CW.region [0, 1, 2, 3, 4, 5, 6, 7] rfl ?_
  refine LW.ex rfl rfl rfl rfl (Ex.move rfl) hS.rd ?_
  refine LW.ex rfl rfl rfl rfl (Ex.move rfl) hS.rd ?_
  refine LW.ex rfl rfl rfl rfl (Ex.lenSl rfl Try.underlying24 rfl) hS.rd ?_
  refine LW.ex rfl rfl rfl rfl (Ex.lss rfl rfl rfl) hS.rd ?_
  refine LW.splitB (fun h3_3 => ?_) (fun h3_3 => ?_)
  · have h3_3 := of_decide_eq_true h3_3
    refine LW.ex rfl rfl rfl rfl (Ex.move rfl) hS.rd ?_
    refine LW.ex rfl rfl rfl rfl (Ex.move rfl) hS.rd ?_
    refine LW.ex rfl rfl rfl rfl (Ex.lss rfl rfl rfl) hS.rd ?_
    refine LW.splitB (fun h3_6 => ?_) (fun h3_6 => ?_)
    · have h3_6 := of_decide_eq_true h3_6
      refine LW.ex rfl rfl rfl rfl (by first | exact Ex.pick_yes rfl rfl | exact Ex.pick_no rfl rfl) hS.rd ?_
      refine LW.nil fun aa ha => hK6 _ _ _ ?_ aa ha
      refine CW.yes rfl ?_
      refine CW.skip fun aa ha => hK5 _ _ _ ?_ aa ha
      refine CW.seq fun K7 hK7 => ?_
      refine CW.block ?_
      have hi2 : i < l.length := by omega
      obtain ⟨bl', ol, rfl, k0⟩ := hl.at hi2
      have hr6 : l[i].toNat % 6 < 6 := Nat.mod_lt _ (by decide)
      have hp1 : (pieceR l[i]).size = 1 := by obtain ⟨b, hb, _⟩ := piece_bl l[i]; rw [← bl_len, hb]; rfl
      have hw1 := (wordTo_bl _ (l.take i) rfl).1
      rw [bl_len, List.length_take] at hw1
      have hsn := wordTo_snoc (l.take i) l[i]
      rw [← List.take_succ_eq_append_getElem hi2] at hsn
      have hS := hS.drew
      refine CW.draw 15 (.ex 0 <| .ex 1 <| .ex 2 <| .ex 3 <| .ex 4 <| .ex 5 <| .ex 6 <| .ex 7 <| .ex 8 <| .ex 9 <| .ex 10 <| .ex 11 <| .ex 12 <| .ex 13 <| .ex 14 <| .done) [] (Rd _ _) mixed (by kernel_rfl) rfl rfl hS.rd ?_
      refine PW.ex rfl rfl rfl rfl (Ex.move rfl) ?_
      refine PW.ex rfl rfl rfl rfl (Ex.move rfl) ?_
      refine PW.ex rfl rfl rfl rfl (Ex.move rfl) ?_
      refine PW.ex rfl rfl rfl rfl (Ex.indexSl Try.underlying24 ti5 rfl rfl rfl (by omega)) ?_
      refine PW.ex rfl rfl rfl rfl (Ex.load1 ti5 rfl rfl (by first | exact obT rfl | exact Rd.imm ‹_› | exact slT ‹_›)) ?_
      refine PW.ex rfl rfl rfl rfl (Ex.rem (r := ((l[i].toNat % 6 : Nat) : Int)) rfl rfl (by omega) rem6) ?_
      refine PW.ex rfl rfl rfl rfl (Ex.move rfl) ?_
      refine PW.ex rfl rfl rfl rfl (Ex.move rfl) ?_
      refine PW.ex rfl rfl rfl rfl (Ex.indexSl Try.underlying24 ti5 rfl rfl rfl (by omega)) ?_
      refine PW.ex rfl rfl rfl rfl (Ex.load1 ti5 rfl rfl (by first | exact obT rfl | exact Rd.imm ‹_› | exact slT ‹_›)) ?_
      refine PW.ex rfl rfl rfl rfl (Ex.rem (r := ((l[i].toNat % 6 : Nat) : Int)) rfl rfl (by omega) rem6) ?_
      refine PW.ex rfl rfl rfl rfl (Ex.add (r := ((l[i].toNat % 6 + 1 : Nat) : Int)) rfl rfl (by rw [wu8 (by omega) (by omega)]; omega)) ?_
      refine PW.ex rfl rfl rfl rfl (Ex.sliceStr (s := ab6) (i := l[i].toNat % 6) (j := l[i].toNat % 6 + 1) Try.underlying9 rfl rfl rfl rfl rfl (by omega) (by show _ ≤ 6; omega)) ?_
      refine PW.ex rfl rfl rfl rfl (Ex.addS (s := wordTo (l.take i)) (u := pieceR l[i]) rfl rfl (by omega)) ?_
      refine PW.ex rfl rfl rfl rfl (Ex.assign rfl) ?_
      refine PW.nil ?_
      refine LW.nil fun aa ha => hK7 _ _ _ ?_ aa ha
      refine CW.region [0, 1, 2] rfl ?_
      refine LW.ex rfl rfl rfl rfl (Ex.move rfl) hS.rd ?_
      refine LW.ex rfl rfl rfl rfl (Ex.add rfl rfl (by first | exact inc64 (by omega) | exact addN (by omega) | exact w64 (by omega) (by omega))) hS.rd ?_
      refine LW.ex rfl rfl rfl rfl (Ex.assign rfl) hS.rd ?_
      refine LW.nil fun aa ha => ?_
      rw [← hsn] at ha
      refine ⟨_, _, ?m3, ⟨i + 1, (by first | omega | (simp; done) | (simp; omega)), (by first | omega | (simp; done) | (simp; omega)), rfl, rfl, hS⟩, ha.sub ⟨rfl, rfl, rfl, trivial⟩⟩
      case m3 => omega
    · have h3_6 := of_decide_eq_false h3_6
      refine LW.ex rfl rfl rfl rfl (by first | exact Ex.pick_yes rfl rfl | exact Ex.pick_no rfl rfl) hS.rd ?_
      refine LW.nil fun aa ha => hK6 _ _ _ ?_ aa ha
      refine CW.no rfl ?_
      refine CW.exit fun aa ha => hK3 _ _ _ ?_ aa ha
      refine CW.seq fun K8 hK8 => ?_
      refine CW.seq fun K9 hK9 => ?_
      have htk : l.take i = l.take 3 := by
        by_cases h : i = 3
        · rw [h]
        · rw [List.take_of_length_le (by omega), List.take_of_length_le (by omega)]
      refine CW.region [0, 1] rfl ?_
      refine LW.ex rfl rfl rfl rfl (Ex.move rfl) hS.rd ?_
      refine LW.ex rfl rfl rfl rfl (Ex.eqlS (b := wordTo (l.take i) == ⟨#[]⟩) rfl rfl rfl) hS.rd ?_
      refine LW.splitB (fun h6_1 => ?_) (fun h6_1 => ?_)
      · skip
        refine LW.nil fun aa ha => hK9 _ _ _ ?_ aa ha
        refine CW.yes rfl ?_
        refine CW.seq fun K10 hK10 => ?_
        refine CW.region [0] rfl ?_
        refine LW.ex rfl rfl rfl rfl (Ex.assign rfl) hS.rd ?_
        refine LW.nil fun aa ha => hK10 _ _ _ ?_ aa ha
        refine CW.ret fun aa ha => ?_
        refine ret_one ha Try.results29 rfl ?_
        have e : wordR l = ⟨#[97]⟩ := by unfold wordR; rw [← htk, if_pos h6_1]
        rw [e]; exact hS.retS
      · skip
        refine LW.nil fun aa ha => hK9 _ _ _ ?_ aa ha
        refine CW.no rfl ?_
        refine CW.skip fun aa ha => hK8 _ _ _ ?_ aa ha
        refine CW.seq fun K11 hK11 => ?_
        refine CW.region [0, 1] rfl ?_
        refine LW.ex rfl rfl rfl rfl (Ex.move rfl) hS.rd ?_
        refine LW.ex rfl rfl rfl rfl (Ex.assign rfl) hS.rd ?_
        refine LW.nil fun aa ha => hK11 _ _ _ ?_ aa ha
        refine CW.ret fun aa ha => ?_
        refine ret_one ha Try.results29 rfl ?_
        have e : wordR l = wordTo (l.take i) := by unfold wordR; rw [← htk, if_neg (by rw [h6_1]; decide)]
        rw [e]; exact hS.retS
  · have h3_3 := of_decide_eq_false h3_3
    refine LW.ex rfl rfl rfl rfl (Ex.move rfl) hS.rd ?_
    refine LW.skip rfl rfl rfl rfl ?_
    refine LW.skip rfl rfl rfl rfl ?_
    refine LW.ex rfl rfl rfl rfl (by first | exact Ex.pick_yes rfl rfl | exact Ex.pick_no rfl rfl) hS.rd ?_
    refine LW.nil fun aa ha => hK6 _ _ _ ?_ aa ha
    refine CW.no rfl ?_
    refine CW.exit fun aa ha => hK3 _ _ _ ?_ aa ha
    refine CW.seq fun K12 hK12 => ?_
    refine CW.seq fun K13 hK13 => ?_
    have htk : l.take i = l.take 3 := by
      by_cases h : i = 3
      · rw [h]
      · rw [List.take_of_length_le (by omega), List.take_of_length_le (by omega)]
    refine CW.region [0, 1] rfl ?_
    refine LW.ex rfl rfl rfl rfl (Ex.move rfl) hS.rd ?_
    refine LW.ex rfl rfl rfl rfl (Ex.eqlS (b := wordTo (l.take i) == ⟨#[]⟩) rfl rfl rfl) hS.rd ?_
    refine LW.splitB (fun h6_1 => ?_) (fun h6_1 => ?_)
    · skip
      refine LW.nil fun aa ha => hK13 _ _ _ ?_ aa ha
      refine CW.yes rfl ?_
      refine CW.seq fun K14 hK14 => ?_
      refine CW.region [0] rfl ?_
      refine LW.ex rfl rfl rfl rfl (Ex.assign rfl) hS.rd ?_
      refine LW.nil fun aa ha => hK14 _ _ _ ?_ aa ha
      refine CW.ret fun aa ha => ?_
      refine ret_one ha Try.results29 rfl ?_
      have e : wordR l = ⟨#[97]⟩ := by unfold wordR; rw [← htk, if_pos h6_1]
      rw [e]; exact hS.retS
    · skip
      refine LW.nil fun aa ha => hK13 _ _ _ ?_ aa ha
      refine CW.no rfl ?_
      refine CW.skip fun aa ha => hK12 _ _ _ ?_ aa ha
      refine CW.seq fun K15 hK15 => ?_
      refine CW.region [0, 1] rfl ?_
      refine LW.ex rfl rfl rfl rfl (Ex.move rfl) hS.rd ?_
      refine LW.ex rfl rfl rfl rfl (Ex.assign rfl) hS.rd ?_
      refine LW.nil fun aa ha => hK15 _ _ _ ?_ aa ha
      refine CW.ret fun aa ha => ?_
      refine ret_one ha Try.results29 rfl ?_
      have e : wordR l = wordTo (l.take i) := by unfold wordR; rw [← htk, if_neg (by rw [h6_1]; decide)]
      rw [e]; exact hS.retS
end Go.Proofs.Ytgnpjhellmfhoaa

/-
  Putting an element into a sorted list: the form of the references' loops.
-/
namespace Go.Proofs.Ytgnpjhellmfhoaa

section
variable {α : Type} (lt eq : α → Bool) (upd : α → α) (s : α)
def insG : Bool → List α → List α
  | d, [] => if d = true then [] else [s]
  | d, q :: r => (if (!d && lt q) = true then [s] else []) ++ (if eq q = true then upd q else q) :: insG ((d || lt q) || eq q) r
def ins : List α → List α
  | [] => [s]
  | q :: r => if lt q = true then s :: q :: r else if eq q = true then upd q :: r else q :: ins r
variable {lt eq upd s} {R : α → α → Prop}
theorem insG_true (h3 : ∀ z, lt z = true → eq z = false) : ∀ {L : List α}, (∀ q ∈ L, lt q = true) → insG lt eq upd s true L = L
  | [], _ => rfl
  | q :: r, h => by
    have hq := h q (List.mem_cons_self ..)
    rw [insG, h3 q hq]
    simp [insG_true h3 (fun z hz => h z (List.mem_cons_of_mem _ hz))]
theorem insG_ins (h1 : ∀ q z, lt q = true → R q z → lt z = true) (h2 : ∀ q z, eq q = true → R q z → lt z = true) (h3 : ∀ z, lt z = true → eq z = false) : ∀ {L : List α}, L.Pairwise R → insG lt eq upd s false L = ins lt eq upd s L
  | [], _ => rfl
  | q :: r, h => by
    have h' := List.pairwise_cons.1 h
    rw [insG, ins]
    by_cases hl : lt q = true
    · rw [if_pos hl, hl, h3 q hl]
      simp [insG_true h3 (fun z hz => h1 q z hl (h'.1 z hz))]
    · rw [if_neg hl]
      by_cases he : eq q = true
      · rw [if_pos he]
        simp [hl, he, insG_true h3 (fun z hz => h2 q z he (h'.1 z hz))]
      · rw [if_neg he]
        have hl' : lt q = false := by simpa using hl
        have he' : eq q = false := by simpa using he
        simp [hl', he', insG_ins h1 h2 h3 h'.2]
theorem ins_mem {y : α} : ∀ {L : List α}, y ∈ ins lt eq upd s L → y = s ∨ y ∈ L ∨ ∃ z ∈ L, eq z = true ∧ y = upd z
  | [], h => by simp [ins] at h; exact .inl h
  | q :: r, h => by
    rw [ins] at h
    split at h
    · rcases List.mem_cons.1 h with h | h
      · exact .inl h
      · exact .inr (.inl h)
    · split at h
      · rename_i he
        rcases List.mem_cons.1 h with h | h
        · exact .inr (.inr ⟨q, List.mem_cons_self .., he, h⟩)
        · exact .inr (.inl (List.mem_cons_of_mem _ h))
      · rcases List.mem_cons.1 h with h | h
        · exact .inr (.inl (by rw [h]; exact List.mem_cons_self ..))
        · rcases ins_mem h with h | h | ⟨z, hz, he, hy⟩
          · exact .inl h
          · exact .inr (.inl (List.mem_cons_of_mem _ h))
          · exact .inr (.inr ⟨z, List.mem_cons_of_mem _ hz, he, hy⟩)
theorem ins_sortedM (h1 : ∀ q, lt q = true → R s q) (h3 : ∀ q z, eq z = true → R q z → R q (upd z)) (h4 : ∀ q z, eq q = true → R q z → R (upd q) z) (ht : ∀ a b c, R a b → R b c → R a c) : ∀ {L : List α}, (∀ q ∈ L, lt q = false → eq q = false → R q s) → L.Pairwise R → (ins lt eq upd s L).Pairwise R
  | [], _, _ => by simp [ins]
  | q :: r, h2, h => by
    have h' := List.pairwise_cons.1 h
    rw [ins]
    split
    · rename_i hl
      exact List.pairwise_cons.2 ⟨fun z hz => by
        rcases List.mem_cons.1 hz with rfl | hz
        · exact h1 _ hl
        · exact ht _ _ _ (h1 _ hl) (h'.1 z hz), h⟩
    · rename_i hl
      split
      · rename_i he
        exact List.pairwise_cons.2 ⟨fun z hz => h4 q z he (h'.1 z hz), h'.2⟩
      · rename_i he
        refine List.pairwise_cons.2 ⟨fun z hz => ?_, ins_sortedM h1 h3 h4 ht (fun z hz => h2 z (List.mem_cons_of_mem _ hz)) h'.2⟩
        rcases ins_mem hz with rfl | hz | ⟨y, hy, hye, rfl⟩
        · exact h2 q (List.mem_cons_self ..) (by simpa using hl) (by simpa using he)
        · exact h'.1 z hz
        · exact h3 q y hye (h'.1 y hy)
theorem ins_sorted (h1 : ∀ q, lt q = true → R s q) (h2 : ∀ q, lt q = false → eq q = false → R q s) (h3 : ∀ q z, eq z = true → R q z → R q (upd z)) (h4 : ∀ q z, eq q = true → R q z → R (upd q) z) (ht : ∀ a b c, R a b → R b c → R a c) {L : List α} (h : L.Pairwise R) : (ins lt eq upd s L).Pairwise R :=
  ins_sortedM h1 h3 h4 ht (fun q _ => h2 q) h
theorem ins_len : ∀ {L : List α}, L.length ≤ (ins lt eq upd s L).length ∧ (ins lt eq upd s L).length ≤ L.length + 1
  | [] => by simp [ins]
  | q :: r => by
    have ih := ins_len (L := r)
    rw [ins]
    split
    · simp
    · split
      · simp
      · simp; omega
theorem ins_has {x : α} (hx : eq x = false) : ∀ {L : List α}, x ∈ L → x ∈ ins lt eq upd s L
  | [], h => by cases h
  | q :: r, h => by
    rw [ins]
    split
    · exact List.mem_cons_of_mem _ h
    · split
      · rename_i he
        rcases List.mem_cons.1 h with rfl | h
        · rw [hx] at he; cases he
        · exact List.mem_cons_of_mem _ h
      · rcases List.mem_cons.1 h with rfl | h
        · exact List.mem_cons_self ..
        · exact List.mem_cons_of_mem _ (ins_has hx h)
end
end Go.Proofs.Ytgnpjhellmfhoaa
