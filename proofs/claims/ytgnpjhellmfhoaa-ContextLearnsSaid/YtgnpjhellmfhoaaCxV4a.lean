/-
  Context: the walk of the reference's Learn.
-/
import Derived.Test.YtgnpjhellmfhoaaCxP4
namespace Go.Proofs.Ytgnpjhellmfhoaa
open Go.RowKit Sy
theorem intWhole (μ : Mem) (f : Nat → Option Value) (x : Int) (h : El.rep μ f x) : ∃ vs : List Value, vs.length = El.sz Int ∧ (∀ j u, vs[j]? = some u → f j = some u) ∧ El.rep μ (fun j => vs[j]?) x ∧ ∀ u ∈ vs, u.oneCell' = true :=
  ⟨[.int .i64 x], rfl, fun j u hu => by
    match j, hu with
    | 0, hu => cases hu; exact h, rfl, fun u hu => by
    obtain rfl := List.mem_singleton.1 hu; rfl⟩
theorem repl_ints_eq {μ : Mem} {us : List Value} {xs : List Int} (h : RepL μ us xs) : us = xs.map fun z => Value.int .i64 z := by
  obtain ⟨h1, h2⟩ := h
  have h1' : us.length = xs.length := by rw [h1]; show _ * 1 = _; omega
  refine List.ext_getElem (by rw [List.length_map]; exact h1') fun i hi hj => ?_
  have hi2 : i < xs.length := by omega
  have := h2 i hi2
  have e : (if 0 < 1 then us[i * 1 + 0]? else none) = some (Value.int .i64 xs[i]) := this
  rw [if_pos (by omega)] at e
  rw [Nat.mul_one, Nat.add_zero, List.getElem?_eq_getElem hi] at e
  rw [List.getElem_map]; exact Option.some.inj e
theorem rvalid_l (m : Mdl) (b : Int) (a : Nat) (c : Int) (hok : MdlOk (learnR m b a c)) (hws : ∀ s ∈ m.Words, s.size ≤ 9223372036854775807) (a0 a1 a2 : Option Addr) (c0 c1 c2 : Nat) (μ : Mem) (w : World) (hμ : Imm μ w) (hm0 : Sl μ a0 c0 m.Words) (hm1 : Sl μ a1 c1 (learnR m b a c).Counts) (hm2 : Sl μ a2 c2 (learnR m b a c).Pairs) :
    Calls Try.prog 34 #[.agg #[.slice a0 m.Words.length c0, .slice a1 (learnR m b a c).Counts.length c1, .slice a2 (learnR m b a c).Pairs.length c2, .int .i64 m.Back]] w (RetS w (.bool true)) := by
  have h := rvalid_c (learnR m b a c) hws hok.nSmall a0 a1 a2 c0 c1 c2 μ w hμ hm0 hm1 hm2
  rw [okM_yes hok] at h
  exact h
def IsLearn (m : Mdl) (a0 : Option Addr) (c0 : Nat) (m' : Mdl) (μ : Mem) (v : Value) : Prop := ∃ a1 c1 a2 c2, v = .tuple #[.agg #[.slice a0 m.Words.length c0, .slice a1 m'.Counts.length c1, .slice a2 m'.Pairs.length c2, .int .i64 m.Back], .int .i64 0] ∧ Sl μ a1 c1 m'.Counts ∧ Sl μ a2 c2 m'.Pairs
set_option maxRecDepth 100000 in
set_option maxHeartbeats 2000000 in
theorem learn_c (m : Mdl) (b : Int) (a : Nat) (c : Int) (hm : MdlOk m) (hr : Room m) (hws : ∀ s ∈ m.Words, s.size ≤ 9223372036854775807) (hb0 : -1 ≤ b) (hb : b < m.Words.length) (ha : a < m.Words.length) (hc : 1 ≤ c ∧ c ≤ 256)
    (a0 a1 a2 : Option Addr) (c0 c1 c2 : Nat) (μ : Mem) (w : World) (hμ : Imm μ w) (hm0 : Sl μ a0 c0 m.Words) (hm1 : Sl μ a1 c1 m.Counts) (hm2 : Sl μ a2 c2 m.Pairs) :
    Calls Try.prog 23 #[.agg #[.slice a0 m.Words.length c0, .slice a1 m.Counts.length c1, .slice a2 m.Pairs.length c2, .int .i64 m.Back], .agg #[.int .i64 b, .int .i64 a, .int .i64 c]] w (RetV w μ (IsLearn m a0 c0 (learnR m b a c))) := by
  obtain ⟨r1, r2, r3, r4⟩ := hr
  have hL := learn_ok hm ⟨r1, r2, r3, r4⟩ hb ha hc
  have hnc := hm.nc
  have hn1 := hm.n1
  have hac : a < m.Counts.length := by omega
  have hcv := hm.c0 _ (List.getElem_mem hac)
  have hcs := (le_sum hm.c0 (List.getElem_mem hac)).1
  have hi1 : inR (a : Int) 0 ((m.Words.length : Int) - 1) = true := by unfold inR; exact decide_eq_true (by omega)
  have hi2 : inR c 1 1073741824 = true := by unfold inR; exact decide_eq_true (by omega)
  obtain ⟨z, hz⟩ : ∃ z, z = m.Counts[a] := ⟨_, rfl⟩
  rw [← hz] at hcv hcs
  have hg : (m.Counts.map fun z => Value.int .i64 z)[a]? = some (.int .i64 z) := by rw [List.getElem?_map, List.getElem?_eq_getElem hac, hz]; rfl
  have hset : (m.Counts.map fun z => Value.int .i64 z).set a (.int .i64 (z + c)) = (learnR m b a c).Counts.map fun z => Value.int .i64 z := by
    unfold learnR; simp only
    rw [List.map_set, List.getElem?_eq_getElem hac, hz]; rfl
  have hcl : m.Counts.length = (learnR m b a c).Counts.length := by unfold learnR; simp
  have p0 : ∀ q ∈ m.Pairs, 0 ≤ q.N := fun q hq => by have := hm.N1 hq; omega
  have hpn : ∀ q ∈ m.Pairs, 0 ≤ q.N ∧ q.N ≤ 1099511627776 := fun q hq => by have := hm.N1 hq; omega
  have hS := St.start w μ hμ
  refine calls_start 64 [.agg #[.slice a0 m.Words.length c0, .slice a1 m.Counts.length c1, .slice a2 m.Pairs.length c2, .int .i64 m.Back], .agg #[.int .i64 b, .int .i64 a, .int .i64 c]] Try.func23 rfl Try.ntmps23 rfl rfl ?_
  refine CW.seq fun K1 hK1 => ?_
  refine CW.region [0, 1, 2, 3] rfl ?_
  refine LW.hv rfl rfl rfl rfl (Hv.boxS hS rfl rfl) fun v w2 ⟨b2, hv, hb2, hS⟩ => ?_
  subst hv
  refine LW.hv rfl rfl rfl rfl (Hv.boxS hS rfl rfl) fun v w3 ⟨b3, hv, hb3, hS⟩ => ?_
  subst hv
  refine LW.hv rfl rfl rfl rfl (Hv.alloc ti34 hS) fun v w4 ⟨b4, hv, hb4, hS⟩ => ?_
  subst hv
  refine LW.ex rfl rfl rfl rfl (Ex.assign rfl) hS.rd ?_
  refine LW.nil fun aa ha => hK1 _ _ _ ?_ aa ha
  refine CW.seq fun K2 hK2 => ?_
  refine CW.region [0, 1, 2, 3] rfl ?_
  refine LW.ex rfl rfl rfl rfl (Ex.fieldO 0 Try.underlying34 rfl rfl ti30 rfl) hS.rd ?_
  refine LW.ex rfl rfl rfl rfl (Ex.load1 ti30 rfl rfl (by first | exact obT rfl | exact Rd.imm ‹_› | exact slT ‹_›)) hS.rd ?_
  refine LW.ex rfl rfl rfl rfl (Ex.lenSl rfl Try.underlying30 rfl) hS.rd ?_
  refine LW.ex rfl rfl rfl rfl (Ex.assign rfl) hS.rd ?_
  refine LW.nil fun aa ha => hK2 _ _ _ ?_ aa ha
  refine CW.seq fun K3 hK3 => ?_
  refine CW.seq fun K4 hK4 => ?_
  refine CW.region [0, 1, 2, 3, 4, 5, 6, 7, 8, 9, 10, 11, 12, 13, 14, 15, 16, 17] rfl ?_
  refine LW.ex rfl rfl rfl rfl (Ex.indexArr (j := 1) Try.underlying74 ti3 rfl rfl rfl (by omega)) hS.rd ?_
  refine LW.ex rfl rfl rfl rfl (Ex.load1 ti3 rfl rfl (by first | exact obT rfl | exact Rd.imm ‹_› | exact slT ‹_›)) hS.rd ?_
  refine LW.ex rfl rfl rfl rfl (Ex.move rfl) hS.rd ?_
  refine LW.ex rfl rfl rfl rfl (Ex.sub rfl rfl (w64 (by omega) (by omega))) hS.rd ?_
  refine LW.hv rfl rfl rfl rfl (Hv.callS hS rfl rfl rfl cb36 (in_c _ _ _ _)) fun v w15 ⟨hv, hS⟩ => ?_
  subst hv
  rw [hi1]
  refine LW.ex rfl rfl rfl rfl (Ex.not rfl rfl) hS.rd ?_
  refine LW.ex rfl rfl rfl rfl (Ex.move rfl) hS.rd ?_
  refine LW.ex rfl rfl rfl rfl (Ex.indexArr (j := 0) Try.underlying74 ti3 rfl rfl rfl (by omega)) hS.rd ?_
  refine LW.ex rfl rfl rfl rfl (Ex.load1 ti3 rfl rfl (by first | exact obT rfl | exact Rd.imm ‹_› | exact slT ‹_›)) hS.rd ?_
  refine LW.ex rfl rfl rfl rfl (Ex.move rfl) hS.rd ?_
  refine LW.ex rfl rfl rfl rfl (Ex.geq rfl rfl rfl) hS.rd ?_
  refine LW.splitB (fun h2_10 => ?_) (fun h2_10 => ?_)
  · have h2_10 := of_decide_eq_true h2_10
    omega
  · have h2_10 := of_decide_eq_false h2_10
    refine LW.ex rfl rfl rfl rfl (by first | exact Ex.pick_yes rfl rfl | exact Ex.pick_no rfl rfl) hS.rd ?_
    refine LW.ex rfl rfl rfl rfl (Ex.move rfl) hS.rd ?_
    refine LW.ex rfl rfl rfl rfl (Ex.indexArr (j := 2) Try.underlying74 ti3 rfl rfl rfl (by omega)) hS.rd ?_
    refine LW.ex rfl rfl rfl rfl (Ex.load1 ti3 rfl rfl (by first | exact obT rfl | exact Rd.imm ‹_› | exact slT ‹_›)) hS.rd ?_
    refine LW.hv rfl rfl rfl rfl (Hv.callS hS rfl rfl rfl cb36 (in_c _ _ _ _)) fun v w26 ⟨hv, hS⟩ => ?_
    subst hv
    rw [hi2]
    refine LW.ex rfl rfl rfl rfl (Ex.not rfl rfl) hS.rd ?_
    refine LW.ex rfl rfl rfl rfl (by first | exact Ex.pick_yes rfl rfl | exact Ex.pick_no rfl rfl) hS.rd ?_
    refine LW.nil fun aa ha => hK4 _ _ _ ?_ aa ha
    refine CW.no rfl ?_
    refine CW.skip fun aa ha => hK3 _ _ _ ?_ aa ha
    refine CW.seq fun K5 hK5 => ?_
    refine CW.region [0, 1, 2] rfl ?_
    refine LW.ex rfl rfl rfl rfl (Ex.load4c ti34 rfl rfl (by first | exact obT rfl | exact Rd.imm ‹_› | exact slT ‹_›) (by first | exact obT rfl | exact Rd.imm ‹_› | exact slT ‹_›) (by first | exact obT rfl | exact Rd.imm ‹_› | exact slT ‹_›) (by first | exact obT rfl | exact Rd.imm ‹_› | exact slT ‹_›)) hS.rd ?_
    refine LW.hv rfl rfl rfl rfl (Hv.alloc ti34 hS) fun v w7 ⟨b7, hv, hb7, hS⟩ => ?_
    subst hv
    refine LW.hu rfl rfl rfl (Hv.storeN (k := 0) ti34 hS rfl rfl rfl rfl (by simp [Value.oneCell'])) fun _ w_2 hS => ?_
    dsimp only [List.set] at hS
    refine LW.nil fun aa ha => hK5 _ _ _ ?_ aa ha
    refine CW.seq fun K6 hK6 => ?_
    refine CW.region [0, 1, 2, 3, 4, 5] rfl ?_
    refine LW.hv rfl rfl rfl rfl (Hv.buildSl hS Try.underlying31 ti3 rfl rfl rfl rfl rfl rfl) fun v w31 ⟨b31, hv, hb31, hS⟩ => ?_
    subst hv
    have hS : St w _ μ (_ :: _) := hS.row_sl (k := 0) rfl 0 1 rfl (by simp [maxLen])
    refine LW.ex rfl rfl rfl rfl (Ex.fieldO 1 Try.underlying34 rfl rfl ti31 rfl) hS.rd ?_
    refine LW.ex rfl rfl rfl rfl (Ex.load1 ti31 rfl rfl (by first | exact obT rfl | exact Rd.imm ‹_› | exact slT ‹_›)) hS.rd ?_
    refine LW.hv rfl rfl rfl rfl (Hv.appendSl (k := 0) (ys := ([] : List Int)) intWhole rfl Try.underlying31 ti3 rfl hS rfl (RepL.nil _) hm1 rfl rfl (by unfold maxLen; omega) (by omega)) fun v w34 ⟨ad34, c34, us34, hv, hus, hS⟩ => ?_
    subst hv
    dsimp only [List.set] at hS
    rw [List.nil_append] at hus
    obtain rfl := repl_ints_eq hus
    rw [Nat.zero_add] at hS ⊢
    refine LW.ex rfl rfl rfl rfl (Ex.fieldO 1 Try.underlying34 rfl rfl ti31 rfl) hS.rd ?_
    refine LW.hu rfl rfl rfl (Hv.storeObj (k := 1) ti31 hS rfl rfl rfl rfl (by first | assumption | (simp; done) | omega | exact Nat.zero_lt_succ _)) fun _ w_5 hS => ?_
    dsimp only [List.set] at hS
    refine LW.nil fun aa ha => hK6 _ _ _ ?_ aa ha
    refine CW.seq fun K7 hK7 => ?_
    obtain ⟨g34, rfl⟩ := hS.sl_some 0 rfl (by omega)
    have hb10 : 0 + a * 1 < (m.Counts.map fun z => Value.int .i64 z).length := by rw [List.length_map]; omega
    have hS := hS.drew
    refine CW.draw 10 (.ex 0 <| .ex 1 <| .ex 2 <| .ex 3 <| .ex 4 <| .ex 5 <| .ex 6 <| .ex 7 <| .ex 8 <| .ex 9 <| .done) [10] (Rd _ _) mixed (by kernel_rfl) rfl rfl hS.rd ?_
    refine PW.ex rfl rfl rfl rfl (Ex.fieldO 1 Try.underlying34 rfl rfl ti31 rfl) ?_
    refine PW.ex rfl rfl rfl rfl (Ex.load1 ti31 rfl rfl (by first | exact obT rfl | exact Rd.imm ‹_› | exact slT ‹_›)) ?_
    refine PW.ex rfl rfl rfl rfl (Ex.indexArr (j := 1) Try.underlying74 ti3 rfl rfl rfl (by omega)) ?_
    refine PW.ex rfl rfl rfl rfl (Ex.load1 ti3 rfl rfl (by first | exact obT rfl | exact Rd.imm ‹_› | exact slT ‹_›)) ?_
    refine PW.ex rfl rfl rfl rfl (Ex.indexSl Try.underlying31 ti3 rfl rfl rfl (by omega)) ?_
    refine PW.ex rfl rfl rfl rfl (Ex.load1 ti3 rfl rfl (slT (v := .int .i64 z) (by rw [Nat.zero_add, Nat.mul_one]; exact hg))) ?_
    refine PW.ex rfl rfl rfl rfl (Ex.indexArr (j := 2) Try.underlying74 ti3 rfl rfl rfl (by omega)) ?_
    refine PW.ex rfl rfl rfl rfl (Ex.load1 ti3 rfl rfl (by first | exact obT rfl | exact Rd.imm ‹_› | exact slT ‹_›)) ?_
    refine PW.ex rfl rfl rfl rfl (Ex.add rfl rfl (w64 (by omega) (by omega))) ?_
    refine PW.ex rfl rfl rfl rfl (Ex.indexSl Try.underlying31 ti3 rfl rfl rfl (by omega)) ?_
    refine PW.nil ?_
    refine LW.hu rfl rfl rfl (Hv.storeSl (k := 0) ti3 hS rfl rfl rfl rfl (by first | assumption | (simp; done) | omega | exact Nat.zero_lt_succ _)) fun _ w_10 hS => ?_
    dsimp only [List.set] at hS
    rw [Nat.zero_add, Nat.mul_one, hset] at hS
    refine LW.nil fun aa ha => hK7 _ _ _ ?_ aa ha
    refine CW.seq fun K8 hK8 => ?_
    refine CW.seq fun K9 hK9 => ?_
    obtain ⟨bs, μ2, hm22, hS, hφ⟩ := hS.shut 0 rfl
    dsimp only [List.eraseIdx] at hS
    have hC : Sl μ2 (some ⟨g34, 0, none⟩) c34 (learnR m b a c).Counts := Sl.of_own hφ (RepL.ints _ _) hcl
    have hm0 := hm0.mono hm22
    have hm2 := hm2.mono hm22
    rw [hcl] at hS
    have hsz := hS.below.size
    refine CW.region [0, 1, 2] rfl ?_
    refine LW.ex rfl rfl rfl rfl (Ex.indexArr (j := 0) Try.underlying74 ti3 rfl rfl rfl (by omega)) hS.rd ?_
    refine LW.ex rfl rfl rfl rfl (Ex.load1 ti3 rfl rfl (by first | exact obT rfl | exact Rd.imm ‹_› | exact slT ‹_›)) hS.rd ?_
    refine LW.ex rfl rfl rfl rfl (Ex.geq rfl rfl rfl) hS.rd ?_
    refine LW.splitB (fun h7_2 => ?_) (fun h7_2 => ?_)
    · have h7_2 := of_decide_eq_true h7_2
      refine LW.nil fun aa ha => hK9 _ _ _ ?_ aa ha
      refine CW.yes rfl ?_
      refine CW.region [0, 1, 2, 3, 4, 5, 6, 7, 8, 9, 10] rfl ?_
      refine LW.ex rfl rfl rfl rfl (Ex.load4c ti34 rfl rfl (by first | exact obT rfl | exact Rd.imm ‹_› | exact slT ‹_›) (by first | exact obT rfl | exact Rd.imm ‹_› | exact slT ‹_›) (by first | exact obT rfl | exact Rd.imm ‹_› | exact slT ‹_›) (by first | exact obT rfl | exact Rd.imm ‹_› | exact slT ‹_›)) hS.rd ?_
      refine LW.ex rfl rfl rfl rfl (Ex.indexArr (j := 0) Try.underlying74 ti3 rfl rfl rfl (by omega)) hS.rd ?_
      refine LW.ex rfl rfl rfl rfl (Ex.load1 ti3 rfl rfl (by first | exact obT rfl | exact Rd.imm ‹_› | exact slT ‹_›)) hS.rd ?_
      refine LW.ex rfl rfl rfl rfl (Ex.indexArr (j := 1) Try.underlying74 ti3 rfl rfl rfl (by omega)) hS.rd ?_
      refine LW.ex rfl rfl rfl rfl (Ex.load1 ti3 rfl rfl (by first | exact obT rfl | exact Rd.imm ‹_› | exact slT ‹_›)) hS.rd ?_
      refine LW.ex rfl rfl rfl rfl (Ex.indexArr (j := 2) Try.underlying74 ti3 rfl rfl rfl (by omega)) hS.rd ?_
      refine LW.ex rfl rfl rfl rfl (Ex.load1 ti3 rfl rfl (by first | exact obT rfl | exact Rd.imm ‹_› | exact slT ‹_›)) hS.rd ?_
      refine LW.ex rfl rfl rfl rfl (Ex.buildS st87 rfl rfl rfl) hS.rd ?_
      refine LW.hv rfl rfl rfl rfl (Hv.callV hS rfl rfl rfl cb30 (insP_c m.Pairs _ _ _ ⟨b, a, c⟩ (by omega) hpn ⟨by show 0 ≤ c; omega, by show c ≤ _; omega⟩ _ _ _ _ _ _ μ2 _ hS.imm hm2)) fun v w57 ⟨μ57, hv57, hm57, hS⟩ => ?_
      obtain ⟨ad57, c57, hv, hs57⟩ := hv57
      subst hv
      refine LW.ex rfl rfl rfl rfl (Ex.fieldO 2 Try.underlying34 rfl rfl ti32 rfl) hS.rd ?_
      refine LW.hu rfl rfl rfl (Hv.storeObj (k := 0) ti32 hS rfl rfl rfl rfl (by first | assumption | (simp; done) | omega | exact Nat.zero_lt_succ _)) fun _ w_10 hS => ?_
      dsimp only [List.set] at hS
      refine LW.nil fun aa ha => hK8 _ _ _ ?_ aa ha
      refine CW.seq fun K10 hK10 => ?_
      refine CW.seq fun K11 hK11 => ?_
      have hP : (learnR m b a c).Pairs = insP ⟨b, a, c⟩ m.Pairs := if_pos (by omega)
      have hs2 := hs57
      rw [← hP] at hS hs2
      have hm0 := hm0.mono hm57
      have hC := hC.mono hm57
      refine CW.region [0, 1, 2] rfl ?_
      refine LW.ex rfl rfl rfl rfl (Ex.load4c ti34 rfl rfl (by first | exact obT rfl | exact Rd.imm ‹_› | exact slT ‹_›) (by first | exact obT rfl | exact Rd.imm ‹_› | exact slT ‹_›) (by first | exact obT rfl | exact Rd.imm ‹_› | exact slT ‹_›) (by first | exact obT rfl | exact Rd.imm ‹_› | exact slT ‹_›)) hS.rd ?_
      refine LW.hv rfl rfl rfl rfl (Hv.callS hS rfl rfl rfl cb34 (rvalid_l m b a c hL hws _ _ _ _ _ _ _ _ hS.imm hm0 hC hs2)) fun v w60 ⟨hv, hS⟩ => ?_
      subst hv
      refine LW.ex rfl rfl rfl rfl (Ex.not rfl rfl) hS.rd ?_
      refine LW.nil fun aa ha => hK11 _ _ _ ?_ aa ha
      refine CW.no rfl ?_
      refine CW.skip fun aa ha => hK10 _ _ _ ?_ aa ha
      refine CW.seq fun K12 hK12 => ?_
      refine CW.region [0, 1, 2] rfl ?_
      refine LW.ex rfl rfl rfl rfl (Ex.load4c ti34 rfl rfl (by first | exact obT rfl | exact Rd.imm ‹_› | exact slT ‹_›) (by first | exact obT rfl | exact Rd.imm ‹_› | exact slT ‹_›) (by first | exact obT rfl | exact Rd.imm ‹_› | exact slT ‹_›) (by first | exact obT rfl | exact Rd.imm ‹_› | exact slT ‹_›)) hS.rd ?_
      refine LW.hu rfl rfl rfl (Hv.storeN (k := 1) ti34 hS rfl rfl rfl rfl (by simp [Value.oneCell'])) fun _ w_1 hS => ?_
      dsimp only [List.set] at hS
      refine LW.ex rfl rfl rfl rfl (Ex.assign rfl) hS.rd ?_
      refine LW.nil fun aa ha => hK12 _ _ _ ?_ aa ha
      refine CW.ret fun aa ha => ?_
      refine ret2 ha Try.results23 ⟨b4, _, _, _, _, rfl, ti34, rfl, fun j v hv => Rd.objAll (k := 1) rfl hS.rd j v hv, rfl⟩ rfl ?_
      exact ⟨_, μ57, rfl, hS.below, hm22.trans (hm57.mono hsz), hS.imm, _, c34, _, _, rfl, hC, hs2⟩
    · have h7_2 := of_decide_eq_false h7_2
      refine LW.nil fun aa ha => hK9 _ _ _ ?_ aa ha
      refine CW.no rfl ?_
      refine CW.skip fun aa ha => hK8 _ _ _ ?_ aa ha
      refine CW.seq fun K13 hK13 => ?_
      refine CW.seq fun K14 hK14 => ?_
      have hP : (learnR m b a c).Pairs = m.Pairs := if_neg (by omega)
      have hs2 := hm2
      rw [← hP] at hS hs2
      refine CW.region [0, 1, 2] rfl ?_
      refine LW.ex rfl rfl rfl rfl (Ex.load4c ti34 rfl rfl (by first | exact obT rfl | exact Rd.imm ‹_› | exact slT ‹_›) (by first | exact obT rfl | exact Rd.imm ‹_› | exact slT ‹_›) (by first | exact obT rfl | exact Rd.imm ‹_› | exact slT ‹_›) (by first | exact obT rfl | exact Rd.imm ‹_› | exact slT ‹_›)) hS.rd ?_
      refine LW.hv rfl rfl rfl rfl (Hv.callS hS rfl rfl rfl cb34 (rvalid_l m b a c hL hws _ _ _ _ _ _ _ _ hS.imm hm0 hC hs2)) fun v w60 ⟨hv, hS⟩ => ?_
      subst hv
      refine LW.ex rfl rfl rfl rfl (Ex.not rfl rfl) hS.rd ?_
      refine LW.nil fun aa ha => hK14 _ _ _ ?_ aa ha
      refine CW.no rfl ?_
      refine CW.skip fun aa ha => hK13 _ _ _ ?_ aa ha
      refine CW.seq fun K15 hK15 => ?_
      refine CW.region [0, 1, 2] rfl ?_
      refine LW.ex rfl rfl rfl rfl (Ex.load4c ti34 rfl rfl (by first | exact obT rfl | exact Rd.imm ‹_› | exact slT ‹_›) (by first | exact obT rfl | exact Rd.imm ‹_› | exact slT ‹_›) (by first | exact obT rfl | exact Rd.imm ‹_› | exact slT ‹_›) (by first | exact obT rfl | exact Rd.imm ‹_› | exact slT ‹_›)) hS.rd ?_
      refine LW.hu rfl rfl rfl (Hv.storeN (k := 1) ti34 hS rfl rfl rfl rfl (by simp [Value.oneCell'])) fun _ w_1 hS => ?_
      dsimp only [List.set] at hS
      refine LW.ex rfl rfl rfl rfl (Ex.assign rfl) hS.rd ?_
      refine LW.nil fun aa ha => hK15 _ _ _ ?_ aa ha
      refine CW.ret fun aa ha => ?_
      refine ret2 ha Try.results23 ⟨b4, _, _, _, _, rfl, ti34, rfl, fun j v hv => Rd.objAll (k := 1) rfl hS.rd j v hv, rfl⟩ rfl ?_
      exact ⟨_, μ2, rfl, hS.below, hm22, hS.imm, _, c34, _, _, rfl, hC, hs2⟩
end Go.Proofs.Ytgnpjhellmfhoaa

