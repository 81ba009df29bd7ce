import Derived.Test.YtgnpjhellmfhoaaW7

/-
  Context: the walks of cost.Pair and of the two Valids of models.
-/
namespace Go.Proofs.Ytgnpjhellmfhoaa
open Go.RowKit Sy


theorem afterL_len (l : List Pr) (a : Int) : (afterL l a).length ≤ l.length := List.length_filter_le _ _
theorem MdlOk.B0 {m : Mdl} (h : MdlOk m) : ∀ p ∈ m.Pairs, 0 ≤ p.B := fun p hp => (h.pp p hp).2.2.1
theorem totN_c (l : List Pr) (a : Int) (hl : l.length ≤ 1000) (hN : ∀ q ∈ l, 1 ≤ q.N) (hs : sumN l a ≤ 1073741824) (ad : Option Addr) (c : Nat) (μ : Mem) (w : World) (hμ : Imm μ w) (hsl : Sl μ ad c ((afterL l a).map (·.N))) :
    Calls Try.prog 62 #[.slice ad ((afterL l a).map (·.N)).length c, .int .i64 1] w (RetS w (.tuple #[.int .i64 (sumN l a), .bool true])) := by
  have hal := afterL_len l a
  have e : sumN l a = ((afterL l a).map (·.N)).sum := rfl
  rw [e] at hs ⊢
  refine totok_c _ 1 (by omega) (by rw [List.length_map]; omega) (fun x hx => ?_) hs ad c μ w hμ hsl
  obtain ⟨q, hq, rfl⟩ := List.mem_map.1 hx
  exact hN q (List.mem_filter.1 hq).1
theorem totG_c (l : List Pr) (a : Int) (hl : l.length ≤ 1000) (ad : Option Addr) (c : Nat) (μ : Mem) (w : World) (hμ : Imm μ w) (hsl : Sl μ ad c ((afterL l a).map (·.N))) :
    Calls Try.prog 62 #[.slice ad ((afterL l a).map (·.N)).length c, .int .i64 1] w (RetS w (.tuple #[.int .i64 (totalGo 1 0 ((afterL l a).map (·.N))).1, .bool (totalGo 1 0 ((afterL l a).map (·.N))).2])) := by
  have hal := afterL_len l a
  exact total_c _ 1 (by omega) (by rw [List.length_map]; omega) ad c μ w hμ hsl
set_option maxRecDepth 100000 in
theorem cpair_c (m : Mdl) (h : MdlOk m) (p v : Int) (hp : p < m.Words.length) (hv0 : 0 ≤ v) (hv1 : v < m.Words.length) (a0 a1 a2 : Option Addr) (c0 c1 c2 : Nat) (μ : Mem) (w : World) (hμ : Imm μ w) (hm0 : Sl μ a0 c0 m.Words) (hm1 : Sl μ a1 c1 m.Counts) (hm2 : Sl μ a2 c2 m.Pairs) :
    Calls Try.prog 41 #[.agg #[.slice a0 m.Words.length c0, .slice a1 m.Counts.length c1, .slice a2 m.Pairs.length c2, .int .i64 m.Back], .int .i64 p, .int .i64 v] w (RetS w (.int .i64 (pairC m p v))) := by
  have hw := h.wordC0 v
  have hb0 := h.b0
  have hb1 := h.b1
  have hpl := h.pl
  have hn2 := h.n2
  have hsu := h.sum p
  have hsn := sumN_nonneg (fun q hq => by have := h.N1 hq; omega) p (l := m.Pairs)
  have hal := afterL_len m.Pairs p
  have hfind := hit_spec h.ps p v
  have hS := St.start w μ hμ
  refine calls_start 51 [.agg #[.slice a0 m.Words.length c0, .slice a1 m.Counts.length c1, .slice a2 m.Pairs.length c2, .int .i64 m.Back], .int .i64 p, .int .i64 v] Try.func41 rfl Try.ntmps41 rfl rfl ?_
  refine CW.seq fun K1 hK1 => ?_
  refine CW.region [0, 1] rfl ?_
  refine LW.hv rfl rfl rfl rfl (Hv.boxS hS rfl rfl) fun v w3 ⟨b3, hv, hb3, hS⟩ => ?_
  subst hv
  refine LW.ex rfl rfl rfl rfl (Ex.assign rfl) hS.rd ?_
  refine LW.nil fun aa ha => hK1 _ _ _ ?_ aa ha
  refine CW.seq fun K2 hK2 => ?_
  refine CW.seq fun K3 hK3 => ?_
  refine CW.region [0, 1] rfl ?_
  refine LW.ex rfl rfl rfl rfl (Ex.move rfl) hS.rd ?_
  refine LW.ex rfl rfl rfl rfl (Ex.lss rfl rfl rfl) hS.rd ?_
  refine LW.splitB (fun h1_1 => ?_) (fun h1_1 => ?_)
  · have h1_1 := of_decide_eq_true h1_1
    refine LW.nil fun aa ha => hK3 _ _ _ ?_ aa ha
    refine CW.yes rfl ?_
    refine CW.seq fun K4 hK4 => ?_
    refine CW.region [0, 1, 2, 3] rfl ?_
    refine LW.ex rfl rfl rfl rfl (Ex.load4c ti34 rfl rfl (by first | exact obT rfl | exact Rd.imm ‹_› | exact slT ‹_›) (by first | exact obT rfl | exact Rd.imm ‹_› | exact slT ‹_›) (by first | exact obT rfl | exact Rd.imm ‹_› | exact slT ‹_›) (by first | exact obT rfl | exact Rd.imm ‹_› | exact slT ‹_›)) hS.rd ?_
    refine LW.ex rfl rfl rfl rfl (Ex.move rfl) hS.rd ?_
    refine LW.hv rfl rfl rfl rfl (Hv.callS hS rfl rfl rfl cb69 (cword_c m h v hv0 hv1 _ _ _ _ _ _ μ _ hS.imm hm0 hm1 hm2)) fun v w15 ⟨hv, hS⟩ => ?_
    subst hv
    refine LW.ex rfl rfl rfl rfl (Ex.assign rfl) hS.rd ?_
    refine LW.nil fun aa ha => hK4 _ _ _ ?_ aa ha
    refine CW.ret fun aa ha => ?_
    refine ret_one ha Try.results41 rfl ?_
    exact hS.retE (by unfold pairC; rw [if_pos (by omega)])
  · have h1_1 := of_decide_eq_false h1_1
    refine LW.nil fun aa ha => hK3 _ _ _ ?_ aa ha
    refine CW.no rfl ?_
    refine CW.skip fun aa ha => hK2 _ _ _ ?_ aa ha
    refine CW.seq fun K5 hK5 => ?_
    refine CW.region [0, 1, 2, 3, 4, 5, 6, 7, 8, 9] rfl ?_
    refine LW.ex rfl rfl rfl rfl (Ex.fieldO 2 Try.underlying34 rfl rfl ti32 rfl) hS.rd ?_
    refine LW.ex rfl rfl rfl rfl (Ex.load1 ti32 rfl rfl (by first | exact obT rfl | exact Rd.imm ‹_› | exact slT ‹_›)) hS.rd ?_
    refine LW.ex rfl rfl rfl rfl (Ex.move rfl) hS.rd ?_
    refine LW.ex rfl rfl rfl rfl (Ex.move rfl) hS.rd ?_
    refine LW.hv rfl rfl rfl rfl (Hv.callS hS rfl rfl rfl cb70 (find_c m.Pairs p v h.ps (by omega) _ _ _ _ hS.imm hm2)) fun v w21 ⟨hv, hS⟩ => ?_
    subst hv
    refine LW.ex rfl rfl rfl rfl (Ex.move rfl) hS.rd ?_
    refine LW.ex rfl rfl rfl rfl (Ex.extract rfl rfl) hS.rd ?_
    refine LW.ex rfl rfl rfl rfl (Ex.extract rfl rfl) hS.rd ?_
    refine LW.splitB (fun h3_7 => ?_) (fun h3_7 => ?_)
    · skip
      refine LW.ex rfl rfl rfl rfl (Ex.assign rfl) hS.rd ?_
      refine LW.ex rfl rfl rfl rfl (Ex.assign rfl) hS.rd ?_
      refine LW.nil fun aa ha => hK5 _ _ _ ?_ aa ha
      refine CW.seq fun K6 hK6 => ?_
      refine CW.seq fun K7 hK7 => ?_
      refine CW.region [0, 1] rfl ?_
      refine LW.ex rfl rfl rfl rfl (Ex.move rfl) hS.rd ?_
      refine LW.ex rfl rfl rfl rfl (Ex.not rfl rfl) hS.rd ?_
      refine LW.nil fun aa ha => hK7 _ _ _ ?_ aa ha
      refine CW.no rfl ?_
      refine CW.skip fun aa ha => hK6 _ _ _ ?_ aa ha
      refine CW.seq fun K8 hK8 => ?_
      obtain ⟨i, hie, hi, hfA, hfB, hf⟩ : ∃ i, i = lbL (keyCmp p v) m.Pairs ∧ ∃ hi : i < m.Pairs.length, m.Pairs[i].A = p ∧ m.Pairs[i].B = v ∧ m.Pairs.find? (fun q => decide (q.A = p ∧ q.B = v)) = some m.Pairs[i] := by
        rcases hfind with ⟨_, hi, he⟩ | ⟨he, _⟩
        · exact ⟨_, rfl, hi, he⟩
        · rw [he] at h3_7; cases h3_7
      have hN := h.N1 (List.getElem_mem hi)
      rw [← hie]
      have hlm := logZ_mono (a := m.Pairs[i].N) (b := sumN m.Pairs p) (by rw [← hfA]; exact hN.2.1)
      have hlb := logZ_bound (n := sumN m.Pairs p) (by omega)
      have hlb2 := logZ_bound (n := m.Pairs[i].N) (by omega)
      refine CW.region [0, 1, 2, 3, 4, 5, 6, 7, 8, 9, 10] rfl ?_
      refine LW.ex rfl rfl rfl rfl (Ex.fieldO 2 Try.underlying34 rfl rfl ti32 rfl) hS.rd ?_
      refine LW.ex rfl rfl rfl rfl (Ex.load1 ti32 rfl rfl (by first | exact obT rfl | exact Rd.imm ‹_› | exact slT ‹_›)) hS.rd ?_
      refine LW.ex rfl rfl rfl rfl (Ex.move rfl) hS.rd ?_
      refine LW.hv rfl rfl rfl rfl (Hv.callV hS rfl rfl rfl cb65 (after_c m.Pairs p h.ps h.B0 (by omega) (by omega) _ _ _ _ hS.imm hm2)) fun v w36 ⟨μ36, hv36, hm36, hS⟩ => ?_
      obtain ⟨ad36, c36, hv, hs36⟩ := hv36
      subst hv
      have hm2 := hm2.mono hm36
      refine LW.hv rfl rfl rfl rfl (Hv.callV hS rfl rfl rfl cb64 (numbers_c (afterL m.Pairs p) (by omega) _ _ _ _ hS.imm hs36)) fun v w37 ⟨μ37, hv37, hm37, hS⟩ => ?_
      obtain ⟨ad37, c37, hv, hs37⟩ := hv37
      subst hv
      have hm2 := hm2.mono hm37
      refine LW.hv rfl rfl rfl rfl (Hv.callS hS rfl rfl rfl cb62 (totN_c m.Pairs p hpl (fun q hq => (h.N1 hq).1) hsu _ _ _ _ hS.imm hs37)) fun v w38 ⟨hv, hS⟩ => ?_
      subst hv
      refine LW.ex rfl rfl rfl rfl (Ex.move rfl) hS.rd ?_
      refine LW.ex rfl rfl rfl rfl (Ex.extract rfl rfl) hS.rd ?_
      refine LW.ex rfl rfl rfl rfl (Ex.extract rfl rfl) hS.rd ?_
      refine LW.ex rfl rfl rfl rfl (Ex.assign rfl) hS.rd ?_
      refine LW.ex rfl rfl rfl rfl (Ex.assign rfl) hS.rd ?_
      refine LW.nil fun aa ha => hK8 _ _ _ ?_ aa ha
      refine CW.seq fun K9 hK9 => ?_
      obtain ⟨bl, ol, rfl, k0, k1, k2⟩ := hm2.at hi
      have hS := hS.drew
      refine CW.draw 11 (.ex 0 <| .ex 2 <| .ex 3 <| .ex 4 <| .ex 5 <| .ex 6 <| .ex 7 <| .one 1 <| .one 8 <| .ex 9 <| .ex 10 <| .done) [] (Rd _ _) mixed (by kernel_rfl) rfl rfl hS.rd ?_
      refine PW.ex rfl rfl rfl rfl (Ex.move rfl) ?_
      refine PW.ex rfl rfl rfl rfl (Ex.fieldO 2 Try.underlying34 rfl rfl ti32 rfl) ?_
      refine PW.ex rfl rfl rfl rfl (Ex.load1 ti32 rfl rfl (by first | exact obT rfl | exact Rd.imm ‹_› | exact slT ‹_›)) ?_
      refine PW.ex rfl rfl rfl rfl (Ex.move rfl) ?_
      refine PW.ex rfl rfl rfl rfl (Ex.indexSl Try.underlying32 ti87 rfl rfl rfl (by omega)) ?_
      refine PW.ex rfl rfl rfl rfl (Ex.fieldO 2 Try.underlying87 rfl rfl ti3 rfl) ?_
      refine PW.ex rfl rfl rfl rfl (Ex.load1 ti3 rfl rfl (by first | exact obT rfl | exact Rd.imm ‹_› | exact slT ‹_›)) ?_
      refine PW.hv rfl rfl rfl rfl (Hv.callS hS rfl rfl rfl cb71 (log_c (sumN m.Pairs p) (by omega) _)) (fun _ _ h => h.2.rd) fun v w42 ⟨hv, hS⟩ => ?_
      subst hv
      refine PW.hv rfl rfl rfl rfl (Hv.callS hS rfl rfl rfl cb71 (log_c _ (by omega) _)) (fun _ _ h => h.2.rd) fun v w49 ⟨hv, hS⟩ => ?_
      subst hv
      refine PW.ex rfl rfl rfl rfl (Ex.sub rfl rfl (w64 (by omega) (by omega))) ?_
      refine PW.ex rfl rfl rfl rfl (Ex.assign rfl) ?_
      refine PW.nil ?_
      refine LW.nil fun aa ha => hK9 _ _ _ ?_ aa ha
      refine CW.ret fun aa ha => ?_
      refine ret_one ha Try.results41 rfl ?_
      exact hS.retE (by unfold pairC; rw [if_neg (by omega), hf])
    · skip
      refine LW.ex rfl rfl rfl rfl (Ex.assign rfl) hS.rd ?_
      refine LW.ex rfl rfl rfl rfl (Ex.assign rfl) hS.rd ?_
      refine LW.nil fun aa ha => hK5 _ _ _ ?_ aa ha
      refine CW.seq fun K10 hK10 => ?_
      refine CW.seq fun K11 hK11 => ?_
      refine CW.region [0, 1] rfl ?_
      refine LW.ex rfl rfl rfl rfl (Ex.move rfl) hS.rd ?_
      refine LW.ex rfl rfl rfl rfl (Ex.not rfl rfl) hS.rd ?_
      refine LW.nil fun aa ha => hK11 _ _ _ ?_ aa ha
      refine CW.yes rfl ?_
      refine CW.seq fun K12 hK12 => ?_
      have hf : m.Pairs.find? (fun q => decide (q.A = p ∧ q.B = v)) = none := by
        rcases hfind with ⟨he, _⟩ | ⟨_, he⟩
        · rw [he] at h3_7; cases h3_7
        · exact he
      have hS := hS.drew
      refine CW.draw 7 (.ex 0 <| .ex 1 <| .ex 2 <| .ex 3 <| .one 4 <| .ex 5 <| .ex 6 <| .done) [] (Rd _ _) mixed (by kernel_rfl) rfl rfl hS.rd ?_
      refine PW.ex rfl rfl rfl rfl (Ex.fieldO 3 Try.underlying34 rfl rfl ti3 rfl) ?_
      refine PW.ex rfl rfl rfl rfl (Ex.load1 ti3 rfl rfl (by first | exact obT rfl | exact Rd.imm ‹_› | exact slT ‹_›)) ?_
      refine PW.ex rfl rfl rfl rfl (Ex.load4c ti34 rfl rfl (by first | exact obT rfl | exact Rd.imm ‹_› | exact slT ‹_›) (by first | exact obT rfl | exact Rd.imm ‹_› | exact slT ‹_›) (by first | exact obT rfl | exact Rd.imm ‹_› | exact slT ‹_›) (by first | exact obT rfl | exact Rd.imm ‹_› | exact slT ‹_›)) ?_
      refine PW.ex rfl rfl rfl rfl (Ex.move rfl) ?_
      refine PW.hv rfl rfl rfl rfl (Hv.callS hS rfl rfl rfl cb69 (cword_c m h v hv0 hv1 _ _ _ _ _ _ μ _ hS.imm hm0 hm1 hm2)) (fun _ _ h => h.2.rd) fun v w30 ⟨hv, hS⟩ => ?_
      subst hv
      refine PW.ex rfl rfl rfl rfl (Ex.add rfl rfl (by first | exact inc64 (by omega) | exact addN (by omega) | exact w64 (by omega) (by omega))) ?_
      refine PW.ex rfl rfl rfl rfl (Ex.assign rfl) ?_
      refine PW.nil ?_
      refine LW.nil fun aa ha => hK12 _ _ _ ?_ aa ha
      refine CW.ret fun aa ha => ?_
      refine ret_one ha Try.results41 rfl ?_
      exact hS.retE (by unfold pairC; rw [if_neg (by omega), hf])

/-! ### Valid -/
open Classical in
noncomputable def okM (m : Mdl) : Bool := decide (MdlOk m)
theorem okM_iff {m : Mdl} : okM m = true ↔ MdlOk m := by unfold okM; exact @decide_eq_true_iff _ (Classical.propDecidable _)
theorem okM_no {m : Mdl} (h : ¬ MdlOk m) : okM m = false := by rw [Bool.eq_false_iff]; exact fun e => h (okM_iff.1 e)
theorem okM_yes {m : Mdl} (h : MdlOk m) : okM m = true := okM_iff.2 h
def prIn (n : Nat) (p : Pr) : Bool := decide (0 ≤ p.A ∧ p.A < n ∧ 0 ≤ p.B ∧ p.B < n)
theorem prLess_trans (x y z : Pr) (h1 : prLess x y = true) (h2 : prLess y z = true) : prLess x z = true := by rw [prLess_iff] at *; omega
theorem MdlOk.rises {m : Mdl} (h : MdlOk m) : rises (prIn m.Words.length) prLess none m.Pairs = true := rises_of (fun x hx => by have := h.pp x hx; exact decide_eq_true ⟨by omega, by omega, by omega, by omega⟩) h.ps (fun q hq => by cases hq)
theorem sumN_out {l : List Pr} {n : Nat} (h : rises (prIn n) prLess none l = true) {a : Int} (ha : ¬ (0 ≤ a ∧ a < n)) : sumN l a = 0 := by
  have e : afterL l a = [] := by
    unfold afterL
    rw [List.filter_eq_nil_iff]
    intro x hx
    have := rises_all h x hx
    unfold prIn at this
    rw [decide_eq_true_eq] at this ⊢
    omega
  unfold sumN; rw [e]; rfl
theorem nums_mem {l : List Pr} {p : Pr} (h : p ∈ l) : p.N ∈ (afterL l p.A).map (·.N) := List.mem_map.2 ⟨p, List.mem_filter.2 ⟨h, by simp⟩, rfl⟩
theorem MdlOk.total {m : Mdl} (h : MdlOk m) (a : Int) : (totalGo 1 0 ((afterL m.Pairs a).map (·.N))).2 = true := by
  rw [total_iff (by omega) (by omega)]
  refine ⟨fun x hx => ?_, by have := h.sum a; unfold sumN at this; omega⟩
  obtain ⟨q, hq, rfl⟩ := List.mem_map.1 hx
  exact (h.N1 (List.mem_filter.1 hq).1).1
theorem prLess_key {p q : Pr} : ¬ keyCmp p.A p.B q ≤ 0 → prLess p q = true := fun h => by
  rw [prLess_iff]
  have h1 : ¬ keyCmp p.A p.B q < 0 := by omega
  have h2 : ¬ keyCmp p.A p.B q = 0 := by omega
  rw [keyCmp_lt] at h1
  rw [keyCmp_eq] at h2
  omega
theorem prLess_key2 {p q : Pr} : keyCmp p.A p.B q ≤ 0 → prLess p q = false := fun h => by
  rw [Bool.eq_false_iff]; intro h3
  rw [prLess_iff] at h3
  by_cases h1 : keyCmp p.A p.B q < 0
  · rw [keyCmp_lt] at h1; omega
  · have h2 : keyCmp p.A p.B q = 0 := by omega
    rw [keyCmp_eq] at h2; omega
set_option maxRecDepth 100000 in
set_option maxHeartbeats 1000000 in
theorem cvalid_c (m : Mdl) (hws : ∀ s ∈ m.Words, s.size ≤ 9223372036854775807) (a0 a1 a2 : Option Addr) (c0 c1 c2 : Nat) (μ : Mem) (w : World) (hμ : Imm μ w) (hm0 : Sl μ a0 c0 m.Words) (hm1 : Sl μ a1 c1 m.Counts) (hm2 : Sl μ a2 c2 m.Pairs) :
    Calls Try.prog 39 #[.agg #[.slice a0 m.Words.length c0, .slice a1 m.Counts.length c1, .slice a2 m.Pairs.length c2, .int .i64 m.Back]] w (RetS w (.bool (okM m))) := by
  have hl0 := hm0.1
  have hl0c := hm0.2.1
  have hl1 := hm1.1
  have hl1c := hm1.2.1
  have hl2 := hm2.1
  have hl2c := hm2.2.1
  simp only [maxLen] at hl0c hl1c hl2c
  have hS := St.start w μ hμ
  refine calls_start 140 [.agg #[.slice a0 m.Words.length c0, .slice a1 m.Counts.length c1, .slice a2 m.Pairs.length c2, .int .i64 m.Back]] Try.func39 rfl Try.ntmps39 rfl rfl ?_
  refine CW.seq fun K13 hK13 => ?_
  refine CW.region [0, 1] rfl ?_
  refine LW.hv rfl rfl rfl rfl (Hv.boxS hS rfl rfl) fun v w1 ⟨b1, hv, hb1, hS⟩ => ?_
  subst hv
  refine LW.ex rfl rfl rfl rfl (Ex.assign rfl) hS.rd ?_
  refine LW.nil fun aa ha => hK13 _ _ _ ?_ aa ha
  refine CW.seq fun K14 hK14 => ?_
  refine CW.region [0, 1, 2, 3] rfl ?_
  refine LW.ex rfl rfl rfl rfl (Ex.fieldO 0 Try.underlying34 rfl rfl ti30 rfl) hS.rd ?_
  refine LW.ex rfl rfl rfl rfl (Ex.load1 ti30 rfl rfl (by first | exact obT rfl | exact Rd.imm ‹_› | exact slT ‹_›)) hS.rd ?_
  refine LW.ex rfl rfl rfl rfl (Ex.lenSl rfl Try.underlying30 rfl) hS.rd ?_
  refine LW.ex rfl rfl rfl rfl (Ex.assign rfl) hS.rd ?_
  refine LW.nil fun aa ha => hK14 _ _ _ ?_ aa ha
  refine CW.seq fun K15 hK15 => ?_
  refine CW.seq fun K16 hK16 => ?_
  refine CW.region [0, 1, 2, 3, 4, 5, 6, 7, 8, 9, 10, 11, 12, 13, 14, 15, 16, 17, 18, 19, 20, 21, 22, 23, 24, 25, 26, 27, 28] rfl ?_
  refine LW.ex rfl rfl rfl rfl (Ex.move rfl) hS.rd ?_
  refine LW.ex rfl rfl rfl rfl (Ex.lss rfl rfl rfl) hS.rd ?_
  refine LW.splitB (fun h2_1 => ?_) (fun h2_1 => ?_)
  · have h2_1 := of_decide_eq_true h2_1
    refine LW.ex rfl rfl rfl rfl (Ex.move rfl) hS.rd ?_
    refine LW.skip rfl rfl rfl rfl ?_
    refine LW.skip rfl rfl rfl rfl ?_
    refine LW.ex rfl rfl rfl rfl (by first | exact Ex.pick_yes rfl rfl | exact Ex.pick_no rfl rfl) hS.rd ?_
    refine LW.ex rfl rfl rfl rfl (Ex.move rfl) hS.rd ?_
    refine LW.skip rfl rfl rfl rfl ?_
    refine LW.skip rfl rfl rfl rfl ?_
    refine LW.skip rfl rfl rfl rfl ?_
    refine LW.skip rfl rfl rfl rfl ?_
    refine LW.skip rfl rfl rfl rfl ?_
    refine LW.ex rfl rfl rfl rfl (by first | exact Ex.pick_yes rfl rfl | exact Ex.pick_no rfl rfl) hS.rd ?_
    refine LW.ex rfl rfl rfl rfl (Ex.move rfl) hS.rd ?_
    refine LW.skip rfl rfl rfl rfl ?_
    refine LW.skip rfl rfl rfl rfl ?_
    refine LW.skip rfl rfl rfl rfl ?_
    refine LW.skip rfl rfl rfl rfl ?_
    refine LW.ex rfl rfl rfl rfl (by first | exact Ex.pick_yes rfl rfl | exact Ex.pick_no rfl rfl) hS.rd ?_
    refine LW.ex rfl rfl rfl rfl (Ex.move rfl) hS.rd ?_
    refine LW.skip rfl rfl rfl rfl ?_
    refine LW.skip rfl rfl rfl rfl ?_
    refine LW.skip rfl rfl rfl rfl ?_
    refine LW.ex rfl rfl rfl rfl (by first | exact Ex.pick_yes rfl rfl | exact Ex.pick_no rfl rfl) hS.rd ?_
    refine LW.ex rfl rfl rfl rfl (Ex.move rfl) hS.rd ?_
    refine LW.skip rfl rfl rfl rfl ?_
    refine LW.skip rfl rfl rfl rfl ?_
    refine LW.skip rfl rfl rfl rfl ?_
    refine LW.ex rfl rfl rfl rfl (by first | exact Ex.pick_yes rfl rfl | exact Ex.pick_no rfl rfl) hS.rd ?_
    refine LW.nil fun aa ha => hK16 _ _ _ ?_ aa ha
    refine CW.yes rfl ?_
    refine CW.seq fun K17 hK17 => ?_
    refine CW.region [0] rfl ?_
    refine LW.ex rfl rfl rfl rfl (Ex.assign rfl) hS.rd ?_
    refine LW.nil fun aa ha => hK17 _ _ _ ?_ aa ha
    refine CW.ret fun aa ha => ?_
    refine ret_one ha Try.results39 rfl ?_
    exact hS.retB (okM_no fun h => by have := h.n1; have := h.n2; have := h.nc; have := h.pl; have := h.b0; have := h.b1; omega).symm
  · have h2_1 := of_decide_eq_false h2_1
    refine LW.ex rfl rfl rfl rfl (Ex.move rfl) hS.rd ?_
    refine LW.ex rfl rfl rfl rfl (Ex.move rfl) hS.rd ?_
    refine LW.ex rfl rfl rfl rfl (Ex.gtr rfl rfl rfl) hS.rd ?_
    refine LW.splitB (fun h2_4 => ?_) (fun h2_4 => ?_)
    · have h2_4 := of_decide_eq_true h2_4
      refine LW.ex rfl rfl rfl rfl (by first | exact Ex.pick_yes rfl rfl | exact Ex.pick_no rfl rfl) hS.rd ?_
      refine LW.ex rfl rfl rfl rfl (Ex.move rfl) hS.rd ?_
      refine LW.skip rfl rfl rfl rfl ?_
      refine LW.skip rfl rfl rfl rfl ?_
      refine LW.skip rfl rfl rfl rfl ?_
      refine LW.skip rfl rfl rfl rfl ?_
      refine LW.skip rfl rfl rfl rfl ?_
      refine LW.ex rfl rfl rfl rfl (by first | exact Ex.pick_yes rfl rfl | exact Ex.pick_no rfl rfl) hS.rd ?_
      refine LW.ex rfl rfl rfl rfl (Ex.move rfl) hS.rd ?_
      refine LW.skip rfl rfl rfl rfl ?_
      refine LW.skip rfl rfl rfl rfl ?_
      refine LW.skip rfl rfl rfl rfl ?_
      refine LW.skip rfl rfl rfl rfl ?_
      refine LW.ex rfl rfl rfl rfl (by first | exact Ex.pick_yes rfl rfl | exact Ex.pick_no rfl rfl) hS.rd ?_
      refine LW.ex rfl rfl rfl rfl (Ex.move rfl) hS.rd ?_
      refine LW.skip rfl rfl rfl rfl ?_
      refine LW.skip rfl rfl rfl rfl ?_
      refine LW.skip rfl rfl rfl rfl ?_
      refine LW.ex rfl rfl rfl rfl (by first | exact Ex.pick_yes rfl rfl | exact Ex.pick_no rfl rfl) hS.rd ?_
      refine LW.ex rfl rfl rfl rfl (Ex.move rfl) hS.rd ?_
      refine LW.skip rfl rfl rfl rfl ?_
      refine LW.skip rfl rfl rfl rfl ?_
      refine LW.skip rfl rfl rfl rfl ?_
      refine LW.ex rfl rfl rfl rfl (by first | exact Ex.pick_yes rfl rfl | exact Ex.pick_no rfl rfl) hS.rd ?_
      refine LW.nil fun aa ha => hK16 _ _ _ ?_ aa ha
      refine CW.yes rfl ?_
      refine CW.seq fun K18 hK18 => ?_
      refine CW.region [0] rfl ?_
      refine LW.ex rfl rfl rfl rfl (Ex.assign rfl) hS.rd ?_
      refine LW.nil fun aa ha => hK18 _ _ _ ?_ aa ha
      refine CW.ret fun aa ha => ?_
      refine ret_one ha Try.results39 rfl ?_
      exact hS.retB (okM_no fun h => by have := h.n1; have := h.n2; have := h.nc; have := h.pl; have := h.b0; have := h.b1; omega).symm
    · have h2_4 := of_decide_eq_false h2_4
      refine LW.ex rfl rfl rfl rfl (by first | exact Ex.pick_yes rfl rfl | exact Ex.pick_no rfl rfl) hS.rd ?_
      refine LW.ex rfl rfl rfl rfl (Ex.move rfl) hS.rd ?_
      refine LW.ex rfl rfl rfl rfl (Ex.fieldO 1 Try.underlying34 rfl rfl ti31 rfl) hS.rd ?_
      refine LW.ex rfl rfl rfl rfl (Ex.load1 ti31 rfl rfl (by first | exact obT rfl | exact Rd.imm ‹_› | exact slT ‹_›)) hS.rd ?_
      refine LW.ex rfl rfl rfl rfl (Ex.lenSl rfl Try.underlying31 rfl) hS.rd ?_
      refine LW.ex rfl rfl rfl rfl (Ex.move rfl) hS.rd ?_
      refine LW.ex rfl rfl rfl rfl (Ex.neq rfl rfl rfl) hS.rd ?_
      refine LW.splitB (fun h2_11 => ?_) (fun h2_11 => ?_)
      · have h2_11 := of_decide_eq_true h2_11
        refine LW.ex rfl rfl rfl rfl (by first | exact Ex.pick_yes rfl rfl | exact Ex.pick_no rfl rfl) hS.rd ?_
        refine LW.ex rfl rfl rfl rfl (Ex.move rfl) hS.rd ?_
        refine LW.skip rfl rfl rfl rfl ?_
        refine LW.skip rfl rfl rfl rfl ?_
        refine LW.skip rfl rfl rfl rfl ?_
        refine LW.skip rfl rfl rfl rfl ?_
        refine LW.ex rfl rfl rfl rfl (by first | exact Ex.pick_yes rfl rfl | exact Ex.pick_no rfl rfl) hS.rd ?_
        refine LW.ex rfl rfl rfl rfl (Ex.move rfl) hS.rd ?_
        refine LW.skip rfl rfl rfl rfl ?_
        refine LW.skip rfl rfl rfl rfl ?_
        refine LW.skip rfl rfl rfl rfl ?_
        refine LW.ex rfl rfl rfl rfl (by first | exact Ex.pick_yes rfl rfl | exact Ex.pick_no rfl rfl) hS.rd ?_
        refine LW.ex rfl rfl rfl rfl (Ex.move rfl) hS.rd ?_
        refine LW.skip rfl rfl rfl rfl ?_
        refine LW.skip rfl rfl rfl rfl ?_
        refine LW.skip rfl rfl rfl rfl ?_
        refine LW.ex rfl rfl rfl rfl (by first | exact Ex.pick_yes rfl rfl | exact Ex.pick_no rfl rfl) hS.rd ?_
        refine LW.nil fun aa ha => hK16 _ _ _ ?_ aa ha
        refine CW.yes rfl ?_
        refine CW.seq fun K19 hK19 => ?_
        refine CW.region [0] rfl ?_
        refine LW.ex rfl rfl rfl rfl (Ex.assign rfl) hS.rd ?_
        refine LW.nil fun aa ha => hK19 _ _ _ ?_ aa ha
        refine CW.ret fun aa ha => ?_
        refine ret_one ha Try.results39 rfl ?_
        exact hS.retB (okM_no fun h => by have := h.n1; have := h.n2; have := h.nc; have := h.pl; have := h.b0; have := h.b1; omega).symm
      · have h2_11 := of_decide_eq_false h2_11
        refine LW.ex rfl rfl rfl rfl (by first | exact Ex.pick_yes rfl rfl | exact Ex.pick_no rfl rfl) hS.rd ?_
        refine LW.ex rfl rfl rfl rfl (Ex.move rfl) hS.rd ?_
        refine LW.ex rfl rfl rfl rfl (Ex.fieldO 2 Try.underlying34 rfl rfl ti32 rfl) hS.rd ?_
        refine LW.ex rfl rfl rfl rfl (Ex.load1 ti32 rfl rfl (by first | exact obT rfl | exact Rd.imm ‹_› | exact slT ‹_›)) hS.rd ?_
        refine LW.ex rfl rfl rfl rfl (Ex.lenSl rfl Try.underlying32 rfl) hS.rd ?_
        refine LW.ex rfl rfl rfl rfl (Ex.gtr rfl rfl rfl) hS.rd ?_
        refine LW.splitB (fun h2_17 => ?_) (fun h2_17 => ?_)
        · have h2_17 := of_decide_eq_true h2_17
          refine LW.ex rfl rfl rfl rfl (by first | exact Ex.pick_yes rfl rfl | exact Ex.pick_no rfl rfl) hS.rd ?_
          refine LW.ex rfl rfl rfl rfl (Ex.move rfl) hS.rd ?_
          refine LW.skip rfl rfl rfl rfl ?_
          refine LW.skip rfl rfl rfl rfl ?_
          refine LW.skip rfl rfl rfl rfl ?_
          refine LW.ex rfl rfl rfl rfl (by first | exact Ex.pick_yes rfl rfl | exact Ex.pick_no rfl rfl) hS.rd ?_
          refine LW.ex rfl rfl rfl rfl (Ex.move rfl) hS.rd ?_
          refine LW.skip rfl rfl rfl rfl ?_
          refine LW.skip rfl rfl rfl rfl ?_
          refine LW.skip rfl rfl rfl rfl ?_
          refine LW.ex rfl rfl rfl rfl (by first | exact Ex.pick_yes rfl rfl | exact Ex.pick_no rfl rfl) hS.rd ?_
          refine LW.nil fun aa ha => hK16 _ _ _ ?_ aa ha
          refine CW.yes rfl ?_
          refine CW.seq fun K20 hK20 => ?_
          refine CW.region [0] rfl ?_
          refine LW.ex rfl rfl rfl rfl (Ex.assign rfl) hS.rd ?_
          refine LW.nil fun aa ha => hK20 _ _ _ ?_ aa ha
          refine CW.ret fun aa ha => ?_
          refine ret_one ha Try.results39 rfl ?_
          exact hS.retB (okM_no fun h => by have := h.n1; have := h.n2; have := h.nc; have := h.pl; have := h.b0; have := h.b1; omega).symm
        · have h2_17 := of_decide_eq_false h2_17
          refine LW.ex rfl rfl rfl rfl (by first | exact Ex.pick_yes rfl rfl | exact Ex.pick_no rfl rfl) hS.rd ?_
          refine LW.ex rfl rfl rfl rfl (Ex.move rfl) hS.rd ?_
          refine LW.ex rfl rfl rfl rfl (Ex.fieldO 3 Try.underlying34 rfl rfl ti3 rfl) hS.rd ?_
          refine LW.ex rfl rfl rfl rfl (Ex.load1 ti3 rfl rfl (by first | exact obT rfl | exact Rd.imm ‹_› | exact slT ‹_›)) hS.rd ?_
          refine LW.ex rfl rfl rfl rfl (Ex.lss rfl rfl rfl) hS.rd ?_
          refine LW.splitB (fun h2_22 => ?_) (fun h2_22 => ?_)
          · have h2_22 := of_decide_eq_true h2_22
            refine LW.ex rfl rfl rfl rfl (by first | exact Ex.pick_yes rfl rfl | exact Ex.pick_no rfl rfl) hS.rd ?_
            refine LW.ex rfl rfl rfl rfl (Ex.move rfl) hS.rd ?_
            refine LW.skip rfl rfl rfl rfl ?_
            refine LW.skip rfl rfl rfl rfl ?_
            refine LW.skip rfl rfl rfl rfl ?_
            refine LW.ex rfl rfl rfl rfl (by first | exact Ex.pick_yes rfl rfl | exact Ex.pick_no rfl rfl) hS.rd ?_
            refine LW.nil fun aa ha => hK16 _ _ _ ?_ aa ha
            refine CW.yes rfl ?_
            refine CW.seq fun K21 hK21 => ?_
            refine CW.region [0] rfl ?_
            refine LW.ex rfl rfl rfl rfl (Ex.assign rfl) hS.rd ?_
            refine LW.nil fun aa ha => hK21 _ _ _ ?_ aa ha
            refine CW.ret fun aa ha => ?_
            refine ret_one ha Try.results39 rfl ?_
            exact hS.retB (okM_no fun h => by have := h.n1; have := h.n2; have := h.nc; have := h.pl; have := h.b0; have := h.b1; omega).symm
          · have h2_22 := of_decide_eq_false h2_22
            refine LW.ex rfl rfl rfl rfl (by first | exact Ex.pick_yes rfl rfl | exact Ex.pick_no rfl rfl) hS.rd ?_
            refine LW.ex rfl rfl rfl rfl (Ex.move rfl) hS.rd ?_
            refine LW.ex rfl rfl rfl rfl (Ex.fieldO 3 Try.underlying34 rfl rfl ti3 rfl) hS.rd ?_
            refine LW.ex rfl rfl rfl rfl (Ex.load1 ti3 rfl rfl (by first | exact obT rfl | exact Rd.imm ‹_› | exact slT ‹_›)) hS.rd ?_
            refine LW.ex rfl rfl rfl rfl (Ex.gtr rfl rfl rfl) hS.rd ?_
            refine LW.splitB (fun h2_27 => ?_) (fun h2_27 => ?_)
            · have h2_27 := of_decide_eq_true h2_27
              refine LW.ex rfl rfl rfl rfl (by first | exact Ex.pick_yes rfl rfl | exact Ex.pick_no rfl rfl) hS.rd ?_
              refine LW.nil fun aa ha => hK16 _ _ _ ?_ aa ha
              refine CW.yes rfl ?_
              refine CW.seq fun K22 hK22 => ?_
              refine CW.region [0] rfl ?_
              refine LW.ex rfl rfl rfl rfl (Ex.assign rfl) hS.rd ?_
              refine LW.nil fun aa ha => hK22 _ _ _ ?_ aa ha
              refine CW.ret fun aa ha => ?_
              refine ret_one ha Try.results39 rfl ?_
              exact hS.retB (okM_no fun h => by have := h.n1; have := h.n2; have := h.nc; have := h.pl; have := h.b0; have := h.b1; omega).symm
            · have h2_27 := of_decide_eq_false h2_27
              refine LW.ex rfl rfl rfl rfl (by first | exact Ex.pick_yes rfl rfl | exact Ex.pick_no rfl rfl) hS.rd ?_
              refine LW.nil fun aa ha => hK16 _ _ _ ?_ aa ha
              refine CW.no rfl ?_
              refine CW.skip fun aa ha => hK15 _ _ _ ?_ aa ha
              refine CW.seq fun K23 hK23 => ?_
              refine CW.seq fun K24 hK24 => ?_
              refine CW.region [0, 1, 2, 3] rfl ?_
              refine LW.ex rfl rfl rfl rfl (Ex.fieldO 0 Try.underlying34 rfl rfl ti30 rfl) hS.rd ?_
              refine LW.ex rfl rfl rfl rfl (Ex.load1 ti30 rfl rfl (by first | exact obT rfl | exact Rd.imm ‹_› | exact slT ‹_›)) hS.rd ?_
              refine LW.ex rfl rfl rfl rfl (Ex.lenSl rfl Try.underlying30 rfl) hS.rd ?_
              refine LW.ex rfl rfl rfl rfl (Ex.move rfl) hS.rd ?_
              refine LW.nil fun aa ha => hK24 _ _ _ ?_ aa ha
              refine CW.block ?_
              refine CW.loop (fun qq frm wl5 => ∃ (i : Nat), i ≤ m.Words.length ∧ qq = m.Words.length - i ∧ frm = [(1, .pointer (some ⟨b1, 0, none⟩)), (3, .int .i64 m.Words.length), (46, .slice a0 m.Words.length c0), (47, .int .i64 m.Words.length), (48, .int .i64 i)] ∧ St w wl5 μ [Own.obj b1 [.slice a0 m.Words.length c0, .slice a1 m.Counts.length c1, .slice a2 m.Pairs.length c2, .int .i64 m.Back] 34] ∧ (rises wordOk sLt none m.Words = rises wordOk sLt (prevOf m.Words i) (m.Words.drop i))) _ ⟨0, (by first | omega | (simp; done) | (simp; omega)), rfl, rfl, hS, rfl⟩ ⟨rfl, rfl, rfl, rfl, rfl, trivial⟩ ?_
              clear hS
              rintro qq frm wl5 ⟨i, hi, hq, rfl, hS, he⟩
              refine CW.seq fun K25 hK25 => ?_
              refine CW.region [0] rfl ?_
              refine LW.ex rfl rfl rfl rfl (Ex.lss rfl rfl rfl) hS.rd ?_
              refine LW.splitB (fun h5_0 => ?_) (fun h5_0 => ?_)
              · have h5_0 := of_decide_eq_true h5_0
                refine LW.nil fun aa ha => hK25 _ _ _ ?_ aa ha
                refine CW.seq fun K26 hK26 => ?_
                refine CW.yes rfl ?_
                refine CW.skip fun aa ha => hK26 _ _ _ ?_ aa ha
                refine CW.seq fun K27 hK27 => ?_
                refine CW.block ?_
                refine CW.seq fun K28 hK28 => ?_
                have hi2 : i < m.Words.length := by omega
                have hnn : i - 1 < m.Words.length := by omega
                obtain ⟨bl, ol, rfl, k0⟩ := hm0.at hi2
                obtain ⟨bl', ol', e', j0⟩ := hm0.at hnn
                cases e'
                refine CW.region [0, 1, 2, 3, 4] rfl ?_
                refine LW.ex rfl rfl rfl rfl (Ex.move rfl) hS.rd ?_
                refine LW.ex rfl rfl rfl rfl (Ex.indexSl Try.underlying30 ti9 rfl rfl rfl (by omega)) hS.rd ?_
                refine LW.ex rfl rfl rfl rfl (Ex.load1 ti9 rfl rfl (by first | exact obT rfl | exact Rd.imm ‹_› | exact slT ‹_›)) hS.rd ?_
                refine LW.ex rfl rfl rfl rfl (Ex.assign rfl) hS.rd ?_
                refine LW.ex rfl rfl rfl rfl (Ex.assign rfl) hS.rd ?_
                refine LW.nil fun aa ha => hK28 _ _ _ ?_ aa ha
                refine CW.seq fun K29 hK29 => ?_
                refine CW.region [0, 1, 2, 3, 4, 5, 6, 7, 8, 9, 10, 11, 12, 13, 14, 15, 16] rfl ?_
                refine LW.ex rfl rfl rfl rfl (Ex.move rfl) hS.rd ?_
                refine LW.hv rfl rfl rfl rfl (Hv.callS hS rfl rfl rfl cb61 (word_c m.Words[i] _ (hws _ (List.getElem_mem hi2)))) fun v w54 ⟨hv, hS⟩ => ?_
                subst hv
                refine LW.splitB (fun h7_1 => ?_) (fun h7_1 => ?_)
                · skip
                  refine LW.ex rfl rfl rfl rfl (Ex.not rfl rfl) hS.rd ?_
                  refine LW.ex rfl rfl rfl rfl (Ex.move rfl) hS.rd ?_
                  refine LW.ex rfl rfl rfl rfl (Ex.move rfl) hS.rd ?_
                  refine LW.ex rfl rfl rfl rfl (Ex.gtr rfl rfl rfl) hS.rd ?_
                  refine LW.splitB (fun h7_5 => ?_) (fun h7_5 => ?_)
                  · have h7_5 := of_decide_eq_true h7_5
                    refine LW.ex rfl rfl rfl rfl (Ex.move rfl) hS.rd ?_
                    refine LW.ex rfl rfl rfl rfl (Ex.fieldO 0 Try.underlying34 rfl rfl ti30 rfl) hS.rd ?_
                    refine LW.ex rfl rfl rfl rfl (Ex.load1 ti30 rfl rfl (by first | exact obT rfl | exact Rd.imm ‹_› | exact slT ‹_›)) hS.rd ?_
                    refine LW.ex rfl rfl rfl rfl (Ex.move rfl) hS.rd ?_
                    refine LW.ex rfl rfl rfl rfl (Ex.sub rfl rfl (by first | exact dec64 (by omega) (by omega) | exact subN (by omega) (by omega) | exact w64 (by omega) (by omega))) hS.rd ?_
                    refine LW.ex rfl rfl rfl rfl (Ex.indexSl Try.underlying30 ti9 rfl rfl rfl (by omega)) hS.rd ?_
                    refine LW.ex rfl rfl rfl rfl (Ex.load1 ti9 rfl rfl (by first | exact obT rfl | exact Rd.imm ‹_› | exact slT ‹_›)) hS.rd ?_
                    refine LW.ex rfl rfl rfl rfl (Ex.move rfl) hS.rd ?_
                    refine LW.ex rfl rfl rfl rfl (Ex.geqS rfl rfl rfl) hS.rd ?_
                    refine LW.splitB (fun h7_14 => ?_) (fun h7_14 => ?_)
                    · skip
                      refine LW.ex rfl rfl rfl rfl (by first | exact Ex.pick_yes rfl rfl | exact Ex.pick_no rfl rfl) hS.rd ?_
                      refine LW.ex rfl rfl rfl rfl (by first | exact Ex.pick_yes rfl rfl | exact Ex.pick_no rfl rfl) hS.rd ?_
                      refine LW.nil fun aa ha => hK29 _ _ _ ?_ aa ha
                      refine CW.yes rfl ?_
                      refine CW.seq fun K30 hK30 => ?_
                      refine CW.region [0] rfl ?_
                      refine LW.ex rfl rfl rfl rfl (Ex.assign rfl) hS.rd ?_
                      refine LW.nil fun aa ha => hK30 _ _ _ ?_ aa ha
                      refine CW.ret fun aa ha => ?_
                      refine ret_one ha Try.results39 rfl ?_
                      exact hS.retB (okM_no fun h => by have h1 := h.words; rw [he, rises_not2 _ _ _ _ hi2 (by omega) (by simpa using h7_14)] at h1; cases h1).symm
                    · skip
                      refine LW.ex rfl rfl rfl rfl (by first | exact Ex.pick_yes rfl rfl | exact Ex.pick_no rfl rfl) hS.rd ?_
                      refine LW.ex rfl rfl rfl rfl (by first | exact Ex.pick_yes rfl rfl | exact Ex.pick_no rfl rfl) hS.rd ?_
                      refine LW.nil fun aa ha => hK29 _ _ _ ?_ aa ha
                      refine CW.no rfl ?_
                      refine CW.skip fun aa ha => hK27 _ _ _ ?_ aa ha
                      refine CW.region [0, 1] rfl ?_
                      refine LW.ex rfl rfl rfl rfl (Ex.add rfl rfl (by first | exact inc64 (by omega) | exact addN (by omega) | exact w64 (by omega) (by omega))) hS.rd ?_
                      refine LW.ex rfl rfl rfl rfl (Ex.move rfl) hS.rd ?_
                      refine LW.nil fun aa ha => ?_
                      refine ⟨_, _, ?m5, ⟨i + 1, (by first | omega | (simp; done) | (simp; omega)), rfl, rfl, hS, ?_⟩, ha.sub ⟨rfl, rfl, rfl, rfl, rfl, trivial⟩⟩
                      case m5 => omega
                      rw [he]; exact rises_step _ _ _ _ hi2 h7_1 (fun _ => by simpa using h7_14)
                  · have h7_5 := of_decide_eq_false h7_5
                    refine LW.ex rfl rfl rfl rfl (Ex.move rfl) hS.rd ?_
                    refine LW.skip rfl rfl rfl rfl ?_
                    refine LW.skip rfl rfl rfl rfl ?_
                    refine LW.skip rfl rfl rfl rfl ?_
                    refine LW.skip rfl rfl rfl rfl ?_
                    refine LW.skip rfl rfl rfl rfl ?_
                    refine LW.skip rfl rfl rfl rfl ?_
                    refine LW.skip rfl rfl rfl rfl ?_
                    refine LW.skip rfl rfl rfl rfl ?_
                    refine LW.ex rfl rfl rfl rfl (by first | exact Ex.pick_yes rfl rfl | exact Ex.pick_no rfl rfl) hS.rd ?_
                    refine LW.ex rfl rfl rfl rfl (by first | exact Ex.pick_yes rfl rfl | exact Ex.pick_no rfl rfl) hS.rd ?_
                    refine LW.nil fun aa ha => hK29 _ _ _ ?_ aa ha
                    refine CW.no rfl ?_
                    refine CW.skip fun aa ha => hK27 _ _ _ ?_ aa ha
                    refine CW.region [0, 1] rfl ?_
                    refine LW.ex rfl rfl rfl rfl (Ex.add rfl rfl (by first | exact inc64 (by omega) | exact addN (by omega) | exact w64 (by omega) (by omega))) hS.rd ?_
                    refine LW.ex rfl rfl rfl rfl (Ex.move rfl) hS.rd ?_
                    refine LW.nil fun aa ha => ?_
                    refine ⟨_, _, ?m5, ⟨i + 1, (by first | omega | (simp; done) | (simp; omega)), rfl, rfl, hS, ?_⟩, ha.sub ⟨rfl, rfl, rfl, rfl, rfl, trivial⟩⟩
                    case m5 => omega
                    rw [he]; exact rises_step _ _ _ _ hi2 h7_1 (fun h0 => by omega)
                · skip
                  refine LW.ex rfl rfl rfl rfl (Ex.not rfl rfl) hS.rd ?_
                  refine LW.ex rfl rfl rfl rfl (Ex.move rfl) hS.rd ?_
                  refine LW.skip rfl rfl rfl rfl ?_
                  refine LW.skip rfl rfl rfl rfl ?_
                  refine LW.skip rfl rfl rfl rfl ?_
                  refine LW.skip rfl rfl rfl rfl ?_
                  refine LW.skip rfl rfl rfl rfl ?_
                  refine LW.skip rfl rfl rfl rfl ?_
                  refine LW.skip rfl rfl rfl rfl ?_
                  refine LW.skip rfl rfl rfl rfl ?_
                  refine LW.skip rfl rfl rfl rfl ?_
                  refine LW.skip rfl rfl rfl rfl ?_
                  refine LW.skip rfl rfl rfl rfl ?_
                  refine LW.skip rfl rfl rfl rfl ?_
                  refine LW.ex rfl rfl rfl rfl (by first | exact Ex.pick_yes rfl rfl | exact Ex.pick_no rfl rfl) hS.rd ?_
                  refine LW.nil fun aa ha => hK29 _ _ _ ?_ aa ha
                  refine CW.yes rfl ?_
                  refine CW.seq fun K31 hK31 => ?_
                  refine CW.region [0] rfl ?_
                  refine LW.ex rfl rfl rfl rfl (Ex.assign rfl) hS.rd ?_
                  refine LW.nil fun aa ha => hK31 _ _ _ ?_ aa ha
                  refine CW.ret fun aa ha => ?_
                  refine ret_one ha Try.results39 rfl ?_
                  exact hS.retB (okM_no fun h => by have h1 := h.words; rw [he, rises_not _ _ _ _ hi2 h7_1] at h1; cases h1).symm
              · have h5_0 := of_decide_eq_false h5_0
                refine LW.nil fun aa ha => hK25 _ _ _ ?_ aa ha
                refine CW.seq fun K32 hK32 => ?_
                refine CW.no rfl ?_
                refine CW.exit fun aa ha => hK23 _ _ _ ?_ aa ha
                refine CW.seq fun K33 hK33 => ?_
                refine CW.seq fun K34 hK34 => ?_
                have hW : rises wordOk sLt none m.Words = true := by rw [he]; exact rises_end _ _ _ _ (by omega)
                refine CW.region [0, 1, 2, 3, 4, 5, 6, 7] rfl ?_
                refine LW.ex rfl rfl rfl rfl (Ex.fieldO 1 Try.underlying34 rfl rfl ti31 rfl) hS.rd ?_
                refine LW.ex rfl rfl rfl rfl (Ex.load1 ti31 rfl rfl (by first | exact obT rfl | exact Rd.imm ‹_› | exact slT ‹_›)) hS.rd ?_
                refine LW.hv rfl rfl rfl rfl (Hv.callS hS rfl rfl rfl cb62 (total_c m.Counts 0 (by omega) (by omega) _ _ _ _ hS.imm hm1)) fun v w74 ⟨hv, hS⟩ => ?_
                subst hv
                refine LW.ex rfl rfl rfl rfl (Ex.move rfl) hS.rd ?_
                refine LW.ex rfl rfl rfl rfl (Ex.extract rfl rfl) hS.rd ?_
                refine LW.ex rfl rfl rfl rfl (Ex.extract rfl rfl) hS.rd ?_
                refine LW.splitB (fun h10_5 => ?_) (fun h10_5 => ?_)
                · skip
                  refine LW.ex rfl rfl rfl rfl (Ex.assign rfl) hS.rd ?_
                  refine LW.ex rfl rfl rfl rfl (Ex.assign rfl) hS.rd ?_
                  refine LW.nil fun aa ha => hK34 _ _ _ ?_ aa ha
                  refine CW.seq fun K35 hK35 => ?_
                  refine CW.region [0, 1] rfl ?_
                  refine LW.ex rfl rfl rfl rfl (Ex.move rfl) hS.rd ?_
                  refine LW.ex rfl rfl rfl rfl (Ex.not rfl rfl) hS.rd ?_
                  refine LW.nil fun aa ha => hK35 _ _ _ ?_ aa ha
                  refine CW.no rfl ?_
                  refine CW.skip fun aa ha => hK33 _ _ _ ?_ aa ha
                  refine CW.seq fun K36 hK36 => ?_
                  refine CW.seq fun K37 hK37 => ?_
                  refine CW.region [0, 1, 2, 3] rfl ?_
                  refine LW.ex rfl rfl rfl rfl (Ex.fieldO 2 Try.underlying34 rfl rfl ti32 rfl) hS.rd ?_
                  refine LW.ex rfl rfl rfl rfl (Ex.load1 ti32 rfl rfl (by first | exact obT rfl | exact Rd.imm ‹_› | exact slT ‹_›)) hS.rd ?_
                  refine LW.ex rfl rfl rfl rfl (Ex.lenSl rfl Try.underlying32 rfl) hS.rd ?_
                  refine LW.ex rfl rfl rfl rfl (Ex.move rfl) hS.rd ?_
                  refine LW.nil fun aa ha => hK37 _ _ _ ?_ aa ha
                  refine CW.block ?_
                  refine CW.loop (fun qq frm wl14 => ∃ (i : Nat), i ≤ m.Pairs.length ∧ qq = m.Pairs.length - i ∧ frm = [(1, .pointer (some ⟨b1, 0, none⟩)), (3, .int .i64 m.Words.length), (80, .slice a2 m.Pairs.length c2), (81, .int .i64 m.Pairs.length), (82, .int .i64 i)] ∧ St w wl14 μ [Own.obj b1 [.slice a0 m.Words.length c0, .slice a1 m.Counts.length c1, .slice a2 m.Pairs.length c2, .int .i64 m.Back] 34] ∧ (rises (prIn m.Words.length) prLess none m.Pairs = rises (prIn m.Words.length) prLess (prevOf m.Pairs i) (m.Pairs.drop i))) _ ⟨0, (by first | omega | (simp; done) | (simp; omega)), rfl, rfl, hS, rfl⟩ ⟨rfl, rfl, rfl, rfl, rfl, trivial⟩ ?_
                  clear hS
                  rintro qq frm wl14 ⟨i, hi, hq, rfl, hS, hf⟩
                  refine CW.seq fun K38 hK38 => ?_
                  refine CW.region [0] rfl ?_
                  refine LW.ex rfl rfl rfl rfl (Ex.lss rfl rfl rfl) hS.rd ?_
                  refine LW.splitB (fun h14_0 => ?_) (fun h14_0 => ?_)
                  · have h14_0 := of_decide_eq_true h14_0
                    refine LW.nil fun aa ha => hK38 _ _ _ ?_ aa ha
                    refine CW.seq fun K39 hK39 => ?_
                    refine CW.yes rfl ?_
                    refine CW.skip fun aa ha => hK39 _ _ _ ?_ aa ha
                    refine CW.seq fun K40 hK40 => ?_
                    refine CW.block ?_
                    refine CW.seq fun K41 hK41 => ?_
                    have hi2 : i < m.Pairs.length := by omega
                    have hnn : i - 1 < m.Pairs.length := by omega
                    obtain ⟨bl, ol, rfl, k0, k1, k2⟩ := hm2.at hi2
                    obtain ⟨bl', ol', e', j0, j1, j2⟩ := hm2.at hnn
                    cases e'
                    refine CW.region [0, 1, 2, 3, 4, 5] rfl ?_
                    refine LW.ex rfl rfl rfl rfl (Ex.move rfl) hS.rd ?_
                    refine LW.ex rfl rfl rfl rfl (Ex.indexSl Try.underlying32 ti87 rfl rfl rfl (by omega)) hS.rd ?_
                    refine LW.ex rfl rfl rfl rfl (Ex.load3c ti87 rfl rfl (by first | exact obT rfl | exact Rd.imm ‹_› | exact slT ‹_›) (by first | exact obT rfl | exact Rd.imm ‹_› | exact slT ‹_›) (by first | exact obT rfl | exact Rd.imm ‹_› | exact slT ‹_›)) hS.rd ?_
                    refine LW.hv rfl rfl rfl rfl (Hv.alloc ti87 hS) fun v w9 ⟨b9, hv, hb9, hS⟩ => ?_
                    subst hv
                    refine LW.ex rfl rfl rfl rfl (Ex.assign rfl) hS.rd ?_
                    refine LW.hu rfl rfl rfl (Hv.storeN (k := 0) ti87 hS rfl rfl rfl rfl (by simp [Value.oneCell'])) fun _ w_5 hS => ?_
                    dsimp only [List.set] at hS
                    refine LW.nil fun aa ha => hK41 _ _ _ ?_ aa ha
                    refine CW.seq fun K42 hK42 => ?_
                    have hS := hS.drew
                    refine CW.draw 36 (.ex 0 <| .ex 1 <| .ex 2 <| .ex 3 <| .ex 4 <| .ex 5 <| .ex 6 <| .ex 7 <| .ex 8 <| .ex 9 <| .ex 10 <| .ex 11 <| .ex 12 <| .ex 13 <| .ex 14 <| .ex 15 <| .ex 16 <| .ex 17 <| .ex 18 <| .ex 19 <| .ex 20 <| .ex 21 <| .ex 22 <| .ex 23 <| .ex 24 <| .ex 25 <| .ex 26 <| .ex 27 <| .ex 28 <| .ex 29 <| .ex 30 <| .ex 31 <| .one 32 <| .ex 33 <| .ex 34 <| .ex 35 <| .done) [] (Rd _ _) mixed (by kernel_rfl) rfl rfl hS.rd ?_
                    refine PW.ex rfl rfl rfl rfl (Ex.fieldO 0 Try.underlying87 rfl rfl ti3 rfl) ?_
                    refine PW.ex rfl rfl rfl rfl (Ex.load1 ti3 rfl rfl (by first | exact obT rfl | exact Rd.imm ‹_› | exact slT ‹_›)) ?_
                    refine PW.ex rfl rfl rfl rfl (Ex.lss rfl rfl rfl) ?_
                    refine PW.splitB (fun h16_2 => ?_) (fun h16_2 => ?_)
                    · have h16_2 := of_decide_eq_true h16_2
                      refine PW.ex rfl rfl rfl rfl (Ex.move rfl) ?_
                      refine PW.skip rfl rfl rfl rfl ?_
                      refine PW.skip rfl rfl rfl rfl ?_
                      refine PW.skip rfl rfl rfl rfl ?_
                      refine PW.skip rfl rfl rfl rfl ?_
                      refine PW.ex rfl rfl rfl rfl (by first | exact Ex.pick_yes rfl rfl | exact Ex.pick_no rfl rfl) ?_
                      refine PW.ex rfl rfl rfl rfl (Ex.move rfl) ?_
                      refine PW.skip rfl rfl rfl rfl ?_
                      refine PW.skip rfl rfl rfl rfl ?_
                      refine PW.skip rfl rfl rfl rfl ?_
                      refine PW.ex rfl rfl rfl rfl (by first | exact Ex.pick_yes rfl rfl | exact Ex.pick_no rfl rfl) ?_
                      refine PW.ex rfl rfl rfl rfl (Ex.move rfl) ?_
                      refine PW.skip rfl rfl rfl rfl ?_
                      refine PW.skip rfl rfl rfl rfl ?_
                      refine PW.skip rfl rfl rfl rfl ?_
                      refine PW.skip rfl rfl rfl rfl ?_
                      refine PW.ex rfl rfl rfl rfl (by first | exact Ex.pick_yes rfl rfl | exact Ex.pick_no rfl rfl) ?_
                      refine PW.ex rfl rfl rfl rfl (Ex.move rfl) ?_
                      refine PW.skip rfl rfl rfl rfl ?_
                      refine PW.skip rfl rfl rfl rfl ?_
                      refine PW.skip rfl rfl rfl rfl ?_
                      refine PW.skip rfl rfl rfl rfl ?_
                      refine PW.skip rfl rfl rfl rfl ?_
                      refine PW.skip rfl rfl rfl rfl ?_
                      refine PW.skip rfl rfl rfl rfl ?_
                      refine PW.skip rfl rfl rfl rfl ?_
                      refine PW.skip rfl rfl rfl rfl ?_
                      refine PW.skip rfl rfl rfl rfl ?_
                      refine PW.skip rfl rfl rfl rfl ?_
                      refine PW.skip1 rfl rfl rfl rfl ?_
                      refine PW.skip rfl rfl rfl rfl ?_
                      refine PW.skip rfl rfl rfl rfl ?_
                      refine PW.ex rfl rfl rfl rfl (by first | exact Ex.pick_yes rfl rfl | exact Ex.pick_no rfl rfl) ?_
                      refine PW.nil ?_
                      refine LW.nil fun aa ha => hK42 _ _ _ ?_ aa ha
                      refine CW.yes rfl ?_
                      refine CW.seq fun K43 hK43 => ?_
                      refine CW.region [0] rfl ?_
                      refine LW.ex rfl rfl rfl rfl (Ex.assign rfl) hS.rd ?_
                      refine LW.nil fun aa ha => hK43 _ _ _ ?_ aa ha
                      refine CW.ret fun aa ha => ?_
                      refine ret_one ha Try.results39 rfl ?_
                      exact hS.retB (okM_no fun h => by have h1 := h.rises; rw [hf, rises_not _ _ _ _ hi2 (decide_eq_false (by omega))] at h1; cases h1).symm
                    · have h16_2 := of_decide_eq_false h16_2
                      refine PW.ex rfl rfl rfl rfl (Ex.move rfl) ?_
                      refine PW.ex rfl rfl rfl rfl (Ex.fieldO 0 Try.underlying87 rfl rfl ti3 rfl) ?_
                      refine PW.ex rfl rfl rfl rfl (Ex.load1 ti3 rfl rfl (by first | exact obT rfl | exact Rd.imm ‹_› | exact slT ‹_›)) ?_
                      refine PW.ex rfl rfl rfl rfl (Ex.move rfl) ?_
                      refine PW.ex rfl rfl rfl rfl (Ex.geq rfl rfl rfl) ?_
                      refine PW.splitB (fun h16_7 => ?_) (fun h16_7 => ?_)
                      · have h16_7 := of_decide_eq_true h16_7
                        refine PW.ex rfl rfl rfl rfl (by first | exact Ex.pick_yes rfl rfl | exact Ex.pick_no rfl rfl) ?_
                        refine PW.ex rfl rfl rfl rfl (Ex.move rfl) ?_
                        refine PW.skip rfl rfl rfl rfl ?_
                        refine PW.skip rfl rfl rfl rfl ?_
                        refine PW.skip rfl rfl rfl rfl ?_
                        refine PW.ex rfl rfl rfl rfl (by first | exact Ex.pick_yes rfl rfl | exact Ex.pick_no rfl rfl) ?_
                        refine PW.ex rfl rfl rfl rfl (Ex.move rfl) ?_
                        refine PW.skip rfl rfl rfl rfl ?_
                        refine PW.skip rfl rfl rfl rfl ?_
                        refine PW.skip rfl rfl rfl rfl ?_
                        refine PW.skip rfl rfl rfl rfl ?_
                        refine PW.ex rfl rfl rfl rfl (by first | exact Ex.pick_yes rfl rfl | exact Ex.pick_no rfl rfl) ?_
                        refine PW.ex rfl rfl rfl rfl (Ex.move rfl) ?_
                        refine PW.skip rfl rfl rfl rfl ?_
                        refine PW.skip rfl rfl rfl rfl ?_
                        refine PW.skip rfl rfl rfl rfl ?_
                        refine PW.skip rfl rfl rfl rfl ?_
                        refine PW.skip rfl rfl rfl rfl ?_
                        refine PW.skip rfl rfl rfl rfl ?_
                        refine PW.skip rfl rfl rfl rfl ?_
                        refine PW.skip rfl rfl rfl rfl ?_
                        refine PW.skip rfl rfl rfl rfl ?_
                        refine PW.skip rfl rfl rfl rfl ?_
                        refine PW.skip rfl rfl rfl rfl ?_
                        refine PW.skip1 rfl rfl rfl rfl ?_
                        refine PW.skip rfl rfl rfl rfl ?_
                        refine PW.skip rfl rfl rfl rfl ?_
                        refine PW.ex rfl rfl rfl rfl (by first | exact Ex.pick_yes rfl rfl | exact Ex.pick_no rfl rfl) ?_
                        refine PW.nil ?_
                        refine LW.nil fun aa ha => hK42 _ _ _ ?_ aa ha
                        refine CW.yes rfl ?_
                        refine CW.seq fun K44 hK44 => ?_
                        refine CW.region [0] rfl ?_
                        refine LW.ex rfl rfl rfl rfl (Ex.assign rfl) hS.rd ?_
                        refine LW.nil fun aa ha => hK44 _ _ _ ?_ aa ha
                        refine CW.ret fun aa ha => ?_
                        refine ret_one ha Try.results39 rfl ?_
                        exact hS.retB (okM_no fun h => by have h1 := h.rises; rw [hf, rises_not _ _ _ _ hi2 (decide_eq_false (by omega))] at h1; cases h1).symm
                      · have h16_7 := of_decide_eq_false h16_7
                        refine PW.ex rfl rfl rfl rfl (by first | exact Ex.pick_yes rfl rfl | exact Ex.pick_no rfl rfl) ?_
                        refine PW.ex rfl rfl rfl rfl (Ex.move rfl) ?_
                        refine PW.ex rfl rfl rfl rfl (Ex.fieldO 1 Try.underlying87 rfl rfl ti3 rfl) ?_
                        refine PW.ex rfl rfl rfl rfl (Ex.load1 ti3 rfl rfl (by first | exact obT rfl | exact Rd.imm ‹_› | exact slT ‹_›)) ?_
                        refine PW.ex rfl rfl rfl rfl (Ex.lss rfl rfl rfl) ?_
                        refine PW.splitB (fun h16_12 => ?_) (fun h16_12 => ?_)
                        · have h16_12 := of_decide_eq_true h16_12
                          refine PW.ex rfl rfl rfl rfl (by first | exact Ex.pick_yes rfl rfl | exact Ex.pick_no rfl rfl) ?_
                          refine PW.ex rfl rfl rfl rfl (Ex.move rfl) ?_
                          refine PW.skip rfl rfl rfl rfl ?_
                          refine PW.skip rfl rfl rfl rfl ?_
                          refine PW.skip rfl rfl rfl rfl ?_
                          refine PW.skip rfl rfl rfl rfl ?_
                          refine PW.ex rfl rfl rfl rfl (by first | exact Ex.pick_yes rfl rfl | exact Ex.pick_no rfl rfl) ?_
                          refine PW.ex rfl rfl rfl rfl (Ex.move rfl) ?_
                          refine PW.skip rfl rfl rfl rfl ?_
                          refine PW.skip rfl rfl rfl rfl ?_
                          refine PW.skip rfl rfl rfl rfl ?_
                          refine PW.skip rfl rfl rfl rfl ?_
                          refine PW.skip rfl rfl rfl rfl ?_
                          refine PW.skip rfl rfl rfl rfl ?_
                          refine PW.skip rfl rfl rfl rfl ?_
                          refine PW.skip rfl rfl rfl rfl ?_
                          refine PW.skip rfl rfl rfl rfl ?_
                          refine PW.skip rfl rfl rfl rfl ?_
                          refine PW.skip rfl rfl rfl rfl ?_
                          refine PW.skip1 rfl rfl rfl rfl ?_
                          refine PW.skip rfl rfl rfl rfl ?_
                          refine PW.skip rfl rfl rfl rfl ?_
                          refine PW.ex rfl rfl rfl rfl (by first | exact Ex.pick_yes rfl rfl | exact Ex.pick_no rfl rfl) ?_
                          refine PW.nil ?_
                          refine LW.nil fun aa ha => hK42 _ _ _ ?_ aa ha
                          refine CW.yes rfl ?_
                          refine CW.seq fun K45 hK45 => ?_
                          refine CW.region [0] rfl ?_
                          refine LW.ex rfl rfl rfl rfl (Ex.assign rfl) hS.rd ?_
                          refine LW.nil fun aa ha => hK45 _ _ _ ?_ aa ha
                          refine CW.ret fun aa ha => ?_
                          refine ret_one ha Try.results39 rfl ?_
                          exact hS.retB (okM_no fun h => by have h1 := h.rises; rw [hf, rises_not _ _ _ _ hi2 (decide_eq_false (by omega))] at h1; cases h1).symm
                        · have h16_12 := of_decide_eq_false h16_12
                          refine PW.ex rfl rfl rfl rfl (by first | exact Ex.pick_yes rfl rfl | exact Ex.pick_no rfl rfl) ?_
                          refine PW.ex rfl rfl rfl rfl (Ex.move rfl) ?_
                          refine PW.ex rfl rfl rfl rfl (Ex.fieldO 1 Try.underlying87 rfl rfl ti3 rfl) ?_
                          refine PW.ex rfl rfl rfl rfl (Ex.load1 ti3 rfl rfl (by first | exact obT rfl | exact Rd.imm ‹_› | exact slT ‹_›)) ?_
                          refine PW.ex rfl rfl rfl rfl (Ex.move rfl) ?_
                          refine PW.ex rfl rfl rfl rfl (Ex.geq rfl rfl rfl) ?_
                          refine PW.splitB (fun h16_18 => ?_) (fun h16_18 => ?_)
                          · have h16_18 := of_decide_eq_true h16_18
                            refine PW.ex rfl rfl rfl rfl (by first | exact Ex.pick_yes rfl rfl | exact Ex.pick_no rfl rfl) ?_
                            refine PW.ex rfl rfl rfl rfl (Ex.move rfl) ?_
                            refine PW.skip rfl rfl rfl rfl ?_
                            refine PW.skip rfl rfl rfl rfl ?_
                            refine PW.skip rfl rfl rfl rfl ?_
                            refine PW.skip rfl rfl rfl rfl ?_
                            refine PW.skip rfl rfl rfl rfl ?_
                            refine PW.skip rfl rfl rfl rfl ?_
                            refine PW.skip rfl rfl rfl rfl ?_
                            refine PW.skip rfl rfl rfl rfl ?_
                            refine PW.skip rfl rfl rfl rfl ?_
                            refine PW.skip rfl rfl rfl rfl ?_
                            refine PW.skip rfl rfl rfl rfl ?_
                            refine PW.skip1 rfl rfl rfl rfl ?_
                            refine PW.skip rfl rfl rfl rfl ?_
                            refine PW.skip rfl rfl rfl rfl ?_
                            refine PW.ex rfl rfl rfl rfl (by first | exact Ex.pick_yes rfl rfl | exact Ex.pick_no rfl rfl) ?_
                            refine PW.nil ?_
                            refine LW.nil fun aa ha => hK42 _ _ _ ?_ aa ha
                            refine CW.yes rfl ?_
                            refine CW.seq fun K46 hK46 => ?_
                            refine CW.region [0] rfl ?_
                            refine LW.ex rfl rfl rfl rfl (Ex.assign rfl) hS.rd ?_
                            refine LW.nil fun aa ha => hK46 _ _ _ ?_ aa ha
                            refine CW.ret fun aa ha => ?_
                            refine ret_one ha Try.results39 rfl ?_
                            exact hS.retB (okM_no fun h => by have h1 := h.rises; rw [hf, rises_not _ _ _ _ hi2 (decide_eq_false (by omega))] at h1; cases h1).symm
                          · have h16_18 := of_decide_eq_false h16_18
                            refine PW.ex rfl rfl rfl rfl (by first | exact Ex.pick_yes rfl rfl | exact Ex.pick_no rfl rfl) ?_
                            refine PW.ex rfl rfl rfl rfl (Ex.move rfl) ?_
                            refine PW.ex rfl rfl rfl rfl (Ex.move rfl) ?_
                            refine PW.ex rfl rfl rfl rfl (Ex.gtr rfl rfl rfl) ?_
                            refine PW.splitB (fun h16_22 => ?_) (fun h16_22 => ?_)
                            · have h16_22 := of_decide_eq_true h16_22
                              refine PW.ex rfl rfl rfl rfl (Ex.move rfl) ?_
                              refine PW.ex rfl rfl rfl rfl (Ex.fieldO 2 Try.underlying34 rfl rfl ti32 rfl) ?_
                              refine PW.ex rfl rfl rfl rfl (Ex.load1 ti32 rfl rfl (by first | exact obT rfl | exact Rd.imm ‹_› | exact slT ‹_›)) ?_
                              refine PW.ex rfl rfl rfl rfl (Ex.move rfl) ?_
                              refine PW.ex rfl rfl rfl rfl (Ex.sub rfl rfl (by first | exact dec64 (by omega) (by omega) | exact subN (by omega) (by omega) | exact w64 (by omega) (by omega))) ?_
                              refine PW.ex rfl rfl rfl rfl (Ex.indexSl Try.underlying32 ti87 rfl rfl rfl (by omega)) ?_
                              refine PW.ex rfl rfl rfl rfl (Ex.load3c ti87 rfl rfl (by first | exact obT rfl | exact Rd.imm ‹_› | exact slT ‹_›) (by first | exact obT rfl | exact Rd.imm ‹_› | exact slT ‹_›) (by first | exact obT rfl | exact Rd.imm ‹_› | exact slT ‹_›)) ?_
                              refine PW.ex rfl rfl rfl rfl (Ex.buildS st132 rfl rfl rfl) ?_
                              refine PW.ex rfl rfl rfl rfl (Ex.load3c ti87 rfl rfl (by first | exact obT rfl | exact Rd.imm ‹_› | exact slT ‹_›) (by first | exact obT rfl | exact Rd.imm ‹_› | exact slT ‹_›) (by first | exact obT rfl | exact Rd.imm ‹_› | exact slT ‹_›)) ?_
                              refine PW.hv rfl rfl rfl rfl (Hv.callS hS rfl rfl rfl cb63 (keyCmp_c m.Pairs[i - 1].A m.Pairs[i - 1].B m.Pairs[i - 1].N m.Pairs[i] _)) (fun _ _ h => h.2.rd) fun v w119 ⟨hv, hS⟩ => ?_
                              subst hv
                              refine PW.ex rfl rfl rfl rfl (Ex.leq rfl rfl rfl) ?_
                              refine PW.splitB (fun h16_33 => ?_) (fun h16_33 => ?_)
                              · have h16_33 := of_decide_eq_true h16_33
                                refine PW.ex rfl rfl rfl rfl (by first | exact Ex.pick_yes rfl rfl | exact Ex.pick_no rfl rfl) ?_
                                refine PW.ex rfl rfl rfl rfl (by first | exact Ex.pick_yes rfl rfl | exact Ex.pick_no rfl rfl) ?_
                                refine PW.nil ?_
                                refine LW.nil fun aa ha => hK42 _ _ _ ?_ aa ha
                                refine CW.yes rfl ?_
                                refine CW.seq fun K47 hK47 => ?_
                                refine CW.region [0] rfl ?_
                                refine LW.ex rfl rfl rfl rfl (Ex.assign rfl) hS.rd ?_
                                refine LW.nil fun aa ha => hK47 _ _ _ ?_ aa ha
                                refine CW.ret fun aa ha => ?_
                                refine ret_one ha Try.results39 rfl ?_
                                exact hS.retB (okM_no fun h => by have h1 := h.rises; rw [hf, rises_not2 _ _ _ _ hi2 (by omega) (prLess_key2 h16_33)] at h1; cases h1).symm
                              · have h16_33 := of_decide_eq_false h16_33
                                refine PW.ex rfl rfl rfl rfl (by first | exact Ex.pick_yes rfl rfl | exact Ex.pick_no rfl rfl) ?_
                                refine PW.ex rfl rfl rfl rfl (by first | exact Ex.pick_yes rfl rfl | exact Ex.pick_no rfl rfl) ?_
                                refine PW.nil ?_
                                refine LW.nil fun aa ha => hK42 _ _ _ ?_ aa ha
                                refine CW.no rfl ?_
                                refine CW.skip fun aa ha => hK40 _ _ _ ?_ aa ha
                                refine CW.region [0, 1] rfl ?_
                                refine LW.ex rfl rfl rfl rfl (Ex.add rfl rfl (by first | exact inc64 (by omega) | exact addN (by omega) | exact w64 (by omega) (by omega))) hS.rd ?_
                                refine LW.ex rfl rfl rfl rfl (Ex.move rfl) hS.rd ?_
                                refine LW.nil fun aa ha => ?_
                                have hS := hS.drop 0 rfl
                                dsimp only [List.eraseIdx] at hS
                                refine ⟨_, _, ?m14, ⟨i + 1, (by first | omega | (simp; done) | (simp; omega)), rfl, rfl, hS, ?_⟩, ha.sub ⟨rfl, rfl, rfl, rfl, rfl, trivial⟩⟩
                                case m14 => omega
                                rw [hf]; exact rises_step _ _ _ _ hi2 (decide_eq_true (by omega)) (fun _ => prLess_key h16_33)
                            · have h16_22 := of_decide_eq_false h16_22
                              refine PW.ex rfl rfl rfl rfl (Ex.move rfl) ?_
                              refine PW.skip rfl rfl rfl rfl ?_
                              refine PW.skip rfl rfl rfl rfl ?_
                              refine PW.skip rfl rfl rfl rfl ?_
                              refine PW.skip rfl rfl rfl rfl ?_
                              refine PW.skip rfl rfl rfl rfl ?_
                              refine PW.skip rfl rfl rfl rfl ?_
                              refine PW.skip rfl rfl rfl rfl ?_
                              refine PW.skip rfl rfl rfl rfl ?_
                              refine PW.skip1 rfl rfl rfl rfl ?_
                              refine PW.skip rfl rfl rfl rfl ?_
                              refine PW.ex rfl rfl rfl rfl (by first | exact Ex.pick_yes rfl rfl | exact Ex.pick_no rfl rfl) ?_
                              refine PW.ex rfl rfl rfl rfl (by first | exact Ex.pick_yes rfl rfl | exact Ex.pick_no rfl rfl) ?_
                              refine PW.nil ?_
                              refine LW.nil fun aa ha => hK42 _ _ _ ?_ aa ha
                              refine CW.no rfl ?_
                              refine CW.skip fun aa ha => hK40 _ _ _ ?_ aa ha
                              refine CW.region [0, 1] rfl ?_
                              refine LW.ex rfl rfl rfl rfl (Ex.add rfl rfl (by first | exact inc64 (by omega) | exact addN (by omega) | exact w64 (by omega) (by omega))) hS.rd ?_
                              refine LW.ex rfl rfl rfl rfl (Ex.move rfl) hS.rd ?_
                              refine LW.nil fun aa ha => ?_
                              have hS := hS.drop 0 rfl
                              dsimp only [List.eraseIdx] at hS
                              refine ⟨_, _, ?m14, ⟨i + 1, (by first | omega | (simp; done) | (simp; omega)), rfl, rfl, hS, ?_⟩, ha.sub ⟨rfl, rfl, rfl, rfl, rfl, trivial⟩⟩
                              case m14 => omega
                              rw [hf]; exact rises_step _ _ _ _ hi2 (decide_eq_true (by omega)) (fun h0 => by omega)
                  · have h14_0 := of_decide_eq_false h14_0
                    refine LW.nil fun aa ha => hK38 _ _ _ ?_ aa ha
                    refine CW.seq fun K48 hK48 => ?_
                    refine CW.no rfl ?_
                    refine CW.exit fun aa ha => hK36 _ _ _ ?_ aa ha
                    refine CW.seq fun K49 hK49 => ?_
                    refine CW.seq fun K50 hK50 => ?_
                    have hP : rises (prIn m.Words.length) prLess none m.Pairs = true := by rw [hf]; exact rises_end _ _ _ _ (by omega)
                    have hPs : PrSort m.Pairs := (rises_pair prLess_trans hP).1
                    have hPB : ∀ p ∈ m.Pairs, 0 ≤ p.B := fun p hp => by have := rises_all hP p hp; unfold prIn at this; rw [decide_eq_true_eq] at this; omega
                    refine CW.region [0, 1] rfl ?_
                    refine LW.ex rfl rfl rfl rfl (Ex.move rfl) hS.rd ?_
                    refine LW.ex rfl rfl rfl rfl (Ex.move rfl) hS.rd ?_
                    refine LW.nil fun aa ha => hK50 _ _ _ ?_ aa ha
                    refine CW.block ?_
                    refine CW.loop (fun qq frm wl20 => ∃ (a : Nat) (μ2 : Mem), a ≤ m.Words.length ∧ qq = m.Words.length - a ∧ frm = [(1, .pointer (some ⟨b1, 0, none⟩)), (124, .int .i64 m.Words.length), (125, .int .i64 a)] ∧ St w wl20 μ2 [Own.obj b1 [.slice a0 m.Words.length c0, .slice a1 m.Counts.length c1, .slice a2 m.Pairs.length c2, .int .i64 m.Back] 34] ∧ (∀ k : Nat, k < a → (totalGo 1 0 ((afterL m.Pairs k).map (·.N))).2 = true) ∧ (Mem.ext 0 μ μ2)) _ ⟨0, μ, (by first | omega | (simp; done) | (simp; omega)), rfl, rfl, hS, fun k hk => by omega, Mem.ext.refl _ _⟩ ⟨rfl, rfl, rfl, trivial⟩ ?_
                    clear hS
                    rintro qq frm wl20 ⟨a, μ2, hi, hq, rfl, hS, hg, hmm⟩
                    refine CW.seq fun K51 hK51 => ?_
                    refine CW.region [0] rfl ?_
                    refine LW.ex rfl rfl rfl rfl (Ex.lss rfl rfl rfl) hS.rd ?_
                    refine LW.splitB (fun h20_0 => ?_) (fun h20_0 => ?_)
                    · have h20_0 := of_decide_eq_true h20_0
                      refine LW.nil fun aa ha => hK51 _ _ _ ?_ aa ha
                      refine CW.seq fun K52 hK52 => ?_
                      refine CW.yes rfl ?_
                      refine CW.skip fun aa ha => hK52 _ _ _ ?_ aa ha
                      refine CW.seq fun K53 hK53 => ?_
                      refine CW.block ?_
                      refine CW.seq fun K54 hK54 => ?_
                      refine CW.region [0, 1] rfl ?_
                      refine LW.ex rfl rfl rfl rfl (Ex.move rfl) hS.rd ?_
                      refine LW.ex rfl rfl rfl rfl (Ex.assign rfl) hS.rd ?_
                      refine LW.nil fun aa ha => hK54 _ _ _ ?_ aa ha
                      refine CW.seq fun K55 hK55 => ?_
                      have hm2 := hm2.mono hmm
                      refine CW.region [0, 1, 2, 3, 4, 5, 6, 7, 8, 9, 10] rfl ?_
                      refine LW.ex rfl rfl rfl rfl (Ex.fieldO 2 Try.underlying34 rfl rfl ti32 rfl) hS.rd ?_
                      refine LW.ex rfl rfl rfl rfl (Ex.load1 ti32 rfl rfl (by first | exact obT rfl | exact Rd.imm ‹_› | exact slT ‹_›)) hS.rd ?_
                      refine LW.ex rfl rfl rfl rfl (Ex.move rfl) hS.rd ?_
                      refine LW.hv rfl rfl rfl rfl (Hv.callV hS rfl rfl rfl cb65 (after_c m.Pairs a hPs hPB (by omega) (by omega) _ _ _ _ hS.imm hm2)) fun v w132 ⟨μ132, hv132, hm132, hS⟩ => ?_
                      obtain ⟨ad36, c36, hv, hs36⟩ := hv132
                      subst hv
                      have hal := afterL_len m.Pairs a
                      refine LW.hv rfl rfl rfl rfl (Hv.callV hS rfl rfl rfl cb64 (numbers_c (afterL m.Pairs a) (by omega) _ _ _ _ hS.imm hs36)) fun v w133 ⟨μ133, hv133, hm133, hS⟩ => ?_
                      obtain ⟨ad37, c37, hv, hs37⟩ := hv133
                      subst hv
                      refine LW.hv rfl rfl rfl rfl (Hv.callS hS rfl rfl rfl cb62 (totG_c m.Pairs a (by omega) _ _ _ _ hS.imm hs37)) fun v w134 ⟨hv, hS⟩ => ?_
                      subst hv
                      refine LW.ex rfl rfl rfl rfl (Ex.move rfl) hS.rd ?_
                      refine LW.ex rfl rfl rfl rfl (Ex.extract rfl rfl) hS.rd ?_
                      refine LW.ex rfl rfl rfl rfl (Ex.extract rfl rfl) hS.rd ?_
                      refine LW.splitB (fun h22_8 => ?_) (fun h22_8 => ?_)
                      · skip
                        refine LW.ex rfl rfl rfl rfl (Ex.assign rfl) hS.rd ?_
                        refine LW.ex rfl rfl rfl rfl (Ex.assign rfl) hS.rd ?_
                        refine LW.nil fun aa ha => hK55 _ _ _ ?_ aa ha
                        refine CW.seq fun K56 hK56 => ?_
                        refine CW.region [0, 1] rfl ?_
                        refine LW.ex rfl rfl rfl rfl (Ex.move rfl) hS.rd ?_
                        refine LW.ex rfl rfl rfl rfl (Ex.not rfl rfl) hS.rd ?_
                        refine LW.nil fun aa ha => hK56 _ _ _ ?_ aa ha
                        refine CW.no rfl ?_
                        refine CW.skip fun aa ha => hK53 _ _ _ ?_ aa ha
                        refine CW.region [0, 1] rfl ?_
                        refine LW.ex rfl rfl rfl rfl (Ex.add rfl rfl (by first | exact inc64 (by omega) | exact addN (by omega) | exact w64 (by omega) (by omega))) hS.rd ?_
                        refine LW.ex rfl rfl rfl rfl (Ex.move rfl) hS.rd ?_
                        refine LW.nil fun aa ha => ?_
                        refine ⟨_, _, ?m20, ⟨a + 1, μ133, (by first | omega | (simp; done) | (simp; omega)), rfl, rfl, hS, fun k hk => by by_cases hka : k = a; (· subst hka; exact h22_8); (· exact hg k (by omega)), hmm.trans ((hm132.mono (Nat.zero_le _)).trans (hm133.mono (Nat.zero_le _)))⟩, ha.sub ⟨rfl, rfl, rfl, trivial⟩⟩
                        case m20 => omega
                      · skip
                        refine LW.ex rfl rfl rfl rfl (Ex.assign rfl) hS.rd ?_
                        refine LW.ex rfl rfl rfl rfl (Ex.assign rfl) hS.rd ?_
                        refine LW.nil fun aa ha => hK55 _ _ _ ?_ aa ha
                        refine CW.seq fun K57 hK57 => ?_
                        refine CW.region [0, 1] rfl ?_
                        refine LW.ex rfl rfl rfl rfl (Ex.move rfl) hS.rd ?_
                        refine LW.ex rfl rfl rfl rfl (Ex.not rfl rfl) hS.rd ?_
                        refine LW.nil fun aa ha => hK57 _ _ _ ?_ aa ha
                        refine CW.yes rfl ?_
                        refine CW.seq fun K58 hK58 => ?_
                        refine CW.region [0] rfl ?_
                        refine LW.ex rfl rfl rfl rfl (Ex.assign rfl) hS.rd ?_
                        refine LW.nil fun aa ha => hK58 _ _ _ ?_ aa ha
                        refine CW.ret fun aa ha => ?_
                        refine ret_one ha Try.results39 rfl ?_
                        exact hS.retB (okM_no fun h => by have := h.total a; rw [this] at h22_8; cases h22_8).symm
                    · have h20_0 := of_decide_eq_false h20_0
                      refine LW.nil fun aa ha => hK51 _ _ _ ?_ aa ha
                      refine CW.seq fun K59 hK59 => ?_
                      refine CW.no rfl ?_
                      refine CW.exit fun aa ha => hK49 _ _ _ ?_ aa ha
                      refine CW.seq fun K60 hK60 => ?_
                      refine CW.region [0] rfl ?_
                      refine LW.ex rfl rfl rfl rfl (Ex.assign rfl) hS.rd ?_
                      refine LW.nil fun aa ha => hK60 _ _ _ ?_ aa ha
                      refine CW.ret fun aa ha => ?_
                      refine ret_one ha Try.results39 rfl ?_
                      have hg2 : ∀ k : Int, 0 ≤ k → k < m.Words.length → (∀ x ∈ (afterL m.Pairs k).map (·.N), 1 ≤ x) ∧ sumN m.Pairs k ≤ 1073741824 := fun k hk0 hk1 => by
                        obtain ⟨K, rfl⟩ : ∃ K : Nat, k = K := ⟨k.toNat, by omega⟩
                        have := (total_iff (b := 1) (by omega) (by omega)).1 (hg K (by omega))
                        unfold sumN; exact ⟨this.1, by omega⟩
                      have hc := (total_iff (b := 0) (by omega) (by omega)).1 h10_5
                      refine hS.retB (okM_yes ⟨by omega, by omega, by omega, hW, hc.1, by omega, by omega, hPs, fun p hp => ?_, fun a => ?_, by omega, by omega⟩).symm
                      · have h1 := rises_all hP p hp
                        unfold prIn at h1; rw [decide_eq_true_eq] at h1
                        have h2 := (hg2 p.A (by omega) (by omega)).1 p.N (nums_mem hp)
                        omega
                      · by_cases ha : 0 ≤ a ∧ a < m.Words.length
                        · exact (hg2 a (by omega) (by omega)).2
                        · rw [sumN_out hP ha]; omega
                · skip
                  refine LW.ex rfl rfl rfl rfl (Ex.assign rfl) hS.rd ?_
                  refine LW.ex rfl rfl rfl rfl (Ex.assign rfl) hS.rd ?_
                  refine LW.nil fun aa ha => hK34 _ _ _ ?_ aa ha
                  refine CW.seq fun K61 hK61 => ?_
                  refine CW.region [0, 1] rfl ?_
                  refine LW.ex rfl rfl rfl rfl (Ex.move rfl) hS.rd ?_
                  refine LW.ex rfl rfl rfl rfl (Ex.not rfl rfl) hS.rd ?_
                  refine LW.nil fun aa ha => hK61 _ _ _ ?_ aa ha
                  refine CW.yes rfl ?_
                  refine CW.seq fun K62 hK62 => ?_
                  refine CW.region [0] rfl ?_
                  refine LW.ex rfl rfl rfl rfl (Ex.assign rfl) hS.rd ?_
                  refine LW.nil fun aa ha => hK62 _ _ _ ?_ aa ha
                  refine CW.ret fun aa ha => ?_
                  refine ret_one ha Try.results39 rfl ?_
                  exact hS.retB (okM_no fun h => by have := (total_iff (b := 0) (by omega) (l := m.Counts) (acc := 0) (by omega)).2 ⟨h.c0, by have := h.cs; omega⟩; rw [this] at h10_5; cases h10_5).symm
end Go.Proofs.Ytgnpjhellmfhoaa

/-
  Context: the walks of the reference's Valid of models.
-/
namespace Go.Proofs.Ytgnpjhellmfhoaa
open Go.RowKit Sy


def WOk (m : Mdl) : Prop := 1 ≤ m.Words.length ∧ m.Words.length ≤ 200 ∧ m.Counts.length = m.Words.length ∧ rises wordOk sLt none m.Words = true ∧ (∀ x ∈ m.Counts, 0 ≤ x) ∧ m.Counts.sum ≤ 1073741824
theorem MdlOk.w {m : Mdl} (h : MdlOk m) : WOk m := ⟨h.n1, h.n2, h.nc, h.words, h.c0, h.cs⟩
end Go.Proofs.Ytgnpjhellmfhoaa

/-
  Context: the walks of the two Valids of lattices; what fits a model.
-/
namespace Go.Proofs.Ytgnpjhellmfhoaa
open Go.RowKit Sy

def isUp : List Int → Bool
  | a :: b :: r => decide (a ≤ b) && isUp (b :: r)
  | _ => true
theorem isUp_iff : ∀ {l : List Int}, isUp l = true ↔ ∀ i (h : i + 1 < l.length), l[i] ≤ l[i + 1]
  | [] => by simp [isUp]
  | [a] => by simp [isUp]
  | a :: b :: r => by
    simp only [isUp, Bool.and_eq_true, decide_eq_true_eq, isUp_iff (l := b :: r)]
    constructor
    · rintro ⟨h1, h2⟩ i hi
      cases i with
      | zero => exact h1
      | succ i => exact h2 i (by simpa using hi)
    · intro h
      exact ⟨h 0 (by simp), fun i hi => h (i + 1) (by simpa using hi)⟩
theorem less_c (a b : Int) (w : World) : Calls Try.prog 103 #[.int .i64 a, .int .i64 b] w (RetS w (.bool (decide (a < b)))) := by
  have hS := St.start w (fun _ => none) (fun _ _ h => by cases h)
  refine calls_start 17 [.int .i64 a, .int .i64 b] Try.func103 rfl Try.ntmps103 rfl rfl ?_
  refine CW.seq fun K1 hK1 => ?_
  refine CW.region [0] rfl ?_
  refine LW.ex rfl rfl rfl rfl (Ex.assign rfl) hS.rd ?_
  refine LW.nil fun aa ha => hK1 _ _ _ ?_ aa ha
  refine CW.seq fun K2 hK2 => ?_
  refine CW.region [0, 1, 2, 3, 4, 5, 6, 7, 8, 9, 10, 11, 12] rfl ?_
  refine LW.ex rfl rfl rfl rfl (Ex.move rfl) hS.rd ?_
  refine LW.hv rfl rfl rfl rfl (Hv.callS hS rfl rfl rfl cb87 (nan_c _ _)) fun v w6 ⟨hv, hS⟩ => ?_
  subst hv
  refine LW.ex rfl rfl rfl rfl (Ex.move rfl) hS.rd ?_
  refine LW.skip rfl rfl rfl rfl ?_
  refine LW.skip rfl rfl rfl rfl ?_
  refine LW.skip rfl rfl rfl rfl ?_
  refine LW.ex rfl rfl rfl rfl (by first | exact Ex.pick_yes rfl rfl | exact Ex.pick_no rfl rfl) hS.rd ?_
  refine LW.ex rfl rfl rfl rfl (Ex.move rfl) hS.rd ?_
  refine LW.ex rfl rfl rfl rfl (Ex.move rfl) hS.rd ?_
  refine LW.ex rfl rfl rfl rfl (Ex.move rfl) hS.rd ?_
  refine LW.ex rfl rfl rfl rfl (Ex.lss rfl rfl (by first | exact decide_eq_true (by omega) | exact decide_eq_false (by omega) | rfl)) hS.rd ?_
  refine LW.ex rfl rfl rfl rfl (by first | exact Ex.pick_yes rfl rfl | exact Ex.pick_no rfl rfl) hS.rd ?_
  refine LW.ex rfl rfl rfl rfl (Ex.assign rfl) hS.rd ?_
  refine LW.nil fun aa ha => hK2 _ _ _ ?_ aa ha
  refine CW.ret fun aa ha => ?_
  refine ret_one ha Try.results103 rfl ?_
  refine hS.retB ?_
  simp_all
set_option maxRecDepth 100000 in
theorem sorted_c (l : List Int) (hl0 : l.length ≤ 1099511627776) (ad : Option Addr) (c : Nat) (μ : Mem) (w : World) (hμ : Imm μ w) (hl : Sl μ ad c l) :
    Calls Try.prog 92 #[.slice ad l.length c] w (RetS w (.bool (isUp l))) := by
  have hS := St.start w μ hμ
  refine calls_start 21 [.slice ad l.length c] Try.func92 rfl Try.ntmps92 rfl rfl ?_
  refine CW.seq fun K3 hK3 => ?_
  refine CW.region [0] rfl ?_
  refine LW.ex rfl rfl rfl rfl (Ex.assign rfl) hS.rd ?_
  refine LW.nil fun aa ha => hK3 _ _ _ ?_ aa ha
  refine CW.seq fun K4 hK4 => ?_
  refine CW.seq fun K5 hK5 => ?_
  refine CW.region [0, 1, 2, 3] rfl ?_
  refine LW.ex rfl rfl rfl rfl (Ex.move rfl) hS.rd ?_
  refine LW.ex rfl rfl rfl rfl (Ex.lenSl rfl Try.underlying31 rfl) hS.rd ?_
  refine LW.ex rfl rfl rfl rfl (Ex.sub rfl rfl (w64 (by omega) (by omega))) hS.rd ?_
  refine LW.ex rfl rfl rfl rfl (Ex.assign rfl) hS.rd ?_
  refine LW.nil fun aa ha => hK5 _ _ _ ?_ aa ha
  refine CW.block ?_
  refine CW.loop (fun qq frm wl2 => ∃ (k : Nat), k ≤ l.length ∧ qq = k ∧ frm = [(0, .slice ad l.length c), (3, .int .i64 ((k : Int) - 1))] ∧ St w wl2 μ [] ∧ (∀ j (h : j + 1 < l.length), k ≤ j + 1 → l[j] ≤ l[j + 1])) _ ⟨l.length, (by first | omega | (simp; done) | (simp; omega)), rfl, rfl, hS, fun j h hj => by omega⟩ ⟨rfl, rfl, trivial⟩ ?_
  clear hS
  rintro qq frm wl2 ⟨k, hi, hq, rfl, hS, he⟩
  refine CW.seq fun K6 hK6 => ?_
  refine CW.seq fun K7 hK7 => ?_
  refine CW.region [0, 1] rfl ?_
  refine LW.ex rfl rfl rfl rfl (Ex.move rfl) hS.rd ?_
  refine LW.ex rfl rfl rfl rfl (Ex.gtr rfl rfl rfl) hS.rd ?_
  refine LW.splitB (fun h2_1 => ?_) (fun h2_1 => ?_)
  · have h2_1 := of_decide_eq_true h2_1
    refine LW.nil fun aa ha => hK7 _ _ _ ?_ aa ha
    refine CW.yes rfl ?_
    refine CW.skip fun aa ha => hK6 _ _ _ ?_ aa ha
    refine CW.seq fun K8 hK8 => ?_
    refine CW.block ?_
    refine CW.seq fun K9 hK9 => ?_
    obtain ⟨i, rfl⟩ : ∃ i, k = i + 2 := ⟨k - 2, by omega⟩
    have hx1 : i + 1 < l.length := by omega
    have hx0 : i < l.length := by omega
    obtain ⟨bl, ol, rfl, k0⟩ := hl.at hx1
    obtain ⟨bl', ol', e', j0⟩ := hl.at hx0
    cases e'
    rw [show (((i + 2 : Nat) : Int) - 1) = ((i + 1 : Nat) : Int) by omega]
    have hS := hS.drew
    refine CW.draw 10 (.ex 0 <| .ex 1 <| .ex 2 <| .ex 3 <| .ex 4 <| .ex 5 <| .ex 6 <| .ex 7 <| .ex 8 <| .one 9 <| .done) [] (Rd _ _) mixed (by kernel_rfl) rfl rfl hS.rd ?_
    refine PW.ex rfl rfl rfl rfl (Ex.move rfl) ?_
    refine PW.ex rfl rfl rfl rfl (Ex.move rfl) ?_
    refine PW.ex rfl rfl rfl rfl (Ex.indexSl Try.underlying31 ti3 rfl rfl rfl (by omega)) ?_
    refine PW.ex rfl rfl rfl rfl (Ex.load1 ti3 rfl rfl (by first | exact obT rfl | exact Rd.imm ‹_› | exact slT ‹_›)) ?_
    refine PW.ex rfl rfl rfl rfl (Ex.move rfl) ?_
    refine PW.ex rfl rfl rfl rfl (Ex.move rfl) ?_
    refine PW.ex rfl rfl rfl rfl (Ex.sub (r := (i : Int)) rfl rfl (by rw [w64 (by omega) (by omega)]; omega)) ?_
    refine PW.ex rfl rfl rfl rfl (Ex.indexSl Try.underlying31 ti3 rfl rfl rfl (by omega)) ?_
    refine PW.ex rfl rfl rfl rfl (Ex.load1 ti3 rfl rfl (by first | exact obT rfl | exact Rd.imm ‹_› | exact slT ‹_›)) ?_
    refine PW.hv rfl rfl rfl rfl (Hv.callS hS rfl rfl rfl cb103 (less_c l[i + 1] l[i] _)) (fun _ _ h => h.2.rd) fun v w20 ⟨hv, hS⟩ => ?_
    subst hv
    refine PW.splitB (fun h4_9 => ?_) (fun h4_9 => ?_)
    · have h4_9 := of_decide_eq_true h4_9
      refine PW.nil ?_
      refine LW.nil fun aa ha => hK9 _ _ _ ?_ aa ha
      refine CW.yes rfl ?_
      refine CW.seq fun K10 hK10 => ?_
      refine CW.region [0] rfl ?_
      refine LW.ex rfl rfl rfl rfl (Ex.assign rfl) hS.rd ?_
      refine LW.nil fun aa ha => hK10 _ _ _ ?_ aa ha
      refine CW.ret fun aa ha => ?_
      refine ret_one ha Try.results92 rfl ?_
      have e : isUp l = false := by rw [Bool.eq_false_iff]; intro h; have := isUp_iff.1 h i hx1; omega
      rw [e]; exact hS.retS
    · have h4_9 := of_decide_eq_false h4_9
      refine PW.nil ?_
      refine LW.nil fun aa ha => hK9 _ _ _ ?_ aa ha
      refine CW.no rfl ?_
      refine CW.skip fun aa ha => hK8 _ _ _ ?_ aa ha
      refine CW.region [0, 1, 2] rfl ?_
      refine LW.ex rfl rfl rfl rfl (Ex.move rfl) hS.rd ?_
      refine LW.ex rfl rfl rfl rfl (Ex.sub (r := (((i + 1 : Nat) : Int) - 1)) rfl rfl (w64 (by omega) (by omega))) hS.rd ?_
      refine LW.ex rfl rfl rfl rfl (Ex.assign rfl) hS.rd ?_
      refine LW.nil fun aa ha => ?_
      refine ⟨_, _, ?m2, ⟨i + 1, (by first | omega | (simp; done) | (simp; omega)), rfl, rfl, hS, fun j hj hij => by by_cases hji : j = i; (· subst hji; omega); (· exact he j hj (by omega))⟩, ha.sub ⟨rfl, rfl, trivial⟩⟩
      case m2 => omega
  · have h2_1 := of_decide_eq_false h2_1
    refine LW.nil fun aa ha => hK7 _ _ _ ?_ aa ha
    refine CW.no rfl ?_
    refine CW.exit fun aa ha => hK4 _ _ _ ?_ aa ha
    refine CW.seq fun K11 hK11 => ?_
    refine CW.region [0] rfl ?_
    refine LW.ex rfl rfl rfl rfl (Ex.assign rfl) hS.rd ?_
    refine LW.nil fun aa ha => hK11 _ _ _ ?_ aa ha
    refine CW.ret fun aa ha => ?_
    refine ret_one ha Try.results92 rfl ?_
    have e : isUp l = true := isUp_iff.2 fun j hj => he j hj (by omega)
    rw [e]; exact hS.retS
theorem rising_c (l : List Int) (hl0 : l.length ≤ 1099511627776) (ad : Option Addr) (c : Nat) (μ : Mem) (w : World) (hμ : Imm μ w) (hl : Sl μ ad c l) :
    Calls Try.prog 82 #[.slice ad l.length c] w (RetS w (.bool (isUp l))) := by
  have hS := St.start w μ hμ
  refine calls_start 5 [.slice ad l.length c] Try.func82 rfl Try.ntmps82 rfl rfl ?_
  refine CW.seq fun K12 hK12 => ?_
  refine CW.region [0] rfl ?_
  refine LW.ex rfl rfl rfl rfl (Ex.assign rfl) hS.rd ?_
  refine LW.nil fun aa ha => hK12 _ _ _ ?_ aa ha
  refine CW.seq fun K13 hK13 => ?_
  refine CW.region [0, 1, 2] rfl ?_
  refine LW.ex rfl rfl rfl rfl (Ex.move rfl) hS.rd ?_
  refine LW.hv rfl rfl rfl rfl (Hv.callS hS rfl rfl rfl cb92 (sorted_c l hl0 _ _ _ _ hS.imm hl)) fun v w4 ⟨hv, hS⟩ => ?_
  subst hv
  refine LW.ex rfl rfl rfl rfl (Ex.assign rfl) hS.rd ?_
  refine LW.nil fun aa ha => hK13 _ _ _ ?_ aa ha
  refine CW.ret fun aa ha => ?_
  refine ret_one ha Try.results82 rfl ?_
  exact hS.retS
def edCmp (a b : Edge) : Int := orL [cmpI a.From b.From, cmpI a.To b.To, cmpI a.Word b.Word]
theorem edLess_iff {a b : Edge} : edLess a b = true ↔ (a.From < b.From ∨ (a.From = b.From ∧ (a.To < b.To ∨ (a.To = b.To ∧ a.Word < b.Word)))) := by unfold edLess; exact decide_eq_true_iff
theorem edCmp_lt {a b : Edge} : edCmp a b < 0 ↔ edLess a b = true := by
  rw [edLess_iff]
  unfold edCmp
  simp only [orL, cmpI]
  by_cases h1 : a.From < b.From
  · simp [h1]
  · by_cases h2 : b.From < a.From
    · simp [h1, h2]; omega
    · by_cases h3 : a.To < b.To
      · simp [h1, h2, h3]; omega
      · by_cases h4 : b.To < a.To
        · simp [h1, h2, h3, h4]; try omega
        · by_cases h5 : a.Word < b.Word
          · simp [h1, h2, h3, h4, h5]; omega
          · by_cases h6 : b.Word < a.Word
            · simp [h1, h2, h3, h4, h5, h6]; try omega
            · simp [h1, h2, h3, h4, h5, h6]
set_option maxRecDepth 100000 in
theorem edCmp_c (a b : Edge) (w : World) : Calls Try.prog 83 #[edgeV a, edgeV b] w (RetS w (.int .i64 (edCmp a b))) := by
  have hS := St.start w (fun _ => none) (fun _ _ h => by cases h)
  refine calls_start 22 [edgeV a, edgeV b] Try.func83 rfl Try.ntmps83 rfl rfl ?_
  refine CW.seq fun K14 hK14 => ?_
  refine CW.region [0, 1, 2] rfl ?_
  refine LW.hv rfl rfl rfl rfl (Hv.boxS hS rfl rfl) fun v w2 ⟨b2, hv, hb2, hS⟩ => ?_
  subst hv
  refine LW.hv rfl rfl rfl rfl (Hv.boxS hS rfl rfl) fun v w3 ⟨b3, hv, hb3, hS⟩ => ?_
  subst hv
  refine LW.ex rfl rfl rfl rfl (Ex.assign rfl) hS.rd ?_
  refine LW.nil fun aa ha => hK14 _ _ _ ?_ aa ha
  refine CW.seq fun K15 hK15 => ?_
  have hS := hS.drew
  refine CW.draw 18 (.ex 0 <| .ex 1 <| .ex 2 <| .ex 3 <| .ex 5 <| .ex 6 <| .ex 7 <| .ex 8 <| .ex 10 <| .ex 11 <| .ex 12 <| .ex 13 <| .one 4 <| .one 9 <| .one 14 <| .one 15 <| .one 16 <| .ex 17 <| .done) [] (Rd _ _) mixed (by kernel_rfl) rfl rfl hS.rd ?_
  refine PW.ex rfl rfl rfl rfl (Ex.fieldO 0 Try.underlying43 rfl rfl ti3 rfl) ?_
  refine PW.ex rfl rfl rfl rfl (Ex.load1 ti3 rfl rfl (by first | exact obT rfl | exact Rd.imm ‹_› | exact slT ‹_›)) ?_
  refine PW.ex rfl rfl rfl rfl (Ex.fieldO 0 Try.underlying43 rfl rfl ti3 rfl) ?_
  refine PW.ex rfl rfl rfl rfl (Ex.load1 ti3 rfl rfl (by first | exact obT rfl | exact Rd.imm ‹_› | exact slT ‹_›)) ?_
  refine PW.ex rfl rfl rfl rfl (Ex.fieldO 1 Try.underlying43 rfl rfl ti3 rfl) ?_
  refine PW.ex rfl rfl rfl rfl (Ex.load1 ti3 rfl rfl (by first | exact obT rfl | exact Rd.imm ‹_› | exact slT ‹_›)) ?_
  refine PW.ex rfl rfl rfl rfl (Ex.fieldO 1 Try.underlying43 rfl rfl ti3 rfl) ?_
  refine PW.ex rfl rfl rfl rfl (Ex.load1 ti3 rfl rfl (by first | exact obT rfl | exact Rd.imm ‹_› | exact slT ‹_›)) ?_
  refine PW.ex rfl rfl rfl rfl (Ex.fieldO 2 Try.underlying43 rfl rfl ti3 rfl) ?_
  refine PW.ex rfl rfl rfl rfl (Ex.load1 ti3 rfl rfl (by first | exact obT rfl | exact Rd.imm ‹_› | exact slT ‹_›)) ?_
  refine PW.ex rfl rfl rfl rfl (Ex.fieldO 2 Try.underlying43 rfl rfl ti3 rfl) ?_
  refine PW.ex rfl rfl rfl rfl (Ex.load1 ti3 rfl rfl (by first | exact obT rfl | exact Rd.imm ‹_› | exact slT ‹_›)) ?_
  refine PW.hv rfl rfl rfl rfl (Hv.callS hS rfl rfl rfl cb72 (cmp_c _ _ _)) (fun _ _ h => h.2.rd) fun v w9 ⟨hv, hS⟩ => ?_
  subst hv
  refine PW.hv rfl rfl rfl rfl (Hv.callS hS rfl rfl rfl cb72 (cmp_c _ _ _)) (fun _ _ h => h.2.rd) fun v w14 ⟨hv, hS⟩ => ?_
  subst hv
  refine PW.hv rfl rfl rfl rfl (Hv.callS hS rfl rfl rfl cb72 (cmp_c _ _ _)) (fun _ _ h => h.2.rd) fun v w19 ⟨hv, hS⟩ => ?_
  subst hv
  refine PW.hv rfl rfl rfl rfl (Hv.buildSl hS Try.underlying31 ti3 rfl rfl rfl rfl rfl rfl) (fun _ _ ⟨_, _, _, h⟩ => h.rd.tail) fun v w20 ⟨b20, hv, hb20, hS⟩ => ?_
  subst hv
  refine PW.hv rfl rfl rfl rfl (Hv.callS hS rfl rfl rfl cb81 (or_c [cmpI a.From b.From, cmpI a.To b.To, cmpI a.Word b.Word] _ _ (memOf _) _ (imm_memOf _) (hS.lend_obj (k := 0) rfl (RepL.ints3 _ _ _ _) (by simp [maxLen])))) (fun _ _ h => h.2.rd.tail) fun v w21 ⟨hv, hS⟩ => ?_
  subst hv
  refine PW.ex rfl rfl rfl rfl (Ex.assign rfl) ?_
  refine PW.nil ?_
  refine LW.nil fun aa ha => hK15 _ _ _ ?_ aa ha
  refine CW.ret fun aa ha => ?_
  refine ret_one ha Try.results83 rfl ?_
  exact hS.retS
def edIn (N : Int) (e : Edge) : Bool := decide (0 ≤ e.From ∧ e.From < e.To ∧ e.To ≤ N ∧ 0 ≤ e.Word ∧ e.Word ≤ 199 ∧ 0 ≤ e.Cost ∧ e.Cost ≤ 1000000)
theorem edIn_iff {N : Int} {e : Edge} : edIn N e = true ↔ (0 ≤ e.From ∧ e.From < e.To ∧ e.To ≤ N ∧ 0 ≤ e.Word ∧ e.Word ≤ 199 ∧ 0 ≤ e.Cost ∧ e.Cost ≤ 1000000) := by unfold edIn; exact decide_eq_true_iff
def okX (x : Lat) : Bool := decide (0 ≤ x.N ∧ x.N ≤ 40 ∧ x.Edges.length ≤ 20000) && rises (edIn x.N) edLess none x.Edges
theorem isUp3 {a b c : Int} : isUp [a, b, c] = true ↔ a ≤ b ∧ b ≤ c := by simp [isUp]
theorem isUp4 {a b c d : Int} : isUp [a, b, c, d] = true ↔ a ≤ b ∧ b ≤ c ∧ c ≤ d := by simp [isUp]
theorem isUp3n {a b c : Int} (h : isUp [a, b, c] = false) : ¬ (a ≤ b ∧ b ≤ c) := fun e => by rw [isUp3.2 e] at h; cases h
theorem isUp4n {a b c d : Int} (h : isUp [a, b, c, d] = false) : ¬ (a ≤ b ∧ b ≤ c ∧ c ≤ d) := fun e => by rw [isUp4.2 e] at h; cases h
theorem okX_no1 {x : Lat} (h : ¬ (0 ≤ x.N ∧ x.N ≤ 40 ∧ x.Edges.length ≤ 20000)) : okX x = false := by unfold okX; rw [decide_eq_false h]; rfl
theorem okX_no2 {x : Lat} (h : rises (edIn x.N) edLess none x.Edges = false) : okX x = false := by unfold okX; rw [h, Bool.and_false]
set_option maxRecDepth 100000 in
set_option maxHeartbeats 1000000 in
theorem xvalid_c (x : Lat) (hsm : ∀ e ∈ x.Edges, -1099511627776 ≤ e.To ∧ e.To ≤ 1099511627776) (a3 : Option Addr) (c3 : Nat) (μ : Mem) (w : World) (hμ : Imm μ w) (hx : Sl μ a3 c3 x.Edges) :
    Calls Try.prog 67 #[.agg #[.int .i64 x.N, .slice a3 x.Edges.length c3]] w (RetS w (.bool (okX x))) := by
  have hS := St.start w μ hμ
  refine calls_start 65 [.agg #[.int .i64 x.N, .slice a3 x.Edges.length c3]] Try.func67 rfl Try.ntmps67 rfl rfl ?_
  refine CW.seq fun K16 hK16 => ?_
  refine CW.region [0, 1] rfl ?_
  refine LW.hv rfl rfl rfl rfl (Hv.boxS hS rfl rfl) fun v w1 ⟨b1, hv, hb1, hS⟩ => ?_
  subst hv
  refine LW.ex rfl rfl rfl rfl (Ex.assign rfl) hS.rd ?_
  refine LW.nil fun aa ha => hK16 _ _ _ ?_ aa ha
  refine CW.seq fun K17 hK17 => ?_
  refine CW.seq fun K18 hK18 => ?_
  refine CW.region [0, 1, 2, 3, 4, 5, 6, 7, 8, 9, 10] rfl ?_
  refine LW.ex rfl rfl rfl rfl (Ex.fieldO 0 Try.underlying38 rfl rfl ti3 rfl) hS.rd ?_
  refine LW.ex rfl rfl rfl rfl (Ex.load1 ti3 rfl rfl (by first | exact obT rfl | exact Rd.imm ‹_› | exact slT ‹_›)) hS.rd ?_
  refine LW.hv rfl rfl rfl rfl (Hv.buildSl hS Try.underlying31 ti3 rfl rfl rfl rfl rfl rfl) fun v w7 ⟨b7, hv, hb7, hS⟩ => ?_
  subst hv
  refine LW.hv rfl rfl rfl rfl (Hv.callS hS rfl rfl rfl cb82 (rising_c [0, x.N, 40] (by simp) _ _ (memOf _) _ (imm_memOf _) (hS.lend_obj (k := 0) rfl (RepL.ints3 _ _ _ _) (by simp [maxLen])))) fun v w8 ⟨hv, hS⟩ => ?_
  subst hv
  refine LW.splitB (fun h1_3 => ?_) (fun h1_3 => ?_)
  · have h1_3 := isUp3.1 h1_3
    refine LW.ex rfl rfl rfl rfl (Ex.not rfl rfl) hS.rd ?_
    refine LW.ex rfl rfl rfl rfl (Ex.move rfl) hS.rd ?_
    refine LW.ex rfl rfl rfl rfl (Ex.fieldO 1 Try.underlying38 rfl rfl ti36 rfl) hS.rd ?_
    refine LW.ex rfl rfl rfl rfl (Ex.load1 ti36 rfl rfl (by first | exact obT rfl | exact Rd.imm ‹_› | exact slT ‹_›)) hS.rd ?_
    refine LW.ex rfl rfl rfl rfl (Ex.lenSl rfl Try.underlying36 rfl) hS.rd ?_
    refine LW.ex rfl rfl rfl rfl (Ex.gtr rfl rfl rfl) hS.rd ?_
    refine LW.splitB (fun h1_9 => ?_) (fun h1_9 => ?_)
    · have h1_9 := of_decide_eq_true h1_9
      refine LW.ex rfl rfl rfl rfl (by first | exact Ex.pick_yes rfl rfl | exact Ex.pick_no rfl rfl) hS.rd ?_
      refine LW.nil fun aa ha => hK18 _ _ _ ?_ aa ha
      refine CW.yes rfl ?_
      refine CW.seq fun K19 hK19 => ?_
      refine CW.region [0] rfl ?_
      refine LW.ex rfl rfl rfl rfl (Ex.assign rfl) hS.rd ?_
      refine LW.nil fun aa ha => hK19 _ _ _ ?_ aa ha
      refine CW.ret fun aa ha => ?_
      refine ret_one ha Try.results67 rfl ?_
      exact hS.retB (okX_no1 (by omega)).symm
    · have h1_9 := of_decide_eq_false h1_9
      refine LW.ex rfl rfl rfl rfl (by first | exact Ex.pick_yes rfl rfl | exact Ex.pick_no rfl rfl) hS.rd ?_
      refine LW.nil fun aa ha => hK18 _ _ _ ?_ aa ha
      refine CW.no rfl ?_
      refine CW.skip fun aa ha => hK17 _ _ _ ?_ aa ha
      refine CW.seq fun K20 hK20 => ?_
      refine CW.seq fun K21 hK21 => ?_
      refine CW.region [0, 1, 2, 3] rfl ?_
      refine LW.ex rfl rfl rfl rfl (Ex.fieldO 1 Try.underlying38 rfl rfl ti36 rfl) hS.rd ?_
      refine LW.ex rfl rfl rfl rfl (Ex.load1 ti36 rfl rfl (by first | exact obT rfl | exact Rd.imm ‹_› | exact slT ‹_›)) hS.rd ?_
      refine LW.ex rfl rfl rfl rfl (Ex.lenSl rfl Try.underlying36 rfl) hS.rd ?_
      refine LW.ex rfl rfl rfl rfl (Ex.move rfl) hS.rd ?_
      refine LW.nil fun aa ha => hK21 _ _ _ ?_ aa ha
      refine CW.block ?_
      have hS := hS.drop 0 rfl
      dsimp only [List.eraseIdx] at hS
      refine CW.loop (fun qq frm wl4 => ∃ (i : Nat), i ≤ x.Edges.length ∧ qq = x.Edges.length - i ∧ frm = [(1, .pointer (some ⟨b1, 0, none⟩)), (17, .slice a3 x.Edges.length c3), (18, .int .i64 x.Edges.length), (19, .int .i64 i)] ∧ St w wl4 μ [Own.obj b1 [.int .i64 x.N, .slice a3 x.Edges.length c3] 38] ∧ (rises (edIn x.N) edLess none x.Edges = rises (edIn x.N) edLess (prevOf x.Edges i) (x.Edges.drop i))) _ ⟨0, (by first | omega | (simp; done) | (simp; omega)), rfl, rfl, hS, rfl⟩ ⟨rfl, rfl, rfl, rfl, trivial⟩ ?_
      clear hS
      rintro qq frm wl4 ⟨i, hi, hq, rfl, hS, he⟩
      refine CW.seq fun K22 hK22 => ?_
      refine CW.region [0] rfl ?_
      refine LW.ex rfl rfl rfl rfl (Ex.lss rfl rfl rfl) hS.rd ?_
      refine LW.splitB (fun h4_0 => ?_) (fun h4_0 => ?_)
      · have h4_0 := of_decide_eq_true h4_0
        refine LW.nil fun aa ha => hK22 _ _ _ ?_ aa ha
        refine CW.seq fun K23 hK23 => ?_
        refine CW.yes rfl ?_
        refine CW.skip fun aa ha => hK23 _ _ _ ?_ aa ha
        refine CW.seq fun K24 hK24 => ?_
        refine CW.block ?_
        refine CW.seq fun K25 hK25 => ?_
        have hi2 : i < x.Edges.length := by omega
        have hnn : i - 1 < x.Edges.length := by omega
        have hto := hsm _ (List.getElem_mem hi2)
        obtain ⟨bl, ol, rfl, k0, k1, k2, k3⟩ := hx.at hi2
        obtain ⟨bl', ol', e', j0, j1, j2, j3⟩ := hx.at hnn
        cases e'
        refine CW.region [0, 1, 2, 3, 4, 5] rfl ?_
        refine LW.ex rfl rfl rfl rfl (Ex.move rfl) hS.rd ?_
        refine LW.ex rfl rfl rfl rfl (Ex.indexSl Try.underlying36 ti43 rfl rfl rfl (by omega)) hS.rd ?_
        refine LW.ex rfl rfl rfl rfl (Ex.load4c ti43 rfl rfl (by first | exact obT rfl | exact Rd.imm ‹_› | exact slT ‹_›) (by first | exact obT rfl | exact Rd.imm ‹_› | exact slT ‹_›) (by first | exact obT rfl | exact Rd.imm ‹_› | exact slT ‹_›) (by first | exact obT rfl | exact Rd.imm ‹_› | exact slT ‹_›)) hS.rd ?_
        refine LW.hv rfl rfl rfl rfl (Hv.alloc ti43 hS) fun v w4 ⟨b4, hv, hb4, hS⟩ => ?_
        subst hv
        refine LW.ex rfl rfl rfl rfl (Ex.assign rfl) hS.rd ?_
        refine LW.hu rfl rfl rfl (Hv.storeN (k := 0) ti43 hS rfl rfl rfl rfl (by simp [Value.oneCell'])) fun _ w_5 hS => ?_
        dsimp only [List.set] at hS
        refine LW.nil fun aa ha => hK25 _ _ _ ?_ aa ha
        refine CW.seq fun K26 hK26 => ?_
        have hS := hS.drew
        refine CW.draw 40 (.ex 0 <| .ex 1 <| .ex 2 <| .ex 3 <| .ex 4 <| .ex 5 <| .ex 6 <| .ex 7 <| .one 8 <| .one 9 <| .ex 10 <| .ex 11 <| .ex 12 <| .ex 13 <| .one 14 <| .one 15 <| .ex 16 <| .ex 17 <| .ex 18 <| .ex 19 <| .ex 20 <| .one 21 <| .one 22 <| .ex 23 <| .ex 24 <| .ex 25 <| .ex 26 <| .ex 27 <| .ex 28 <| .ex 29 <| .ex 30 <| .ex 31 <| .ex 32 <| .ex 33 <| .ex 34 <| .ex 35 <| .one 36 <| .ex 37 <| .ex 38 <| .ex 39 <| .done) [] (Rd _ _) mixed (by kernel_rfl) rfl rfl hS.rd ?_
        refine PW.ex rfl rfl rfl rfl (Ex.fieldO 0 Try.underlying43 rfl rfl ti3 rfl) ?_
        refine PW.ex rfl rfl rfl rfl (Ex.load1 ti3 rfl rfl (by first | exact obT rfl | exact Rd.imm ‹_› | exact slT ‹_›)) ?_
        refine PW.ex rfl rfl rfl rfl (Ex.fieldO 1 Try.underlying43 rfl rfl ti3 rfl) ?_
        refine PW.ex rfl rfl rfl rfl (Ex.load1 ti3 rfl rfl (by first | exact obT rfl | exact Rd.imm ‹_› | exact slT ‹_›)) ?_
        refine PW.ex rfl rfl rfl rfl (Ex.sub (r := (x.Edges[i].To - 1)) rfl rfl (w64 (by omega) (by omega))) ?_
        refine PW.ex rfl rfl rfl rfl (Ex.fieldO 0 Try.underlying38 rfl rfl ti3 rfl) ?_
        refine PW.ex rfl rfl rfl rfl (Ex.load1 ti3 rfl rfl (by first | exact obT rfl | exact Rd.imm ‹_› | exact slT ‹_›)) ?_
        refine PW.ex rfl rfl rfl rfl (Ex.sub (r := (x.N - 1)) rfl rfl (w64 (by omega) (by omega))) ?_
        refine PW.hv rfl rfl rfl rfl (Hv.buildSl hS Try.underlying31 ti3 rfl rfl rfl rfl rfl rfl) (fun _ _ ⟨_, _, _, h⟩ => h.rd.tail) fun v w32 ⟨b32, hv, hb32, hS⟩ => ?_
        subst hv
        refine PW.hv rfl rfl rfl rfl (Hv.callS hS rfl rfl rfl cb82 (rising_c [0, x.Edges[i].From, x.Edges[i].To - 1, x.N - 1] (by simp) _ _ (memOf _) _ (imm_memOf _) (hS.lend_obj (k := 0) rfl (RepL.ints _ [0, x.Edges[i].From, x.Edges[i].To - 1, x.N - 1]) (by simp [maxLen])))) (fun _ _ h => h.2.rd.tail) fun v w33 ⟨hv, hS⟩ => ?_
        subst hv
        refine PW.splitB (fun h6_9 => ?_) (fun h6_9 => ?_)
        · have h6_9 := isUp4.1 h6_9
          refine PW.ex rfl rfl rfl rfl (Ex.not rfl rfl) ?_
          refine PW.ex rfl rfl rfl rfl (Ex.move rfl) ?_
          refine PW.ex rfl rfl rfl rfl (Ex.fieldO 2 Try.underlying43 rfl rfl ti3 rfl) ?_
          refine PW.ex rfl rfl rfl rfl (Ex.load1 ti3 rfl rfl (by first | exact obT rfl | exact Rd.imm ‹_› | exact slT ‹_›)) ?_
          refine PW.hv rfl rfl rfl rfl (Hv.buildSl hS Try.underlying31 ti3 rfl rfl rfl rfl rfl rfl) (fun _ _ ⟨_, _, _, h⟩ => h.rd.tail.tail) fun v w38 ⟨b38, hv, hb38, hS⟩ => ?_
          subst hv
          refine PW.hv rfl rfl rfl rfl (Hv.callS hS rfl rfl rfl cb82 (rising_c [0, x.Edges[i].Word, 199] (by simp) _ _ (memOf _) _ (imm_memOf _) (hS.lend_obj (k := 0) rfl (RepL.ints3 _ _ _ _) (by simp [maxLen])))) (fun _ _ h => h.2.rd.tail.tail) fun v w39 ⟨hv, hS⟩ => ?_
          subst hv
          refine PW.splitB (fun h6_15 => ?_) (fun h6_15 => ?_)
          · have h6_15 := isUp3.1 h6_15
            refine PW.ex rfl rfl rfl rfl (Ex.not rfl rfl) ?_
            refine PW.ex rfl rfl rfl rfl (by first | exact Ex.pick_yes rfl rfl | exact Ex.pick_no rfl rfl) ?_
            refine PW.ex rfl rfl rfl rfl (Ex.move rfl) ?_
            refine PW.ex rfl rfl rfl rfl (Ex.fieldO 3 Try.underlying43 rfl rfl ti3 rfl) ?_
            refine PW.ex rfl rfl rfl rfl (Ex.load1 ti3 rfl rfl (by first | exact obT rfl | exact Rd.imm ‹_› | exact slT ‹_›)) ?_
            refine PW.hv rfl rfl rfl rfl (Hv.buildSl hS Try.underlying31 ti3 rfl rfl rfl rfl rfl rfl) (fun _ _ ⟨_, _, _, h⟩ => h.rd.tail.tail.tail) fun v w45 ⟨b45, hv, hb45, hS⟩ => ?_
            subst hv
            refine PW.hv rfl rfl rfl rfl (Hv.callS hS rfl rfl rfl cb82 (rising_c [0, x.Edges[i].Cost, 1000000] (by simp) _ _ (memOf _) _ (imm_memOf _) (hS.lend_obj (k := 0) rfl (RepL.ints3 _ _ _ _) (by simp [maxLen])))) (fun _ _ h => h.2.rd.tail.tail.tail) fun v w46 ⟨hv, hS⟩ => ?_
            subst hv
            refine PW.splitB (fun h6_22 => ?_) (fun h6_22 => ?_)
            · have h6_22 := isUp3.1 h6_22
              refine PW.ex rfl rfl rfl rfl (Ex.not rfl rfl) ?_
              refine PW.ex rfl rfl rfl rfl (by first | exact Ex.pick_yes rfl rfl | exact Ex.pick_no rfl rfl) ?_
              refine PW.ex rfl rfl rfl rfl (Ex.move rfl) ?_
              refine PW.ex rfl rfl rfl rfl (Ex.move rfl) ?_
              refine PW.ex rfl rfl rfl rfl (Ex.gtr rfl rfl rfl) ?_
              refine PW.splitB (fun h6_27 => ?_) (fun h6_27 => ?_)
              · have h6_27 := of_decide_eq_true h6_27
                refine PW.ex rfl rfl rfl rfl (Ex.move rfl) ?_
                refine PW.ex rfl rfl rfl rfl (Ex.fieldO 1 Try.underlying38 rfl rfl ti36 rfl) ?_
                refine PW.ex rfl rfl rfl rfl (Ex.load1 ti36 rfl rfl (by first | exact obT rfl | exact Rd.imm ‹_› | exact slT ‹_›)) ?_
                refine PW.ex rfl rfl rfl rfl (Ex.move rfl) ?_
                refine PW.ex rfl rfl rfl rfl (Ex.sub rfl rfl (by first | exact dec64 (by omega) (by omega) | exact subN (by omega) (by omega) | exact w64 (by omega) (by omega))) ?_
                refine PW.ex rfl rfl rfl rfl (Ex.indexSl Try.underlying36 ti43 rfl rfl rfl (by omega)) ?_
                refine PW.ex rfl rfl rfl rfl (Ex.load4c ti43 rfl rfl (by first | exact obT rfl | exact Rd.imm ‹_› | exact slT ‹_›) (by first | exact obT rfl | exact Rd.imm ‹_› | exact slT ‹_›) (by first | exact obT rfl | exact Rd.imm ‹_› | exact slT ‹_›) (by first | exact obT rfl | exact Rd.imm ‹_› | exact slT ‹_›)) ?_
                refine PW.ex rfl rfl rfl rfl (Ex.load4c ti43 rfl rfl (by first | exact obT rfl | exact Rd.imm ‹_› | exact slT ‹_›) (by first | exact obT rfl | exact Rd.imm ‹_› | exact slT ‹_›) (by first | exact obT rfl | exact Rd.imm ‹_› | exact slT ‹_›) (by first | exact obT rfl | exact Rd.imm ‹_› | exact slT ‹_›)) ?_
                refine PW.hv rfl rfl rfl rfl (Hv.callS hS rfl rfl rfl cb83 (edCmp_c x.Edges[i - 1] x.Edges[i] _)) (fun _ _ h => h.2.rd.tail.tail.tail) fun v w60 ⟨hv, hS⟩ => ?_
                subst hv
                refine PW.ex rfl rfl rfl rfl (Ex.geq rfl rfl rfl) ?_
                refine PW.splitB (fun h6_37 => ?_) (fun h6_37 => ?_)
                · have h6_37 := of_decide_eq_true h6_37
                  refine PW.ex rfl rfl rfl rfl (by first | exact Ex.pick_yes rfl rfl | exact Ex.pick_no rfl rfl) ?_
                  refine PW.ex rfl rfl rfl rfl (by first | exact Ex.pick_yes rfl rfl | exact Ex.pick_no rfl rfl) ?_
                  refine PW.nil ?_
                  refine LW.nil fun aa ha => hK26 _ _ _ ?_ aa ha
                  refine CW.yes rfl ?_
                  refine CW.seq fun K27 hK27 => ?_
                  refine CW.region [0] rfl ?_
                  refine LW.ex rfl rfl rfl rfl (Ex.assign rfl) hS.rd ?_
                  refine LW.nil fun aa ha => hK27 _ _ _ ?_ aa ha
                  refine CW.ret fun aa ha => ?_
                  refine ret_one ha Try.results67 rfl ?_
                  exact hS.retB (okX_no2 (by rw [he, rises_not2 _ _ _ _ hi2 (by omega) (by rw [Bool.eq_false_iff, ne_eq, ← edCmp_lt]; omega)])).symm
                · have h6_37 := of_decide_eq_false h6_37
                  refine PW.ex rfl rfl rfl rfl (by first | exact Ex.pick_yes rfl rfl | exact Ex.pick_no rfl rfl) ?_
                  refine PW.ex rfl rfl rfl rfl (by first | exact Ex.pick_yes rfl rfl | exact Ex.pick_no rfl rfl) ?_
                  refine PW.nil ?_
                  refine LW.nil fun aa ha => hK26 _ _ _ ?_ aa ha
                  refine CW.no rfl ?_
                  refine CW.skip fun aa ha => hK24 _ _ _ ?_ aa ha
                  refine CW.region [0, 1] rfl ?_
                  refine LW.ex rfl rfl rfl rfl (Ex.add rfl rfl (by first | exact inc64 (by omega) | exact addN (by omega) | exact w64 (by omega) (by omega))) hS.rd ?_
                  refine LW.ex rfl rfl rfl rfl (Ex.move rfl) hS.rd ?_
                  refine LW.nil fun aa ha => ?_
                  have hS := hS.drop 0 rfl
                  dsimp only [List.eraseIdx] at hS
                  have hS := hS.drop 0 rfl
                  dsimp only [List.eraseIdx] at hS
                  have hS := hS.drop 0 rfl
                  dsimp only [List.eraseIdx] at hS
                  have hS := hS.drop 0 rfl
                  dsimp only [List.eraseIdx] at hS
                  refine ⟨_, _, ?m4, ⟨i + 1, (by first | omega | (simp; done) | (simp; omega)), rfl, rfl, hS, ?_⟩, ha.sub ⟨rfl, rfl, rfl, rfl, trivial⟩⟩
                  case m4 => omega
                  rw [he]; exact rises_step _ _ _ _ hi2 (edIn_iff.2 (by omega)) (fun _ => edCmp_lt.1 (by omega))
              · have h6_27 := of_decide_eq_false h6_27
                refine PW.ex rfl rfl rfl rfl (Ex.move rfl) ?_
                refine PW.skip rfl rfl rfl rfl ?_
                refine PW.skip rfl rfl rfl rfl ?_
                refine PW.skip rfl rfl rfl rfl ?_
                refine PW.skip rfl rfl rfl rfl ?_
                refine PW.skip rfl rfl rfl rfl ?_
                refine PW.skip rfl rfl rfl rfl ?_
                refine PW.skip rfl rfl rfl rfl ?_
                refine PW.skip1 rfl rfl rfl rfl ?_
                refine PW.skip rfl rfl rfl rfl ?_
                refine PW.ex rfl rfl rfl rfl (by first | exact Ex.pick_yes rfl rfl | exact Ex.pick_no rfl rfl) ?_
                refine PW.ex rfl rfl rfl rfl (by first | exact Ex.pick_yes rfl rfl | exact Ex.pick_no rfl rfl) ?_
                refine PW.nil ?_
                refine LW.nil fun aa ha => hK26 _ _ _ ?_ aa ha
                refine CW.no rfl ?_
                refine CW.skip fun aa ha => hK24 _ _ _ ?_ aa ha
                refine CW.region [0, 1] rfl ?_
                refine LW.ex rfl rfl rfl rfl (Ex.add rfl rfl (by first | exact inc64 (by omega) | exact addN (by omega) | exact w64 (by omega) (by omega))) hS.rd ?_
                refine LW.ex rfl rfl rfl rfl (Ex.move rfl) hS.rd ?_
                refine LW.nil fun aa ha => ?_
                have hS := hS.drop 0 rfl
                dsimp only [List.eraseIdx] at hS
                have hS := hS.drop 0 rfl
                dsimp only [List.eraseIdx] at hS
                have hS := hS.drop 0 rfl
                dsimp only [List.eraseIdx] at hS
                have hS := hS.drop 0 rfl
                dsimp only [List.eraseIdx] at hS
                refine ⟨_, _, ?m4, ⟨i + 1, (by first | omega | (simp; done) | (simp; omega)), rfl, rfl, hS, ?_⟩, ha.sub ⟨rfl, rfl, rfl, rfl, trivial⟩⟩
                case m4 => omega
                rw [he]; exact rises_step _ _ _ _ hi2 (edIn_iff.2 (by omega)) (fun h0 => by omega)
            · have h6_22 := isUp3n h6_22
              refine PW.ex rfl rfl rfl rfl (Ex.not rfl rfl) ?_
              refine PW.ex rfl rfl rfl rfl (by first | exact Ex.pick_yes rfl rfl | exact Ex.pick_no rfl rfl) ?_
              refine PW.ex rfl rfl rfl rfl (Ex.move rfl) ?_
              refine PW.skip rfl rfl rfl rfl ?_
              refine PW.skip rfl rfl rfl rfl ?_
              refine PW.skip rfl rfl rfl rfl ?_
              refine PW.skip rfl rfl rfl rfl ?_
              refine PW.skip rfl rfl rfl rfl ?_
              refine PW.skip rfl rfl rfl rfl ?_
              refine PW.skip rfl rfl rfl rfl ?_
              refine PW.skip rfl rfl rfl rfl ?_
              refine PW.skip rfl rfl rfl rfl ?_
              refine PW.skip rfl rfl rfl rfl ?_
              refine PW.skip1 rfl rfl rfl rfl ?_
              refine PW.skip rfl rfl rfl rfl ?_
              refine PW.skip rfl rfl rfl rfl ?_
              refine PW.ex rfl rfl rfl rfl (by first | exact Ex.pick_yes rfl rfl | exact Ex.pick_no rfl rfl) ?_
              refine PW.nil ?_
              refine LW.nil fun aa ha => hK26 _ _ _ ?_ aa ha
              refine CW.yes rfl ?_
              refine CW.seq fun K28 hK28 => ?_
              refine CW.region [0] rfl ?_
              refine LW.ex rfl rfl rfl rfl (Ex.assign rfl) hS.rd ?_
              refine LW.nil fun aa ha => hK28 _ _ _ ?_ aa ha
              refine CW.ret fun aa ha => ?_
              refine ret_one ha Try.results67 rfl ?_
              exact hS.retB (okX_no2 (by rw [he, rises_not _ _ _ _ hi2 (by rw [Bool.eq_false_iff, ne_eq, edIn_iff]; omega)])).symm
          · have h6_15 := isUp3n h6_15
            refine PW.ex rfl rfl rfl rfl (Ex.not rfl rfl) ?_
            refine PW.ex rfl rfl rfl rfl (by first | exact Ex.pick_yes rfl rfl | exact Ex.pick_no rfl rfl) ?_
            refine PW.ex rfl rfl rfl rfl (Ex.move rfl) ?_
            refine PW.skip rfl rfl rfl rfl ?_
            refine PW.skip rfl rfl rfl rfl ?_
            refine PW.skip1 rfl rfl rfl rfl ?_
            refine PW.skip1 rfl rfl rfl rfl ?_
            refine PW.skip rfl rfl rfl rfl ?_
            refine PW.ex rfl rfl rfl rfl (by first | exact Ex.pick_yes rfl rfl | exact Ex.pick_no rfl rfl) ?_
            refine PW.ex rfl rfl rfl rfl (Ex.move rfl) ?_
            refine PW.skip rfl rfl rfl rfl ?_
            refine PW.skip rfl rfl rfl rfl ?_
            refine PW.skip rfl rfl rfl rfl ?_
            refine PW.skip rfl rfl rfl rfl ?_
            refine PW.skip rfl rfl rfl rfl ?_
            refine PW.skip rfl rfl rfl rfl ?_
            refine PW.skip rfl rfl rfl rfl ?_
            refine PW.skip rfl rfl rfl rfl ?_
            refine PW.skip rfl rfl rfl rfl ?_
            refine PW.skip rfl rfl rfl rfl ?_
            refine PW.skip1 rfl rfl rfl rfl ?_
            refine PW.skip rfl rfl rfl rfl ?_
            refine PW.skip rfl rfl rfl rfl ?_
            refine PW.ex rfl rfl rfl rfl (by first | exact Ex.pick_yes rfl rfl | exact Ex.pick_no rfl rfl) ?_
            refine PW.nil ?_
            refine LW.nil fun aa ha => hK26 _ _ _ ?_ aa ha
            refine CW.yes rfl ?_
            refine CW.seq fun K29 hK29 => ?_
            refine CW.region [0] rfl ?_
            refine LW.ex rfl rfl rfl rfl (Ex.assign rfl) hS.rd ?_
            refine LW.nil fun aa ha => hK29 _ _ _ ?_ aa ha
            refine CW.ret fun aa ha => ?_
            refine ret_one ha Try.results67 rfl ?_
            exact hS.retB (okX_no2 (by rw [he, rises_not _ _ _ _ hi2 (by rw [Bool.eq_false_iff, ne_eq, edIn_iff]; omega)])).symm
        · have h6_9 := isUp4n h6_9
          refine PW.ex rfl rfl rfl rfl (Ex.not rfl rfl) ?_
          refine PW.ex rfl rfl rfl rfl (Ex.move rfl) ?_
          refine PW.skip rfl rfl rfl rfl ?_
          refine PW.skip rfl rfl rfl rfl ?_
          refine PW.skip1 rfl rfl rfl rfl ?_
          refine PW.skip1 rfl rfl rfl rfl ?_
          refine PW.skip rfl rfl rfl rfl ?_
          refine PW.ex rfl rfl rfl rfl (by first | exact Ex.pick_yes rfl rfl | exact Ex.pick_no rfl rfl) ?_
          refine PW.ex rfl rfl rfl rfl (Ex.move rfl) ?_
          refine PW.skip rfl rfl rfl rfl ?_
          refine PW.skip rfl rfl rfl rfl ?_
          refine PW.skip1 rfl rfl rfl rfl ?_
          refine PW.skip1 rfl rfl rfl rfl ?_
          refine PW.skip rfl rfl rfl rfl ?_
          refine PW.ex rfl rfl rfl rfl (by first | exact Ex.pick_yes rfl rfl | exact Ex.pick_no rfl rfl) ?_
          refine PW.ex rfl rfl rfl rfl (Ex.move rfl) ?_
          refine PW.skip rfl rfl rfl rfl ?_
          refine PW.skip rfl rfl rfl rfl ?_
          refine PW.skip rfl rfl rfl rfl ?_
          refine PW.skip rfl rfl rfl rfl ?_
          refine PW.skip rfl rfl rfl rfl ?_
          refine PW.skip rfl rfl rfl rfl ?_
          refine PW.skip rfl rfl rfl rfl ?_
          refine PW.skip rfl rfl rfl rfl ?_
          refine PW.skip rfl rfl rfl rfl ?_
          refine PW.skip rfl rfl rfl rfl ?_
          refine PW.skip1 rfl rfl rfl rfl ?_
          refine PW.skip rfl rfl rfl rfl ?_
          refine PW.skip rfl rfl rfl rfl ?_
          refine PW.ex rfl rfl rfl rfl (by first | exact Ex.pick_yes rfl rfl | exact Ex.pick_no rfl rfl) ?_
          refine PW.nil ?_
          refine LW.nil fun aa ha => hK26 _ _ _ ?_ aa ha
          refine CW.yes rfl ?_
          refine CW.seq fun K30 hK30 => ?_
          refine CW.region [0] rfl ?_
          refine LW.ex rfl rfl rfl rfl (Ex.assign rfl) hS.rd ?_
          refine LW.nil fun aa ha => hK30 _ _ _ ?_ aa ha
          refine CW.ret fun aa ha => ?_
          refine ret_one ha Try.results67 rfl ?_
          exact hS.retB (okX_no2 (by rw [he, rises_not _ _ _ _ hi2 (by rw [Bool.eq_false_iff, ne_eq, edIn_iff]; omega)])).symm
      · have h4_0 := of_decide_eq_false h4_0
        refine LW.nil fun aa ha => hK22 _ _ _ ?_ aa ha
        refine CW.seq fun K31 hK31 => ?_
        refine CW.no rfl ?_
        refine CW.exit fun aa ha => hK20 _ _ _ ?_ aa ha
        refine CW.seq fun K32 hK32 => ?_
        refine CW.region [0] rfl ?_
        refine LW.ex rfl rfl rfl rfl (Ex.assign rfl) hS.rd ?_
        refine LW.nil fun aa ha => hK32 _ _ _ ?_ aa ha
        refine CW.ret fun aa ha => ?_
        refine ret_one ha Try.results67 rfl ?_
        have hdr : okX x = true := by unfold okX; rw [he, rises_end _ _ _ _ (by omega), decide_eq_true (by omega)]; rfl
        rw [hdr]; exact hS.retS
  · have h1_3 := isUp3n h1_3
    refine LW.ex rfl rfl rfl rfl (Ex.not rfl rfl) hS.rd ?_
    refine LW.ex rfl rfl rfl rfl (Ex.move rfl) hS.rd ?_
    refine LW.skip rfl rfl rfl rfl ?_
    refine LW.skip rfl rfl rfl rfl ?_
    refine LW.skip rfl rfl rfl rfl ?_
    refine LW.skip rfl rfl rfl rfl ?_
    refine LW.ex rfl rfl rfl rfl (by first | exact Ex.pick_yes rfl rfl | exact Ex.pick_no rfl rfl) hS.rd ?_
    refine LW.nil fun aa ha => hK18 _ _ _ ?_ aa ha
    refine CW.yes rfl ?_
    refine CW.seq fun K33 hK33 => ?_
    refine CW.region [0] rfl ?_
    refine LW.ex rfl rfl rfl rfl (Ex.assign rfl) hS.rd ?_
    refine LW.nil fun aa ha => hK33 _ _ _ ?_ aa ha
    refine CW.ret fun aa ha => ?_
    refine ret_one ha Try.results67 rfl ?_
    exact hS.retB (okX_no1 (by omega)).symm
end Go.Proofs.Ytgnpjhellmfhoaa

/-
  Context: the walks of the reference's Valid of lattices; what fits a model.
-/
namespace Go.Proofs.Ytgnpjhellmfhoaa
open Go.RowKit Sy


def wordsIn (x : Lat) (n : Nat) : Bool := x.Edges.all fun e => decide (e.Word < n)
theorem fits1_c (e : Edge) (b4 : Nat) (m : Mdl) (a0 a1 a2 : Option Addr) (c0 c1 c2 : Nat) (μ : Mem) (w : World) (hμ : Imm μ w) (h0 : μ.cell b4 (0 + 0) = some (.slice a0 m.Words.length c0)) :
    Calls Try.prog 66 #[edgeV e, .pointer (some ⟨b4, 0, none⟩)] w (RetS w (.bool (decide ((m.Words.length : Int) ≤ e.Word)))) := by
  have hS := St.start w μ hμ
  refine calls_start 10 [edgeV e, .pointer (some ⟨b4, 0, none⟩)] Try.func66 rfl Try.ntmps66 rfl rfl ?_
  refine CW.seq fun K33 hK33 => ?_
  refine CW.region [0, 1] rfl ?_
  refine LW.hv rfl rfl rfl rfl (Hv.boxS hS rfl rfl) fun v w2 ⟨b2, hv, hb2, hS⟩ => ?_
  subst hv
  refine LW.ex rfl rfl rfl rfl (Ex.assign rfl) hS.rd ?_
  refine LW.nil fun aa ha => hK33 _ _ _ ?_ aa ha
  refine CW.seq fun K34 hK34 => ?_
  refine CW.region [0, 1, 2, 3, 4, 5, 6] rfl ?_
  refine LW.ex rfl rfl rfl rfl (Ex.fieldO 2 Try.underlying43 rfl rfl ti3 rfl) hS.rd ?_
  refine LW.ex rfl rfl rfl rfl (Ex.load1 ti3 rfl rfl (by first | exact obT rfl | exact Rd.imm ‹_› | exact slT ‹_›)) hS.rd ?_
  refine LW.ex rfl rfl rfl rfl (Ex.fieldO 0 Try.underlying34 rfl rfl ti30 rfl) hS.rd ?_
  refine LW.ex rfl rfl rfl rfl (Ex.load1 ti30 rfl rfl (by first | exact obT rfl | exact Rd.imm ‹_› | exact slT ‹_›)) hS.rd ?_
  refine LW.ex rfl rfl rfl rfl (Ex.lenSl rfl Try.underlying30 rfl) hS.rd ?_
  refine LW.ex rfl rfl rfl rfl (Ex.geq rfl rfl (by first | exact decide_eq_true (by omega) | exact decide_eq_false (by omega) | rfl)) hS.rd ?_
  refine LW.ex rfl rfl rfl rfl (Ex.assign rfl) hS.rd ?_
  refine LW.nil fun aa ha => hK34 _ _ _ ?_ aa ha
  refine CW.ret fun aa ha => ?_
  refine ret_one ha Try.results66 rfl ?_
  exact hS.retS
def firstI {α : Type} (p : α → Bool) (xs : List α) : Int := if xs.findIdx p < xs.length then (xs.findIdx p : Nat) else -1
theorem indexEd_c (xs : List Edge) (p : Edge → Bool) (f : Nat) (cap : Array Value) (hf : Callable Try.prog f) (ad : Option Addr) (c : Nat) (μ : Mem) (w : World) (hμ : Imm μ w) (hl : Sl μ ad c xs)
    (hp : ∀ x ∈ xs, ∀ w', Imm μ w' → Calls Try.prog f ([edgeV x] ++ cap.toList).toArray w' (RetS w' (.bool (p x)))) :
    Calls Try.prog 84 #[.slice ad xs.length c, .func (.func f) #[] cap] w (RetS w (.int .i64 (firstI p xs))) := by
  have hll := hl.1
  have hlc := hl.2.1
  simp only [maxLen] at hlc
  have hS := St.start w μ hμ
  refine calls_start 19 [.slice ad xs.length c, .func (.func f) #[] cap] Try.func84 rfl Try.ntmps84 rfl rfl ?_
  refine CW.seq fun K35 hK35 => ?_
  refine CW.region [0] rfl ?_
  refine LW.ex rfl rfl rfl rfl (Ex.assign rfl) hS.rd ?_
  refine LW.nil fun aa ha => hK35 _ _ _ ?_ aa ha
  refine CW.seq fun K36 hK36 => ?_
  refine CW.seq fun K37 hK37 => ?_
  refine CW.region [0, 1, 2] rfl ?_
  refine LW.ex rfl rfl rfl rfl (Ex.move rfl) hS.rd ?_
  refine LW.ex rfl rfl rfl rfl (Ex.lenSl rfl Try.underlying36 rfl) hS.rd ?_
  refine LW.ex rfl rfl rfl rfl (Ex.move rfl) hS.rd ?_
  refine LW.nil fun aa ha => hK37 _ _ _ ?_ aa ha
  refine CW.block ?_
  refine CW.loop (fun qq frm wl2 => ∃ (i : Nat), i ≤ xs.length ∧ qq = xs.length - i ∧ frm = [(0, .slice ad xs.length c), (1, .func (.func f) #[] cap), (7, .int .i64 ((xs.length : Nat) : Int)), (8, .int .i64 i)] ∧ St w wl2 μ [] ∧ (∀ j (hj : j < xs.length), j < i → p xs[j] = false)) _ ⟨0, (by first | omega | (simp; done) | (simp; omega)), rfl, rfl, hS, fun j _ hj => by omega⟩ ⟨rfl, rfl, rfl, rfl, trivial⟩ ?_
  clear hS
  rintro qq frm wl2 ⟨i, hi, hq, rfl, hS, he⟩
  refine CW.seq fun K38 hK38 => ?_
  refine CW.region [0] rfl ?_
  refine LW.ex rfl rfl rfl rfl (Ex.lss rfl rfl rfl) hS.rd ?_
  refine LW.splitB (fun h2_0 => ?_) (fun h2_0 => ?_)
  · have h2_0 := of_decide_eq_true h2_0
    refine LW.nil fun aa ha => hK38 _ _ _ ?_ aa ha
    refine CW.seq fun K39 hK39 => ?_
    refine CW.yes rfl ?_
    refine CW.skip fun aa ha => hK39 _ _ _ ?_ aa ha
    refine CW.seq fun K40 hK40 => ?_
    refine CW.block ?_
    refine CW.seq fun K41 hK41 => ?_
    have hi2 : i < xs.length := by omega
    obtain ⟨bl, ol, rfl, k0, k1, k2, k3⟩ := hl.at hi2
    refine CW.region [0, 1] rfl ?_
    refine LW.ex rfl rfl rfl rfl (Ex.move rfl) hS.rd ?_
    refine LW.ex rfl rfl rfl rfl (Ex.assign rfl) hS.rd ?_
    refine LW.nil fun aa ha => hK41 _ _ _ ?_ aa ha
    refine CW.seq fun K42 hK42 => ?_
    refine CW.region [0, 1, 2, 3, 4, 5] rfl ?_
    refine LW.ex rfl rfl rfl rfl (Ex.move rfl) hS.rd ?_
    refine LW.ex rfl rfl rfl rfl (Ex.move rfl) hS.rd ?_
    refine LW.ex rfl rfl rfl rfl (Ex.move rfl) hS.rd ?_
    refine LW.ex rfl rfl rfl rfl (Ex.indexSl Try.underlying36 ti43 rfl rfl rfl (by omega)) hS.rd ?_
    refine LW.ex rfl rfl rfl rfl (Ex.load4c ti43 rfl rfl (by first | exact obT rfl | exact Rd.imm ‹_› | exact slT ‹_›) (by first | exact obT rfl | exact Rd.imm ‹_› | exact slT ‹_›) (by first | exact obT rfl | exact Rd.imm ‹_› | exact slT ‹_›) (by first | exact obT rfl | exact Rd.imm ‹_› | exact slT ‹_›)) hS.rd ?_
    refine LW.hv rfl rfl rfl rfl (Hv.callS hS rfl rfl rfl hf (hp xs[i] (List.getElem_mem hi2) _ hS.imm)) fun v w16 ⟨hv, hS⟩ => ?_
    subst hv
    refine LW.splitB (fun h4_5 => ?_) (fun h4_5 => ?_)
    · skip
      refine LW.nil fun aa ha => hK42 _ _ _ ?_ aa ha
      refine CW.yes rfl ?_
      refine CW.seq fun K43 hK43 => ?_
      refine CW.region [0, 1] rfl ?_
      refine LW.ex rfl rfl rfl rfl (Ex.move rfl) hS.rd ?_
      refine LW.ex rfl rfl rfl rfl (Ex.assign rfl) hS.rd ?_
      refine LW.nil fun aa ha => hK43 _ _ _ ?_ aa ha
      refine CW.ret fun aa ha => ?_
      refine ret_one ha Try.results84 rfl ?_
      exact hS.retE (by unfold firstI; rw [(List.findIdx_eq hi2).2 ⟨h4_5, fun j hj => he j (by omega) hj⟩, if_pos hi2])
    · skip
      refine LW.nil fun aa ha => hK42 _ _ _ ?_ aa ha
      refine CW.no rfl ?_
      refine CW.skip fun aa ha => hK40 _ _ _ ?_ aa ha
      refine CW.region [0, 1] rfl ?_
      refine LW.ex rfl rfl rfl rfl (Ex.add rfl rfl (by first | exact inc64 (by omega) | exact addN (by omega) | exact w64 (by omega) (by omega))) hS.rd ?_
      refine LW.ex rfl rfl rfl rfl (Ex.move rfl) hS.rd ?_
      refine LW.nil fun aa ha => ?_
      refine ⟨_, _, ?m2, ⟨i + 1, (by first | omega | (simp; done) | (simp; omega)), rfl, rfl, hS, ?_⟩, ha.sub ⟨rfl, rfl, rfl, rfl, trivial⟩⟩
      case m2 => omega
      intro j hj hji
      by_cases hj2 : j = i
      · subst hj2; exact h4_5
      · exact he j hj (by omega)
  · have h2_0 := of_decide_eq_false h2_0
    refine LW.nil fun aa ha => hK38 _ _ _ ?_ aa ha
    refine CW.seq fun K44 hK44 => ?_
    refine CW.no rfl ?_
    refine CW.exit fun aa ha => hK36 _ _ _ ?_ aa ha
    refine CW.seq fun K45 hK45 => ?_
    refine CW.region [0] rfl ?_
    refine LW.ex rfl rfl rfl rfl (Ex.assign rfl) hS.rd ?_
    refine LW.nil fun aa ha => hK45 _ _ _ ?_ aa ha
    refine CW.ret fun aa ha => ?_
    refine ret_one ha Try.results84 rfl ?_
    exact hS.retE (by unfold firstI; rw [List.findIdx_eq_length.2 fun y hy => (by obtain ⟨j, hj, rfl⟩ := List.getElem_of_mem hy; exact he j hj (by omega)), if_neg (by omega)])
theorem firstI_any {α : Type} (p : α → Bool) (xs : List α) : decide (0 ≤ firstI p xs) = xs.any p := by
  unfold firstI
  by_cases h : xs.findIdx p < xs.length
  · rw [if_pos h, decide_eq_true (by omega)]
    symm; rw [List.any_eq_true]
    exact ⟨_, List.getElem_mem h, List.findIdx_getElem⟩
  · rw [if_neg h, decide_eq_false (by omega)]
    symm; rw [List.any_eq_false]
    intro x hx hp
    exact h (List.findIdx_lt_length_of_exists ⟨x, hx, hp⟩)
theorem containsEd_c (xs : List Edge) (p : Edge → Bool) (f : Nat) (cap : Array Value) (hf : Callable Try.prog f) (ad : Option Addr) (c : Nat) (μ : Mem) (w : World) (hμ : Imm μ w) (hl : Sl μ ad c xs)
    (hp : ∀ x ∈ xs, ∀ w', Imm μ w' → Calls Try.prog f ([edgeV x] ++ cap.toList).toArray w' (RetS w' (.bool (p x)))) :
    Calls Try.prog 68 #[.slice ad xs.length c, .func (.func f) #[] cap] w (RetS w (.bool (xs.any p))) := by
  have hS := St.start w μ hμ
  refine calls_start 9 [.slice ad xs.length c, .func (.func f) #[] cap] Try.func68 rfl Try.ntmps68 rfl rfl ?_
  refine CW.seq fun K46 hK46 => ?_
  refine CW.region [0] rfl ?_
  refine LW.ex rfl rfl rfl rfl (Ex.assign rfl) hS.rd ?_
  refine LW.nil fun aa ha => hK46 _ _ _ ?_ aa ha
  refine CW.seq fun K47 hK47 => ?_
  refine CW.region [0, 1, 2, 3, 4] rfl ?_
  refine LW.ex rfl rfl rfl rfl (Ex.move rfl) hS.rd ?_
  refine LW.ex rfl rfl rfl rfl (Ex.move rfl) hS.rd ?_
  refine LW.hv rfl rfl rfl rfl (Hv.callS hS rfl rfl rfl cb84 (indexEd_c xs p f cap hf _ _ _ _ hS.imm hl hp)) fun v w7 ⟨hv, hS⟩ => ?_
  subst hv
  refine LW.ex rfl rfl rfl rfl (Ex.geq rfl rfl (firstI_any p xs)) hS.rd ?_
  refine LW.ex rfl rfl rfl rfl (Ex.assign rfl) hS.rd ?_
  refine LW.nil fun aa ha => hK47 _ _ _ ?_ aa ha
  refine CW.ret fun aa ha => ?_
  refine ret_one ha Try.results68 rfl ?_
  exact hS.retS
end Go.Proofs.Ytgnpjhellmfhoaa
