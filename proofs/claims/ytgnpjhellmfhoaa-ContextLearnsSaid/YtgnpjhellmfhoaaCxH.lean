/-
  Context: the walks of the costs of words and pairs, in the program and in the reference.
-/
import Derived.Test.YtgnpjhellmfhoaaCxG
namespace Go.Proofs.Ytgnpjhellmfhoaa
open Go.RowKit Sy


theorem hit_spec {l : List Pr} (h : PrSort l) (a b : Int) : (hitL (keyCmp a b) l = true ∧ ∃ hl : lbL (keyCmp a b) l < l.length, l[lbL (keyCmp a b) l].A = a ∧ l[lbL (keyCmp a b) l].B = b ∧ l.find? (fun p => decide (p.A = a ∧ p.B = b)) = some l[lbL (keyCmp a b) l]) ∨
    (hitL (keyCmp a b) l = false ∧ l.find? (fun p => decide (p.A = a ∧ p.B = b)) = none) := by
  have hm := keyCmp_mono h a b
  cases hh : hitL (keyCmp a b) l with
  | true =>
    left
    refine ⟨rfl, ?_⟩
    unfold hitL at hh
    cases hx : l[lbL (keyCmp a b) l]? with
    | none => rw [hx] at hh; cases hh
    | some x =>
      rw [hx] at hh
      simp only [decide_eq_true_eq] at hh
      obtain ⟨hlt, rfl⟩ := List.getElem?_eq_some_iff.1 hx
      have hk := keyCmp_eq.1 hh
      refine ⟨hlt, hk.1, hk.2, ?_⟩
      rw [List.find?_eq_some_iff_getElem]
      refine ⟨decide_eq_true hk, _, hlt, rfl, fun j hj => ?_⟩
      have := List.pairwise_iff_getElem.1 h j _ (by omega) hlt hj
      rw [prLess_iff] at this
      simp only [Bool.not_eq_true', decide_eq_false_iff_not]
      omega
  | false =>
    right
    refine ⟨rfl, ?_⟩
    rw [List.find?_eq_none]
    intro x hx hc
    rw [decide_eq_true_eq] at hc
    obtain ⟨k, hk, rfl⟩ := List.getElem_of_mem hx
    have h0 : keyCmp a b l[k] = 0 := keyCmp_eq.2 hc
    have h1 : ¬ k < lbL (keyCmp a b) l := by rw [lbL_lt hm hk]; omega
    have hlt : lbL (keyCmp a b) l < l.length := by omega
    have h2 : ¬ keyCmp a b l[lbL (keyCmp a b) l] < 0 := (not_congr (lbL_lt hm hlt)).1 (by omega)
    have he : k = lbL (keyCmp a b) l := by
      rcases Nat.lt_or_ge (lbL (keyCmp a b) l) k with h3 | h3
      · have := List.pairwise_iff_getElem.1 h _ _ hlt hk h3
        rw [prLess_iff] at this
        rw [keyCmp_lt] at h2
        omega
      · omega
    unfold hitL at hh
    rw [List.getElem?_eq_getElem hlt] at hh
    simp only [decide_eq_false_iff_not] at hh
    subst he
    exact hh h0
theorem sumN_nonneg {l : List Pr} (h : ∀ p ∈ l, 0 ≤ p.N) (a : Int) : 0 ≤ sumN l a := sum_nonneg fun x hx => by
  obtain ⟨p, hp, rfl⟩ := List.mem_map.1 hx
  exact h p (List.mem_filter.1 hp).1
theorem MdlOk.N1 {m : Mdl} (h : MdlOk m) {p : Pr} (hp : p ∈ m.Pairs) : 1 ≤ p.N ∧ p.N ≤ sumN m.Pairs p.A ∧ p.N ≤ 1073741824 := by
  have h1 := (h.pp p hp).2.2.2.2
  have h2 := h.sum p.A
  have h3 : p.N ≤ sumN m.Pairs p.A := (le_sum (fun x hx => by
    obtain ⟨q, hq, rfl⟩ := List.mem_map.1 hx
    have := (h.pp q (List.mem_filter.1 hq).1).2.2.2.2; omega) (List.mem_map.2 ⟨p, List.mem_filter.2 ⟨hp, by simp⟩, rfl⟩)).1
  exact ⟨h1, h3, by omega⟩
theorem MdlOk.pairC0 {m : Mdl} (h : MdlOk m) (p w : Int) : 0 ≤ pairC m p w ∧ pairC m p w ≤ 2000 := by
  have hw := h.wordC0 w
  have hb := h.b0
  have hb1 := h.b1
  unfold pairC
  split
  · omega
  · split
    · omega
    · rename_i q hq
      have hm := List.mem_of_find?_eq_some hq
      have he := List.find?_some hq
      simp only [decide_eq_true_eq] at he
      have h1 := h.N1 hm
      have h2 := h.sum q.A
      rw [he.1] at h1 h2
      have := logZ_mono h1.2.1
      have := logZ_bound (n := sumN m.Pairs p) (by omega)
      have := logZ_bound (n := q.N) (by omega)
      omega
theorem cget {l : List Int} {w : Int} (h0 : 0 ≤ w) (h1 : w < l.length) : l[w.toNat]?.getD 0 = l[w.toNat]'(by omega) := by
  rw [List.getElem?_eq_getElem (by omega)]; rfl

theorem totok_c (l : List Int) (b : Int) (hb : 0 ≤ b) (hl : l.length ≤ 4294967296) (hx : ∀ x ∈ l, b ≤ x) (hs : l.sum ≤ 1073741824) (ad : Option Addr) (c : Nat) (μ : Mem) (w : World) (hμ : Imm μ w) (hsl : Sl μ ad c l) :
    Calls Try.prog 62 #[.slice ad l.length c, .int .i64 b] w (RetS w (.tuple #[.int .i64 l.sum, .bool true])) := by
  have := total_c l b hb hl ad c μ w hμ hsl
  rw [total_ok hb (by omega) hx (by omega), Int.zero_add] at this
  exact this
set_option maxRecDepth 100000 in
theorem cword_c (m : Mdl) (h : MdlOk m) (v : Int) (hv0 : 0 ≤ v) (hv1 : v < m.Words.length) (a0 a1 a2 : Option Addr) (c0 c1 c2 : Nat) (μ : Mem) (w : World) (hμ : Imm μ w) (hm0 : Sl μ a0 c0 m.Words) (hm1 : Sl μ a1 c1 m.Counts) (hm2 : Sl μ a2 c2 m.Pairs) :
    Calls Try.prog 69 #[.agg #[.slice a0 m.Words.length c0, .slice a1 m.Counts.length c1, .slice a2 m.Pairs.length c2, .int .i64 m.Back], .int .i64 v] w (RetS w (.int .i64 (wordC m v))) := by
  have hw := h.wordC0 v
  obtain ⟨hc1, hc2, hc3⟩ := h.count (w := v)
  have hcs := h.cs
  have hn1 := h.n1
  have hn2 := h.n2
  have hnc := h.nc
  have hwl : v.toNat < m.Counts.length := by omega
  have hget := cget (l := m.Counts) hv0 (by omega)
  obtain ⟨V, rfl⟩ : ∃ V : Nat, v = V := ⟨v.toNat, by omega⟩
  simp only [Int.toNat_natCast] at hwl hget
  obtain ⟨bl, ol, rfl, k0⟩ := hm1.at hwl
  unfold wordC at hw ⊢
  rw [Int.toNat_natCast, hget] at hw ⊢
  simp only [Int.toNat_natCast, hget] at hc1 hc2
  have hS := St.start w μ hμ
  refine calls_start 27 [.agg #[.slice a0 m.Words.length c0, .slice (some ⟨bl, ol, none⟩) m.Counts.length c1, .slice a2 m.Pairs.length c2, .int .i64 m.Back], .int .i64 V] Try.func69 rfl Try.ntmps69 rfl rfl ?_
  refine CW.seq fun K1 hK1 => ?_
  refine CW.region [0, 1] rfl ?_
  refine LW.hv rfl rfl rfl rfl (Hv.boxS hS rfl rfl) fun v w2 ⟨b2, hv, hb2, hS⟩ => ?_
  subst hv
  refine LW.ex rfl rfl rfl rfl (Ex.assign rfl) hS.rd ?_
  refine LW.nil fun aa ha => hK1 _ _ _ ?_ aa ha
  refine CW.seq fun K2 hK2 => ?_
  refine CW.region [0, 1, 2, 3, 4, 5, 6, 7] rfl ?_
  refine LW.ex rfl rfl rfl rfl (Ex.fieldO 1 Try.underlying34 rfl rfl ti31 rfl) hS.rd ?_
  refine LW.ex rfl rfl rfl rfl (Ex.load1 ti31 rfl rfl (by first | exact obT rfl | exact Rd.imm ‹_› | exact slT ‹_›)) hS.rd ?_
  refine LW.hv rfl rfl rfl rfl (Hv.callS hS rfl rfl rfl cb62 (totok_c m.Counts 0 (by omega) (by omega) h.c0 h.cs _ _ _ _ hS.imm hm1)) fun v w10 ⟨hv, hS⟩ => ?_
  subst hv
  refine LW.ex rfl rfl rfl rfl (Ex.move rfl) hS.rd ?_
  refine LW.ex rfl rfl rfl rfl (Ex.extract rfl rfl) hS.rd ?_
  refine LW.ex rfl rfl rfl rfl (Ex.extract rfl rfl) hS.rd ?_
  refine LW.ex rfl rfl rfl rfl (Ex.assign rfl) hS.rd ?_
  refine LW.ex rfl rfl rfl rfl (Ex.assign rfl) hS.rd ?_
  refine LW.nil fun aa ha => hK2 _ _ _ ?_ aa ha
  refine CW.seq fun K3 hK3 => ?_
  have hS := hS.drew
  refine CW.draw 15 (.ex 0 <| .ex 1 <| .ex 2 <| .ex 3 <| .ex 4 <| .ex 6 <| .ex 7 <| .ex 8 <| .ex 9 <| .ex 10 <| .ex 11 <| .one 5 <| .one 12 <| .ex 13 <| .ex 14 <| .done) [] (Rd _ _) mixed (by kernel_rfl) rfl rfl hS.rd ?_
  refine PW.ex rfl rfl rfl rfl (Ex.move rfl) ?_
  refine PW.ex rfl rfl rfl rfl (Ex.fieldO 0 Try.underlying34 rfl rfl ti30 rfl) ?_
  refine PW.ex rfl rfl rfl rfl (Ex.load1 ti30 rfl rfl (by first | exact obT rfl | exact Rd.imm ‹_› | exact slT ‹_›)) ?_
  refine PW.ex rfl rfl rfl rfl (Ex.lenSl rfl Try.underlying30 rfl) ?_
  refine PW.ex rfl rfl rfl rfl (Ex.add rfl rfl (by first | exact inc64 (by omega) | exact addN (by omega) | exact w64 (by omega) (by omega))) ?_
  refine PW.ex rfl rfl rfl rfl (Ex.fieldO 1 Try.underlying34 rfl rfl ti31 rfl) ?_
  refine PW.ex rfl rfl rfl rfl (Ex.load1 ti31 rfl rfl (by first | exact obT rfl | exact Rd.imm ‹_› | exact slT ‹_›)) ?_
  refine PW.ex rfl rfl rfl rfl (Ex.move rfl) ?_
  refine PW.ex rfl rfl rfl rfl (Ex.indexSl Try.underlying31 ti3 rfl rfl rfl (by omega)) ?_
  refine PW.ex rfl rfl rfl rfl (Ex.load1 ti3 rfl rfl (by first | exact obT rfl | exact Rd.imm ‹_› | exact slT ‹_›)) ?_
  refine PW.ex rfl rfl rfl rfl (Ex.add rfl rfl (by first | exact inc64 (by omega) | exact addN (by omega) | exact w64 (by omega) (by omega))) ?_
  refine PW.hv rfl rfl rfl rfl (Hv.callS hS rfl rfl rfl cb71 (log_c _ (by omega) _)) (fun _ _ h => h.2.rd) fun v w18 ⟨hv, hS⟩ => ?_
  subst hv
  refine PW.hv rfl rfl rfl rfl (Hv.callS hS rfl rfl rfl cb71 (log_c _ (by omega) _)) (fun _ _ h => h.2.rd) fun v w25 ⟨hv, hS⟩ => ?_
  subst hv
  refine PW.ex rfl rfl rfl rfl (Ex.sub rfl rfl (w64 (by omega) (by omega))) ?_
  refine PW.ex rfl rfl rfl rfl (Ex.assign rfl) ?_
  refine PW.nil ?_
  refine LW.nil fun aa ha => hK3 _ _ _ ?_ aa ha
  refine CW.ret fun aa ha => ?_
  refine ret_one ha Try.results69 rfl ?_
  exact hS.retS
def intsum (l : List Int) : Int := l.sum
theorem MdlOk.cSmall {m : Mdl} (h : MdlOk m) : small m.Counts := ⟨by have := h.nc; have := h.n2; omega, fun x hx => by have := h.c0 x hx; have := le_sum h.c0 hx; have := h.cs; omega⟩
set_option maxRecDepth 100000 in
theorem rword_c (m : Mdl) (h : MdlOk m) (v : Int) (hv0 : 0 ≤ v) (hv1 : v < m.Words.length) (a0 a1 a2 : Option Addr) (c0 c1 c2 : Nat) (μ : Mem) (w : World) (hμ : Imm μ w) (hm0 : Sl μ a0 c0 m.Words) (hm1 : Sl μ a1 c1 m.Counts) (hm2 : Sl μ a2 c2 m.Pairs) :
    Calls Try.prog 22 #[.agg #[.slice a0 m.Words.length c0, .slice a1 m.Counts.length c1, .slice a2 m.Pairs.length c2, .int .i64 m.Back], .int .i64 v] w (RetS w (.int .i64 (wordC m v))) := by
  have hw := h.wordC0 v
  obtain ⟨hc1, hc2, hc3⟩ := h.count (w := v)
  have hcs := h.cs
  have hn1 := h.n1
  have hn2 := h.n2
  have hnc := h.nc
  have hwl : v.toNat < m.Counts.length := by omega
  have hget := cget (l := m.Counts) hv0 (by omega)
  obtain ⟨V, rfl⟩ : ∃ V : Nat, v = V := ⟨v.toNat, by omega⟩
  simp only [Int.toNat_natCast] at hwl hget
  obtain ⟨bl, ol, rfl, k0⟩ := hm1.at hwl
  unfold wordC at hw ⊢
  rw [Int.toNat_natCast, hget] at hw ⊢
  simp only [Int.toNat_natCast, hget] at hc1 hc2
  have hS := St.start w μ hμ
  refine calls_start 21 [.agg #[.slice a0 m.Words.length c0, .slice (some ⟨bl, ol, none⟩) m.Counts.length c1, .slice a2 m.Pairs.length c2, .int .i64 m.Back], .int .i64 V] Try.func22 rfl Try.ntmps22 rfl rfl ?_
  refine CW.seq fun K4 hK4 => ?_
  refine CW.region [0, 1] rfl ?_
  refine LW.hv rfl rfl rfl rfl (Hv.boxS hS rfl rfl) fun v w2 ⟨b2, hv, hb2, hS⟩ => ?_
  subst hv
  refine LW.ex rfl rfl rfl rfl (Ex.assign rfl) hS.rd ?_
  refine LW.nil fun aa ha => hK4 _ _ _ ?_ aa ha
  refine CW.seq fun K5 hK5 => ?_
  have hS := hS.drew
  refine CW.draw 17 (.ex 0 <| .ex 1 <| .ex 3 <| .ex 4 <| .ex 5 <| .ex 8 <| .ex 9 <| .ex 10 <| .ex 11 <| .ex 12 <| .ex 13 <| .one 2 <| .ex 6 <| .one 7 <| .one 14 <| .ex 15 <| .ex 16 <| .done) [] (Rd _ _) mixed (by kernel_rfl) rfl rfl hS.rd ?_
  refine PW.ex rfl rfl rfl rfl (Ex.fieldO 1 Try.underlying34 rfl rfl ti31 rfl) ?_
  refine PW.ex rfl rfl rfl rfl (Ex.load1 ti31 rfl rfl (by first | exact obT rfl | exact Rd.imm ‹_› | exact slT ‹_›)) ?_
  refine PW.ex rfl rfl rfl rfl (Ex.fieldO 0 Try.underlying34 rfl rfl ti30 rfl) ?_
  refine PW.ex rfl rfl rfl rfl (Ex.load1 ti30 rfl rfl (by first | exact obT rfl | exact Rd.imm ‹_› | exact slT ‹_›)) ?_
  refine PW.ex rfl rfl rfl rfl (Ex.lenSl rfl Try.underlying30 rfl) ?_
  refine PW.ex rfl rfl rfl rfl (Ex.fieldO 1 Try.underlying34 rfl rfl ti31 rfl) ?_
  refine PW.ex rfl rfl rfl rfl (Ex.load1 ti31 rfl rfl (by first | exact obT rfl | exact Rd.imm ‹_› | exact slT ‹_›)) ?_
  refine PW.ex rfl rfl rfl rfl (Ex.move rfl) ?_
  refine PW.ex rfl rfl rfl rfl (Ex.indexSl Try.underlying31 ti3 rfl rfl rfl (by omega)) ?_
  refine PW.ex rfl rfl rfl rfl (Ex.load1 ti3 rfl rfl (by first | exact obT rfl | exact Rd.imm ‹_› | exact slT ‹_›)) ?_
  refine PW.ex rfl rfl rfl rfl (Ex.add rfl rfl (by first | exact inc64 (by omega) | exact addN (by omega) | exact w64 (by omega) (by omega))) ?_
  refine PW.hv rfl rfl rfl rfl (Hv.callS hS rfl rfl rfl cb45 (refTotal_c m.Counts h.cSmall _ _ _ _ hS.imm hm1)) (fun _ _ h => h.2.rd) fun v w7 ⟨hv, hS⟩ => ?_
  subst hv
  refine PW.ex rfl rfl rfl rfl (Ex.add rfl rfl (by first | exact inc64 (by omega) | exact addN (by omega) | exact w64 (by omega) (by omega))) ?_
  refine PW.hv rfl rfl rfl rfl (Hv.callS hS rfl rfl rfl cb44 (reflog_c _ (by omega) _)) (fun _ _ h => h.2.rd) fun v w12 ⟨hv, hS⟩ => ?_
  subst hv
  refine PW.hv rfl rfl rfl rfl (Hv.callS hS rfl rfl rfl cb44 (reflog_c _ (by omega) _)) (fun _ _ h => h.2.rd) fun v w19 ⟨hv, hS⟩ => ?_
  subst hv
  refine PW.ex rfl rfl rfl rfl (Ex.sub rfl rfl (w64 (by omega) (by omega))) ?_
  refine PW.ex rfl rfl rfl rfl (Ex.assign rfl) ?_
  refine PW.nil ?_
  refine LW.nil fun aa ha => hK5 _ _ _ ?_ aa ha
  refine CW.ret fun aa ha => ?_
  refine ret_one ha Try.results22 rfl ?_
  exact hS.retS

def findI (l : List Pr) (a b : Int) : Int := if l.findIdx (fun p => decide (p.A = a ∧ p.B = b)) < l.length then (l.findIdx (fun p => decide (p.A = a ∧ p.B = b)) : Nat) else -1
theorem findI_at {l : List Pr} {a b : Int} {i : Nat} (h : i < l.length) (h1 : l[i].A = a ∧ l[i].B = b) (h2 : ∀ j (hj : j < l.length), j < i → ¬ (l[j].A = a ∧ l[j].B = b)) : findI l a b = i ∧ l.find? (fun p => decide (p.A = a ∧ p.B = b)) = some l[i] := by
  have e : l.findIdx (fun p => decide (p.A = a ∧ p.B = b)) = i := (List.findIdx_eq h).2 ⟨decide_eq_true h1, fun j hj => decide_eq_false (h2 j (by omega) hj)⟩
  refine ⟨by unfold findI; rw [e, if_pos h], ?_⟩
  rw [List.find?_eq_some_iff_getElem]
  exact ⟨decide_eq_true h1, i, h, rfl, fun j hj => by simp only [Bool.not_eq_true', decide_eq_false_iff_not]; exact h2 j (by omega) hj⟩
theorem findI_no {l : List Pr} {a b : Int} (h : ∀ j (hj : j < l.length), ¬ (l[j].A = a ∧ l[j].B = b)) : findI l a b = -1 ∧ l.find? (fun p => decide (p.A = a ∧ p.B = b)) = none := by
  have e : ∀ x ∈ l, (fun p : Pr => decide (p.A = a ∧ p.B = b)) x = false := fun x hx => by obtain ⟨j, hj, rfl⟩ := List.getElem_of_mem hx; exact decide_eq_false (h j hj)
  refine ⟨by unfold findI; rw [List.findIdx_eq_length.2 e, if_neg (by omega)], ?_⟩
  rw [List.find?_eq_none]; intro x hx; have := e x hx; simp only at this; rw [this]; simp
theorem rfind_c (m : Mdl) (a b : Int) (hbig : m.Pairs.length < 1099511627776) (a0 a1 a2 : Option Addr) (c0 c1 c2 : Nat) (μ : Mem) (w : World) (hμ : Imm μ w) (hm0 : Sl μ a0 c0 m.Words) (hm1 : Sl μ a1 c1 m.Counts) (hm2 : Sl μ a2 c2 m.Pairs) :
    Calls Try.prog 60 #[.agg #[.slice a0 m.Words.length c0, .slice a1 m.Counts.length c1, .slice a2 m.Pairs.length c2, .int .i64 m.Back], .int .i64 a, .int .i64 b] w (RetS w (.int .i64 (findI m.Pairs a b))) := by
  have hS := St.start w μ hμ
  refine calls_start 34 [.agg #[.slice a0 m.Words.length c0, .slice a1 m.Counts.length c1, .slice a2 m.Pairs.length c2, .int .i64 m.Back], .int .i64 a, .int .i64 b] Try.func60 rfl Try.ntmps60 rfl rfl ?_
  refine CW.seq fun K6 hK6 => ?_
  refine CW.region [0, 1] rfl ?_
  refine LW.hv rfl rfl rfl rfl (Hv.boxS hS rfl rfl) fun v w3 ⟨b3, hv, hb3, hS⟩ => ?_
  subst hv
  refine LW.ex rfl rfl rfl rfl (Ex.assign rfl) hS.rd ?_
  refine LW.nil fun aa ha => hK6 _ _ _ ?_ aa ha
  refine CW.seq fun K7 hK7 => ?_
  refine CW.seq fun K8 hK8 => ?_
  refine CW.region [0] rfl ?_
  refine LW.ex rfl rfl rfl rfl (Ex.assign rfl) hS.rd ?_
  refine LW.nil fun aa ha => hK8 _ _ _ ?_ aa ha
  refine CW.block ?_
  refine CW.loop (fun qq frm wl2 => ∃ (i : Nat), i ≤ m.Pairs.length ∧ qq = m.Pairs.length - i ∧ frm = [(1, .int .i64 a), (2, .int .i64 b), (3, .pointer (some ⟨b3, 0, none⟩)), (7, .int .i64 i)] ∧ St w wl2 μ [Own.obj b3 [.slice a0 m.Words.length c0, .slice a1 m.Counts.length c1, .slice a2 m.Pairs.length c2, .int .i64 m.Back] 34] ∧ (∀ j (hj : j < m.Pairs.length), j < i → ¬ (m.Pairs[j].A = a ∧ m.Pairs[j].B = b))) _ ⟨0, (by first | omega | (simp; done) | (simp; omega)), rfl, rfl, hS, fun j _ hj => by omega⟩ ⟨rfl, rfl, rfl, rfl, trivial⟩ ?_
  clear hS
  rintro qq frm wl2 ⟨i, hi, hq, rfl, hS, he⟩
  refine CW.seq fun K9 hK9 => ?_
  refine CW.seq fun K10 hK10 => ?_
  refine CW.region [0, 1, 2, 3, 4] rfl ?_
  refine LW.ex rfl rfl rfl rfl (Ex.move rfl) hS.rd ?_
  refine LW.ex rfl rfl rfl rfl (Ex.fieldO 2 Try.underlying34 rfl rfl ti32 rfl) hS.rd ?_
  refine LW.ex rfl rfl rfl rfl (Ex.load1 ti32 rfl rfl (by first | exact obT rfl | exact Rd.imm ‹_› | exact slT ‹_›)) hS.rd ?_
  refine LW.ex rfl rfl rfl rfl (Ex.lenSl rfl Try.underlying32 rfl) hS.rd ?_
  refine LW.ex rfl rfl rfl rfl (Ex.lss rfl rfl rfl) hS.rd ?_
  refine LW.splitB (fun h2_4 => ?_) (fun h2_4 => ?_)
  · have h2_4 := of_decide_eq_true h2_4
    refine LW.nil fun aa ha => hK10 _ _ _ ?_ aa ha
    refine CW.yes rfl ?_
    refine CW.skip fun aa ha => hK9 _ _ _ ?_ aa ha
    refine CW.seq fun K11 hK11 => ?_
    refine CW.block ?_
    refine CW.seq fun K12 hK12 => ?_
    have hi2 : i < m.Pairs.length := by omega
    obtain ⟨bl, ol, rfl, k0, k1, k2⟩ := hm2.at hi2
    refine CW.region [0, 1, 2, 3, 4, 5, 6, 7, 8, 9, 10, 11, 12, 13, 14, 15, 16, 17] rfl ?_
    refine LW.ex rfl rfl rfl rfl (Ex.fieldO 2 Try.underlying34 rfl rfl ti32 rfl) hS.rd ?_
    refine LW.ex rfl rfl rfl rfl (Ex.load1 ti32 rfl rfl (by first | exact obT rfl | exact Rd.imm ‹_› | exact slT ‹_›)) hS.rd ?_
    refine LW.ex rfl rfl rfl rfl (Ex.move rfl) hS.rd ?_
    refine LW.ex rfl rfl rfl rfl (Ex.indexSl Try.underlying32 ti87 rfl rfl rfl (by omega)) hS.rd ?_
    refine LW.ex rfl rfl rfl rfl (Ex.fieldO 0 Try.underlying87 rfl rfl ti3 rfl) hS.rd ?_
    refine LW.ex rfl rfl rfl rfl (Ex.load1 ti3 rfl rfl (by first | exact obT rfl | exact Rd.imm ‹_› | exact slT ‹_›)) hS.rd ?_
    refine LW.ex rfl rfl rfl rfl (Ex.move rfl) hS.rd ?_
    refine LW.ex rfl rfl rfl rfl (Ex.eql rfl rfl rfl) hS.rd ?_
    refine LW.splitB (fun h4_7 => ?_) (fun h4_7 => ?_)
    · have h4_7 := of_decide_eq_true h4_7
      refine LW.ex rfl rfl rfl rfl (Ex.move rfl) hS.rd ?_
      refine LW.ex rfl rfl rfl rfl (Ex.fieldO 2 Try.underlying34 rfl rfl ti32 rfl) hS.rd ?_
      refine LW.ex rfl rfl rfl rfl (Ex.load1 ti32 rfl rfl (by first | exact obT rfl | exact Rd.imm ‹_› | exact slT ‹_›)) hS.rd ?_
      refine LW.ex rfl rfl rfl rfl (Ex.move rfl) hS.rd ?_
      refine LW.ex rfl rfl rfl rfl (Ex.indexSl Try.underlying32 ti87 rfl rfl rfl (by omega)) hS.rd ?_
      refine LW.ex rfl rfl rfl rfl (Ex.fieldO 1 Try.underlying87 rfl rfl ti3 rfl) hS.rd ?_
      refine LW.ex rfl rfl rfl rfl (Ex.load1 ti3 rfl rfl (by first | exact obT rfl | exact Rd.imm ‹_› | exact slT ‹_›)) hS.rd ?_
      refine LW.ex rfl rfl rfl rfl (Ex.move rfl) hS.rd ?_
      refine LW.ex rfl rfl rfl rfl (Ex.eql rfl rfl rfl) hS.rd ?_
      refine LW.splitB (fun h4_16 => ?_) (fun h4_16 => ?_)
      · have h4_16 := of_decide_eq_true h4_16
        refine LW.ex rfl rfl rfl rfl (by first | exact Ex.pick_yes rfl rfl | exact Ex.pick_no rfl rfl) hS.rd ?_
        refine LW.nil fun aa ha => hK12 _ _ _ ?_ aa ha
        refine CW.yes rfl ?_
        refine CW.seq fun K13 hK13 => ?_
        refine CW.region [0, 1] rfl ?_
        refine LW.ex rfl rfl rfl rfl (Ex.move rfl) hS.rd ?_
        refine LW.ex rfl rfl rfl rfl (Ex.assign rfl) hS.rd ?_
        refine LW.nil fun aa ha => hK13 _ _ _ ?_ aa ha
        refine CW.ret fun aa ha => ?_
        refine ret_one ha Try.results60 rfl ?_
        exact hS.retE (by rw [(findI_at hi2 ⟨by omega, by omega⟩ he).1])
      · have h4_16 := of_decide_eq_false h4_16
        refine LW.ex rfl rfl rfl rfl (by first | exact Ex.pick_yes rfl rfl | exact Ex.pick_no rfl rfl) hS.rd ?_
        refine LW.nil fun aa ha => hK12 _ _ _ ?_ aa ha
        refine CW.no rfl ?_
        refine CW.skip fun aa ha => hK11 _ _ _ ?_ aa ha
        refine CW.region [0, 1, 2] rfl ?_
        refine LW.ex rfl rfl rfl rfl (Ex.move rfl) hS.rd ?_
        refine LW.ex rfl rfl rfl rfl (Ex.add rfl rfl (by first | exact inc64 (by omega) | exact addN (by omega) | exact w64 (by omega) (by omega))) hS.rd ?_
        refine LW.ex rfl rfl rfl rfl (Ex.assign rfl) hS.rd ?_
        refine LW.nil fun aa ha => ?_
        refine ⟨_, _, ?m2, ⟨i + 1, (by first | omega | (simp; done) | (simp; omega)), rfl, rfl, hS, ?_⟩, ha.sub ⟨rfl, rfl, rfl, rfl, trivial⟩⟩
        case m2 => omega
        intro j hj hji
        by_cases h : j = i
        · subst h; omega
        · exact he j hj (by omega)
    · have h4_7 := of_decide_eq_false h4_7
      refine LW.ex rfl rfl rfl rfl (Ex.move rfl) hS.rd ?_
      refine LW.skip rfl rfl rfl rfl ?_
      refine LW.skip rfl rfl rfl rfl ?_
      refine LW.skip rfl rfl rfl rfl ?_
      refine LW.skip rfl rfl rfl rfl ?_
      refine LW.skip rfl rfl rfl rfl ?_
      refine LW.skip rfl rfl rfl rfl ?_
      refine LW.skip rfl rfl rfl rfl ?_
      refine LW.skip rfl rfl rfl rfl ?_
      refine LW.ex rfl rfl rfl rfl (by first | exact Ex.pick_yes rfl rfl | exact Ex.pick_no rfl rfl) hS.rd ?_
      refine LW.nil fun aa ha => hK12 _ _ _ ?_ aa ha
      refine CW.no rfl ?_
      refine CW.skip fun aa ha => hK11 _ _ _ ?_ aa ha
      refine CW.region [0, 1, 2] rfl ?_
      refine LW.ex rfl rfl rfl rfl (Ex.move rfl) hS.rd ?_
      refine LW.ex rfl rfl rfl rfl (Ex.add rfl rfl (by first | exact inc64 (by omega) | exact addN (by omega) | exact w64 (by omega) (by omega))) hS.rd ?_
      refine LW.ex rfl rfl rfl rfl (Ex.assign rfl) hS.rd ?_
      refine LW.nil fun aa ha => ?_
      refine ⟨_, _, ?m2, ⟨i + 1, (by first | omega | (simp; done) | (simp; omega)), rfl, rfl, hS, ?_⟩, ha.sub ⟨rfl, rfl, rfl, rfl, trivial⟩⟩
      case m2 => omega
      intro j hj hji
      by_cases h : j = i
      · subst h; omega
      · exact he j hj (by omega)
  · have h2_4 := of_decide_eq_false h2_4
    refine LW.nil fun aa ha => hK10 _ _ _ ?_ aa ha
    refine CW.no rfl ?_
    refine CW.exit fun aa ha => hK7 _ _ _ ?_ aa ha
    refine CW.seq fun K14 hK14 => ?_
    refine CW.region [0] rfl ?_
    refine LW.ex rfl rfl rfl rfl (Ex.assign rfl) hS.rd ?_
    refine LW.nil fun aa ha => hK14 _ _ _ ?_ aa ha
    refine CW.ret fun aa ha => ?_
    refine ret_one ha Try.results60 rfl ?_
    exact hS.retE (by rw [(findI_no fun j hj => he j hj (by omega)).1])
theorem sumN_take {l : List Pr} {i : Nat} (h : i < l.length) (a : Int) : sumN (l.take (i + 1)) a = sumN (l.take i) a + if l[i].A = a then l[i].N else 0 := by
  unfold sumN afterL
  rw [List.take_succ_eq_append_getElem h, List.filter_append, List.map_append, List.sum_append]
  congr 1
  by_cases h1 : l[i].A = a
  · simp [h1]
  · simp [h1]
def NSmall (l : List Pr) : Prop := l.length ≤ 4294967296 ∧ ∀ p ∈ l, 0 ≤ p.N ∧ p.N ≤ 1073741824
theorem sumN_small {l : List Pr} (h : NSmall l) (a : Int) (i : Nat) (hi : i ≤ l.length) : 0 ≤ sumN (l.take i) a ∧ sumN (l.take i) a ≤ i * 1073741824 := by
  induction i with
  | zero => simp [sumN, afterL]
  | succ i ih =>
    have h1 := ih (by omega)
    rw [sumN_take (by omega)]
    have h2 := h.2 l[i] (List.getElem_mem (by omega))
    split <;> omega
theorem MdlOk.nSmall {m : Mdl} (h : MdlOk m) : NSmall m.Pairs := ⟨by have := h.pl; omega, fun p hp => by have := h.N1 hp; omega⟩
set_option maxRecDepth 100000 in
theorem rsum_c (m : Mdl) (a : Int) (hs : NSmall m.Pairs) (a0 a1 a2 : Option Addr) (c0 c1 c2 : Nat) (μ : Mem) (w : World) (hμ : Imm μ w) (hm0 : Sl μ a0 c0 m.Words) (hm1 : Sl μ a1 c1 m.Counts) (hm2 : Sl μ a2 c2 m.Pairs) :
    Calls Try.prog 58 #[.agg #[.slice a0 m.Words.length c0, .slice a1 m.Counts.length c1, .slice a2 m.Pairs.length c2, .int .i64 m.Back], .int .i64 a] w (RetS w (.int .i64 (sumN m.Pairs a))) := by
  have hll := hs.1
  have hS := St.start w μ hμ
  refine calls_start 31 [.agg #[.slice a0 m.Words.length c0, .slice a1 m.Counts.length c1, .slice a2 m.Pairs.length c2, .int .i64 m.Back], .int .i64 a] Try.func58 rfl Try.ntmps58 rfl rfl ?_
  refine CW.seq fun K15 hK15 => ?_
  refine CW.region [0, 1] rfl ?_
  refine LW.hv rfl rfl rfl rfl (Hv.boxS hS rfl rfl) fun v w2 ⟨b2, hv, hb2, hS⟩ => ?_
  subst hv
  refine LW.ex rfl rfl rfl rfl (Ex.assign rfl) hS.rd ?_
  refine LW.nil fun aa ha => hK15 _ _ _ ?_ aa ha
  refine CW.seq fun K16 hK16 => ?_
  refine CW.region [0] rfl ?_
  refine LW.ex rfl rfl rfl rfl (Ex.assign rfl) hS.rd ?_
  refine LW.nil fun aa ha => hK16 _ _ _ ?_ aa ha
  refine CW.seq fun K17 hK17 => ?_
  refine CW.seq fun K18 hK18 => ?_
  refine CW.region [0] rfl ?_
  refine LW.ex rfl rfl rfl rfl (Ex.assign rfl) hS.rd ?_
  refine LW.nil fun aa ha => hK18 _ _ _ ?_ aa ha
  refine CW.block ?_
  refine CW.loop (fun qq frm wl3 => ∃ (i : Nat) (s : Int), i ≤ m.Pairs.length ∧ qq = m.Pairs.length - i ∧ frm = [(1, .int .i64 a), (2, .pointer (some ⟨b2, 0, none⟩)), (5, .int .i64 s), (6, .int .i64 i)] ∧ St w wl3 μ [Own.obj b2 [.slice a0 m.Words.length c0, .slice a1 m.Counts.length c1, .slice a2 m.Pairs.length c2, .int .i64 m.Back] 34] ∧ (s = sumN (m.Pairs.take i) a)) _ ⟨0, 0, (by first | omega | (simp; done) | (simp; omega)), rfl, rfl, hS, rfl⟩ ⟨rfl, rfl, rfl, rfl, trivial⟩ ?_
  clear hS
  rintro qq frm wl3 ⟨i, s, hi, hq, rfl, hS, he⟩
  refine CW.seq fun K19 hK19 => ?_
  refine CW.seq fun K20 hK20 => ?_
  refine CW.region [0, 1, 2, 3, 4] rfl ?_
  refine LW.ex rfl rfl rfl rfl (Ex.move rfl) hS.rd ?_
  refine LW.ex rfl rfl rfl rfl (Ex.fieldO 2 Try.underlying34 rfl rfl ti32 rfl) hS.rd ?_
  refine LW.ex rfl rfl rfl rfl (Ex.load1 ti32 rfl rfl (by first | exact obT rfl | exact Rd.imm ‹_› | exact slT ‹_›)) hS.rd ?_
  refine LW.ex rfl rfl rfl rfl (Ex.lenSl rfl Try.underlying32 rfl) hS.rd ?_
  refine LW.ex rfl rfl rfl rfl (Ex.lss rfl rfl rfl) hS.rd ?_
  refine LW.splitB (fun h3_4 => ?_) (fun h3_4 => ?_)
  · have h3_4 := of_decide_eq_true h3_4
    refine LW.nil fun aa ha => hK20 _ _ _ ?_ aa ha
    refine CW.yes rfl ?_
    refine CW.skip fun aa ha => hK19 _ _ _ ?_ aa ha
    refine CW.seq fun K21 hK21 => ?_
    refine CW.block ?_
    refine CW.seq fun K22 hK22 => ?_
    have hi2 : i < m.Pairs.length := by omega
    obtain ⟨bl, ol, rfl, k0, k1, k2⟩ := hm2.at hi2
    have hb0 := sumN_small hs a i hi
    have hb1 := hs.2 m.Pairs[i] (List.getElem_mem hi2)
    rw [← he] at hb0
    refine CW.region [0, 1, 2, 3, 4, 5, 6, 7] rfl ?_
    refine LW.ex rfl rfl rfl rfl (Ex.fieldO 2 Try.underlying34 rfl rfl ti32 rfl) hS.rd ?_
    refine LW.ex rfl rfl rfl rfl (Ex.load1 ti32 rfl rfl (by first | exact obT rfl | exact Rd.imm ‹_› | exact slT ‹_›)) hS.rd ?_
    refine LW.ex rfl rfl rfl rfl (Ex.move rfl) hS.rd ?_
    refine LW.ex rfl rfl rfl rfl (Ex.indexSl Try.underlying32 ti87 rfl rfl rfl (by omega)) hS.rd ?_
    refine LW.ex rfl rfl rfl rfl (Ex.fieldO 0 Try.underlying87 rfl rfl ti3 rfl) hS.rd ?_
    refine LW.ex rfl rfl rfl rfl (Ex.load1 ti3 rfl rfl (by first | exact obT rfl | exact Rd.imm ‹_› | exact slT ‹_›)) hS.rd ?_
    refine LW.ex rfl rfl rfl rfl (Ex.move rfl) hS.rd ?_
    refine LW.ex rfl rfl rfl rfl (Ex.eql rfl rfl rfl) hS.rd ?_
    refine LW.splitB (fun h5_7 => ?_) (fun h5_7 => ?_)
    · have h5_7 := of_decide_eq_true h5_7
      refine LW.nil fun aa ha => hK22 _ _ _ ?_ aa ha
      refine CW.yes rfl ?_
      refine CW.region [0, 1, 2, 3, 4, 5, 6, 7, 8] rfl ?_
      refine LW.ex rfl rfl rfl rfl (Ex.move rfl) hS.rd ?_
      refine LW.ex rfl rfl rfl rfl (Ex.fieldO 2 Try.underlying34 rfl rfl ti32 rfl) hS.rd ?_
      refine LW.ex rfl rfl rfl rfl (Ex.load1 ti32 rfl rfl (by first | exact obT rfl | exact Rd.imm ‹_› | exact slT ‹_›)) hS.rd ?_
      refine LW.ex rfl rfl rfl rfl (Ex.move rfl) hS.rd ?_
      refine LW.ex rfl rfl rfl rfl (Ex.indexSl Try.underlying32 ti87 rfl rfl rfl (by omega)) hS.rd ?_
      refine LW.ex rfl rfl rfl rfl (Ex.fieldO 2 Try.underlying87 rfl rfl ti3 rfl) hS.rd ?_
      refine LW.ex rfl rfl rfl rfl (Ex.load1 ti3 rfl rfl (by first | exact obT rfl | exact Rd.imm ‹_› | exact slT ‹_›)) hS.rd ?_
      refine LW.ex rfl rfl rfl rfl (Ex.add rfl rfl (by first | exact inc64 (by omega) | exact addN (by omega) | exact w64 (by omega) (by omega))) hS.rd ?_
      refine LW.ex rfl rfl rfl rfl (Ex.assign rfl) hS.rd ?_
      refine LW.nil fun aa ha => hK21 _ _ _ ?_ aa ha
      refine CW.region [0, 1, 2] rfl ?_
      refine LW.ex rfl rfl rfl rfl (Ex.move rfl) hS.rd ?_
      refine LW.ex rfl rfl rfl rfl (Ex.add rfl rfl (by first | exact inc64 (by omega) | exact addN (by omega) | exact w64 (by omega) (by omega))) hS.rd ?_
      refine LW.ex rfl rfl rfl rfl (Ex.assign rfl) hS.rd ?_
      refine LW.nil fun aa ha => ?_
      refine ⟨_, _, ?m3, ⟨i + 1, s + m.Pairs[i].N, (by first | omega | (simp; done) | (simp; omega)), rfl, rfl, hS, by rw [sumN_take hi2, he, if_pos h5_7]⟩, ha.sub ⟨rfl, rfl, rfl, rfl, trivial⟩⟩
      case m3 => omega
    · have h5_7 := of_decide_eq_false h5_7
      refine LW.nil fun aa ha => hK22 _ _ _ ?_ aa ha
      refine CW.no rfl ?_
      refine CW.skip fun aa ha => hK21 _ _ _ ?_ aa ha
      refine CW.region [0, 1, 2] rfl ?_
      refine LW.ex rfl rfl rfl rfl (Ex.move rfl) hS.rd ?_
      refine LW.ex rfl rfl rfl rfl (Ex.add rfl rfl (by first | exact inc64 (by omega) | exact addN (by omega) | exact w64 (by omega) (by omega))) hS.rd ?_
      refine LW.ex rfl rfl rfl rfl (Ex.assign rfl) hS.rd ?_
      refine LW.nil fun aa ha => ?_
      refine ⟨_, _, ?m3, ⟨i + 1, s, (by first | omega | (simp; done) | (simp; omega)), rfl, rfl, hS, by rw [sumN_take hi2, he, if_neg h5_7]; omega⟩, ha.sub ⟨rfl, rfl, rfl, rfl, trivial⟩⟩
      case m3 => omega
  · have h3_4 := of_decide_eq_false h3_4
    refine LW.nil fun aa ha => hK20 _ _ _ ?_ aa ha
    refine CW.no rfl ?_
    refine CW.exit fun aa ha => hK17 _ _ _ ?_ aa ha
    refine CW.seq fun K23 hK23 => ?_
    refine CW.region [0, 1] rfl ?_
    refine LW.ex rfl rfl rfl rfl (Ex.move rfl) hS.rd ?_
    refine LW.ex rfl rfl rfl rfl (Ex.assign rfl) hS.rd ?_
    refine LW.nil fun aa ha => hK23 _ _ _ ?_ aa ha
    refine CW.ret fun aa ha => ?_
    refine ret_one ha Try.results58 rfl ?_
    exact hS.retE (by rw [he, show i = m.Pairs.length by omega, List.take_length])
set_option maxRecDepth 100000 in
theorem rpair_c (m : Mdl) (h : MdlOk m) (p v : Int) (hv0 : 0 ≤ v) (hv1 : v < m.Words.length) (a0 a1 a2 : Option Addr) (c0 c1 c2 : Nat) (μ : Mem) (w : World) (hμ : Imm μ w) (hm0 : Sl μ a0 c0 m.Words) (hm1 : Sl μ a1 c1 m.Counts) (hm2 : Sl μ a2 c2 m.Pairs) :
    Calls Try.prog 38 #[.agg #[.slice a0 m.Words.length c0, .slice a1 m.Counts.length c1, .slice a2 m.Pairs.length c2, .int .i64 m.Back], .int .i64 p, .int .i64 v] w (RetS w (.int .i64 (pairC m p v))) := by
  have hw := h.wordC0 v
  have hb0 := h.b0
  have hb1 := h.b1
  have hpl := h.pl
  have hsu := h.sum p
  have hsn := sumN_nonneg (fun q hq => by have := h.N1 hq; omega) p (l := m.Pairs)
  have hfind : (∃ i, ∃ hi : i < m.Pairs.length, findI m.Pairs p v = i ∧ m.Pairs.find? (fun q => decide (q.A = p ∧ q.B = v)) = some m.Pairs[i]) ∨ (findI m.Pairs p v = -1 ∧ m.Pairs.find? (fun q => decide (q.A = p ∧ q.B = v)) = none) := by
    by_cases hx : ∃ i, ∃ hi : i < m.Pairs.length, m.Pairs[i].A = p ∧ m.Pairs[i].B = v
    · left
      have hd : ∃ i, ∃ hi : i < m.Pairs.length, (m.Pairs[i].A = p ∧ m.Pairs[i].B = v) ∧ ∀ k (hk : k < m.Pairs.length), k < i → ¬ (m.Pairs[k].A = p ∧ m.Pairs[k].B = v) := by
        obtain ⟨i, hi, h0⟩ := hx
        induction i using Nat.strongRecOn with
        | _ i ih =>
          by_cases hs : ∃ k, k < i ∧ ∃ hk : k < m.Pairs.length, m.Pairs[k].A = p ∧ m.Pairs[k].B = v
          · obtain ⟨k, hki, hkl, hk0⟩ := hs
            exact ih k hki hkl hk0
          · exact ⟨i, hi, h0, fun k hk hki hc => hs ⟨k, hki, hk, hc⟩⟩
      obtain ⟨i, hi, h0, h1⟩ := hd
      exact ⟨i, hi, findI_at hi h0 h1⟩
    · right
      exact findI_no fun j hj hc => hx ⟨j, hj, hc⟩
  have hS := St.start w μ hμ
  refine calls_start 37 [.agg #[.slice a0 m.Words.length c0, .slice a1 m.Counts.length c1, .slice a2 m.Pairs.length c2, .int .i64 m.Back], .int .i64 p, .int .i64 v] Try.func38 rfl Try.ntmps38 rfl rfl ?_
  refine CW.seq fun K24 hK24 => ?_
  refine CW.region [0, 1] rfl ?_
  refine LW.hv rfl rfl rfl rfl (Hv.boxS hS rfl rfl) fun v w3 ⟨b3, hv, hb3, hS⟩ => ?_
  subst hv
  refine LW.ex rfl rfl rfl rfl (Ex.assign rfl) hS.rd ?_
  refine LW.nil fun aa ha => hK24 _ _ _ ?_ aa ha
  refine CW.seq fun K25 hK25 => ?_
  refine CW.seq fun K26 hK26 => ?_
  refine CW.region [0, 1] rfl ?_
  refine LW.ex rfl rfl rfl rfl (Ex.move rfl) hS.rd ?_
  refine LW.ex rfl rfl rfl rfl (Ex.lss rfl rfl rfl) hS.rd ?_
  refine LW.splitB (fun h1_1 => ?_) (fun h1_1 => ?_)
  · have h1_1 := of_decide_eq_true h1_1
    refine LW.nil fun aa ha => hK26 _ _ _ ?_ aa ha
    refine CW.yes rfl ?_
    refine CW.seq fun K27 hK27 => ?_
    refine CW.region [0, 1, 2, 3] rfl ?_
    refine LW.ex rfl rfl rfl rfl (Ex.load4c ti34 rfl rfl (by first | exact obT rfl | exact Rd.imm ‹_› | exact slT ‹_›) (by first | exact obT rfl | exact Rd.imm ‹_› | exact slT ‹_›) (by first | exact obT rfl | exact Rd.imm ‹_› | exact slT ‹_›) (by first | exact obT rfl | exact Rd.imm ‹_› | exact slT ‹_›)) hS.rd ?_
    refine LW.ex rfl rfl rfl rfl (Ex.move rfl) hS.rd ?_
    refine LW.hv rfl rfl rfl rfl (Hv.callS hS rfl rfl rfl cb22 (rword_c m h v hv0 hv1 _ _ _ _ _ _ μ _ hS.imm hm0 hm1 hm2)) fun v w12 ⟨hv, hS⟩ => ?_
    subst hv
    refine LW.ex rfl rfl rfl rfl (Ex.assign rfl) hS.rd ?_
    refine LW.nil fun aa ha => hK27 _ _ _ ?_ aa ha
    refine CW.ret fun aa ha => ?_
    refine ret_one ha Try.results38 rfl ?_
    exact hS.retE (by unfold pairC; rw [if_pos (by omega)])
  · have h1_1 := of_decide_eq_false h1_1
    refine LW.nil fun aa ha => hK26 _ _ _ ?_ aa ha
    refine CW.no rfl ?_
    refine CW.skip fun aa ha => hK25 _ _ _ ?_ aa ha
    refine CW.seq fun K28 hK28 => ?_
    refine CW.region [0, 1, 2, 3, 4] rfl ?_
    refine LW.ex rfl rfl rfl rfl (Ex.load4c ti34 rfl rfl (by first | exact obT rfl | exact Rd.imm ‹_› | exact slT ‹_›) (by first | exact obT rfl | exact Rd.imm ‹_› | exact slT ‹_›) (by first | exact obT rfl | exact Rd.imm ‹_› | exact slT ‹_›) (by first | exact obT rfl | exact Rd.imm ‹_› | exact slT ‹_›)) hS.rd ?_
    refine LW.ex rfl rfl rfl rfl (Ex.move rfl) hS.rd ?_
    refine LW.ex rfl rfl rfl rfl (Ex.move rfl) hS.rd ?_
    refine LW.hv rfl rfl rfl rfl (Hv.callS hS rfl rfl rfl cb60 (rfind_c m p v (by omega) _ _ _ _ _ _ μ _ hS.imm hm0 hm1 hm2)) fun v w16 ⟨hv, hS⟩ => ?_
    subst hv
    refine LW.ex rfl rfl rfl rfl (Ex.assign rfl) hS.rd ?_
    refine LW.nil fun aa ha => hK28 _ _ _ ?_ aa ha
    refine CW.seq fun K29 hK29 => ?_
    refine CW.seq fun K30 hK30 => ?_
    refine CW.region [0, 1] rfl ?_
    refine LW.ex rfl rfl rfl rfl (Ex.move rfl) hS.rd ?_
    refine LW.ex rfl rfl rfl rfl (Ex.lss rfl rfl rfl) hS.rd ?_
    refine LW.splitB (fun h4_1 => ?_) (fun h4_1 => ?_)
    · have h4_1 := of_decide_eq_true h4_1
      refine LW.nil fun aa ha => hK30 _ _ _ ?_ aa ha
      refine CW.yes rfl ?_
      refine CW.seq fun K31 hK31 => ?_
      have hf : m.Pairs.find? (fun q => decide (q.A = p ∧ q.B = v)) = none := by
        rcases hfind with ⟨i, hi, he, _⟩ | ⟨_, he⟩
        · omega
        · exact he
      have hS := hS.drew
      refine CW.draw 7 (.ex 0 <| .ex 1 <| .ex 2 <| .ex 3 <| .one 4 <| .ex 5 <| .ex 6 <| .done) [] (Rd _ _) mixed (by kernel_rfl) rfl rfl hS.rd ?_
      refine PW.ex rfl rfl rfl rfl (Ex.fieldO 3 Try.underlying34 rfl rfl ti3 rfl) ?_
      refine PW.ex rfl rfl rfl rfl (Ex.load1 ti3 rfl rfl (by first | exact obT rfl | exact Rd.imm ‹_› | exact slT ‹_›)) ?_
      refine PW.ex rfl rfl rfl rfl (Ex.load4c ti34 rfl rfl (by first | exact obT rfl | exact Rd.imm ‹_› | exact slT ‹_›) (by first | exact obT rfl | exact Rd.imm ‹_› | exact slT ‹_›) (by first | exact obT rfl | exact Rd.imm ‹_› | exact slT ‹_›) (by first | exact obT rfl | exact Rd.imm ‹_› | exact slT ‹_›)) ?_
      refine PW.ex rfl rfl rfl rfl (Ex.move rfl) ?_
      refine PW.hv rfl rfl rfl rfl (Hv.callS hS rfl rfl rfl cb22 (rword_c m h v hv0 hv1 _ _ _ _ _ _ μ _ hS.imm hm0 hm1 hm2)) (fun _ _ h => h.2.rd) fun v w23 ⟨hv, hS⟩ => ?_
      subst hv
      refine PW.ex rfl rfl rfl rfl (Ex.add rfl rfl (by first | exact inc64 (by omega) | exact addN (by omega) | exact w64 (by omega) (by omega))) ?_
      refine PW.ex rfl rfl rfl rfl (Ex.assign rfl) ?_
      refine PW.nil ?_
      refine LW.nil fun aa ha => hK31 _ _ _ ?_ aa ha
      refine CW.ret fun aa ha => ?_
      refine ret_one ha Try.results38 rfl ?_
      exact hS.retE (by unfold pairC; rw [if_neg (by omega), hf])
    · have h4_1 := of_decide_eq_false h4_1
      refine LW.nil fun aa ha => hK30 _ _ _ ?_ aa ha
      refine CW.no rfl ?_
      refine CW.skip fun aa ha => hK29 _ _ _ ?_ aa ha
      refine CW.seq fun K32 hK32 => ?_
      obtain ⟨i, hi, hfi, hf⟩ : ∃ i, ∃ hi : i < m.Pairs.length, findI m.Pairs p v = i ∧ m.Pairs.find? (fun q => decide (q.A = p ∧ q.B = v)) = some m.Pairs[i] := by
        rcases hfind with he | ⟨he, _⟩
        · exact he
        · omega
      have hN := h.N1 (List.getElem_mem hi)
      have hN2 := List.find?_some hf
      simp only [decide_eq_true_eq] at hN2
      obtain ⟨bl, ol, rfl, k0, k1, k2⟩ := hm2.at hi
      have hlm := logZ_mono (a := m.Pairs[i].N) (b := sumN m.Pairs p) (by rw [← hN2.1]; exact hN.2.1)
      have hlb := logZ_bound (n := sumN m.Pairs p) (by omega)
      have hlb2 := logZ_bound (n := m.Pairs[i].N) (by omega)
      rw [hfi]
      have hS := hS.drew
      refine CW.draw 13 (.ex 0 <| .ex 1 <| .ex 4 <| .ex 5 <| .ex 6 <| .ex 7 <| .ex 8 <| .ex 9 <| .one 2 <| .one 3 <| .one 10 <| .ex 11 <| .ex 12 <| .done) [] (Rd _ _) mixed (by kernel_rfl) rfl rfl hS.rd ?_
      refine PW.ex rfl rfl rfl rfl (Ex.load4c ti34 rfl rfl (by first | exact obT rfl | exact Rd.imm ‹_› | exact slT ‹_›) (by first | exact obT rfl | exact Rd.imm ‹_› | exact slT ‹_›) (by first | exact obT rfl | exact Rd.imm ‹_› | exact slT ‹_›) (by first | exact obT rfl | exact Rd.imm ‹_› | exact slT ‹_›)) ?_
      refine PW.ex rfl rfl rfl rfl (Ex.move rfl) ?_
      refine PW.ex rfl rfl rfl rfl (Ex.fieldO 2 Try.underlying34 rfl rfl ti32 rfl) ?_
      refine PW.ex rfl rfl rfl rfl (Ex.load1 ti32 rfl rfl (by first | exact obT rfl | exact Rd.imm ‹_› | exact slT ‹_›)) ?_
      refine PW.ex rfl rfl rfl rfl (Ex.move rfl) ?_
      refine PW.ex rfl rfl rfl rfl (Ex.indexSl Try.underlying32 ti87 rfl rfl rfl (by omega)) ?_
      refine PW.ex rfl rfl rfl rfl (Ex.fieldO 2 Try.underlying87 rfl rfl ti3 rfl) ?_
      refine PW.ex rfl rfl rfl rfl (Ex.load1 ti3 rfl rfl (by first | exact obT rfl | exact Rd.imm ‹_› | exact slT ‹_›)) ?_
      refine PW.hv rfl rfl rfl rfl (Hv.callS hS rfl rfl rfl cb58 (rsum_c m p h.nSmall _ _ _ _ _ _ μ _ hS.imm hm0 hm1 hm2)) (fun _ _ h => h.2.rd) fun v w27 ⟨hv, hS⟩ => ?_
      subst hv
      refine PW.hv rfl rfl rfl rfl (Hv.callS hS rfl rfl rfl cb44 (reflog_c _ (by omega) _)) (fun _ _ h => h.2.rd) fun v w28 ⟨hv, hS⟩ => ?_
      subst hv
      refine PW.hv rfl rfl rfl rfl (Hv.callS hS rfl rfl rfl cb44 (reflog_c _ (by omega) _)) (fun _ _ h => h.2.rd) fun v w35 ⟨hv, hS⟩ => ?_
      subst hv
      refine PW.ex rfl rfl rfl rfl (Ex.sub rfl rfl (w64 (by omega) (by omega))) ?_
      refine PW.ex rfl rfl rfl rfl (Ex.assign rfl) ?_
      refine PW.nil ?_
      refine LW.nil fun aa ha => hK32 _ _ _ ?_ aa ha
      refine CW.ret fun aa ha => ?_
      refine ret_one ha Try.results38 rfl ?_
      exact hS.retE (by unfold pairC; rw [if_neg (by omega), hf])
end Go.Proofs.Ytgnpjhellmfhoaa

