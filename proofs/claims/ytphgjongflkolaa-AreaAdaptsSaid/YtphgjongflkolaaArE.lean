/-
  Areas: the walks of find, Shift and cost.
-/
import Derived.Test.YtphgjongflkolaaArD
namespace Go.Proofs.Ytphgjongflkolaa
open Go.RowKit Sy

theorem find_c (l : List Tap) (k : UInt8) (ad : Option Addr) (c : Nat) (μ : Mem) (w : World) (hμ : Imm μ w) (hl : Sl μ ad c l) (hr : Rising l) (hll : l.length ≤ 1000) :
    Calls Try.prog 44 #[.slice ad l.length c, .int .u8 k.toNat] w (RetS w (.tuple #[.int .i64 (posOf l k), .bool (hitAt l k (posOf l k))])) := by
  have hS := St.start w μ hμ
  refine calls_start 11 [.slice ad l.length c, .int .u8 k.toNat] Try.func44 rfl Try.ntmps44 rfl rfl ?_
  refine CW.seq fun K0 hK0 => ?_
  refine CW.region [0, 1] rfl ?_
  refine LW.ex rfl rfl rfl rfl (Ex.assign rfl) hS.rd ?_
  refine LW.ex rfl rfl rfl rfl (Ex.assign rfl) hS.rd ?_
  refine LW.nil fun aa ha => hK0 _ _ _ ?_ aa ha
  refine CW.seq fun K1 hK1 => ?_
  refine CW.region [0, 1, 2, 3, 4, 5, 6] rfl ?_
  refine LW.ex rfl rfl rfl rfl (Ex.move rfl) hS.rd ?_
  refine LW.ex rfl rfl rfl rfl (Ex.move rfl) hS.rd ?_
  refine LW.hv rfl rfl rfl rfl (Hv.callS hS rfl rfl rfl cb67 (search_c l k _ _ μ _ hS.imm hl hr hll)) fun v w8 ⟨hv, hS⟩ => ?_
  subst hv
  refine LW.ex rfl rfl rfl rfl (Ex.extract rfl rfl) hS.rd ?_
  refine LW.ex rfl rfl rfl rfl (Ex.extract rfl rfl) hS.rd ?_
  refine LW.ex rfl rfl rfl rfl (Ex.assign rfl) hS.rd ?_
  refine LW.ex rfl rfl rfl rfl (Ex.assign rfl) hS.rd ?_
  refine LW.nil fun aa ha => hK1 _ _ _ ?_ aa ha
  refine CW.ret fun aa ha => ?_
  exact ret_two ha Try.results44 rfl rfl hS.retS

theorem pos_le (l : List Tap) (k : UInt8) : posOf l k ≤ l.length := List.countP_le_length
theorem hit_get {l : List Tap} {k : UInt8} {i : Nat} (h : hitAt l k i = true) : ∃ hi : i < l.length, l[i].Key = k := by
  unfold hitAt at h
  by_cases hi : i < l.length
  · rw [List.getElem?_eq_getElem hi] at h; exact ⟨hi, by simpa using h⟩
  · rw [List.getElem?_eq_none (by omega)] at h; cases h
/-- area.Shift -/
def shiftM (l : List Tap) (k : UInt8) : Pt := match l[posOf l k]? with
  | some t => if t.Key = k ∧ 4 ≤ t.N then shiftT t else ⟨0, 0⟩
  | none => ⟨0, 0⟩

theorem shift_c (l : List Tap) (key : UInt8) (ad : Option Addr) (c : Nat) (μ : Mem) (w : World) (hμ : Imm μ w) (hl : Sl μ ad c l) (hb : ∀ t ∈ l, TapB t) (hr : Rising l) (hll : l.length ≤ 1000) :
    Calls Try.prog 21 #[.slice ad l.length c, .int .u8 key.toNat] w (RetS w (ptV (shiftM l key))) := by
  have hS := St.start w μ hμ
  refine calls_start 47 [.slice ad l.length c, .int .u8 key.toNat] Try.func21 rfl Try.ntmps21 rfl rfl ?_
  refine CW.seq fun K0 hK0 => ?_
  refine CW.region [0] rfl ?_
  refine LW.hv rfl rfl rfl rfl (Hv.alloc ti36 hS) fun v w4 ⟨b4, hv, hb4, hS⟩ => ?_
  subst hv
  refine LW.nil fun aa ha => hK0 _ _ _ ?_ aa ha
  refine CW.seq fun K1 hK1 => ?_
  refine CW.region [0, 1, 2, 3, 4, 5, 6, 7] rfl ?_
  refine LW.ex rfl rfl rfl rfl (Ex.move rfl) hS.rd ?_
  refine LW.ex rfl rfl rfl rfl (Ex.move rfl) hS.rd ?_
  refine LW.hv rfl rfl rfl rfl (Hv.callS hS rfl rfl rfl cb44 (find_c l key _ _ μ _ hS.imm hl hr hll)) fun v w10 ⟨hv, hS⟩ => ?_
  subst hv
  refine LW.ex rfl rfl rfl rfl (Ex.move rfl) hS.rd ?_
  refine LW.ex rfl rfl rfl rfl (Ex.extract rfl rfl) hS.rd ?_
  refine LW.ex rfl rfl rfl rfl (Ex.extract rfl rfl) hS.rd ?_
  refine LW.ex rfl rfl rfl rfl (Ex.assign rfl) hS.rd ?_
  refine LW.ex rfl rfl rfl rfl (Ex.assign rfl) hS.rd ?_
  refine LW.nil fun aa ha => hK1 _ _ _ ?_ aa ha
  cases hh : hitAt l key (posOf l key) with
  | false =>
    refine CW.seq fun K2o hK2o => ?_
    refine CW.seq fun K2 hK2 => ?_
    refine CW.region [0, 1, 2, 3, 4, 5, 6, 7, 8, 9] rfl ?_
    refine LW.ex rfl rfl rfl rfl (Ex.move rfl) hS.rd ?_
    refine LW.ex rfl rfl rfl rfl (Ex.not rfl rfl) hS.rd ?_
    refine LW.ex rfl rfl rfl rfl (Ex.move rfl) hS.rd ?_
    refine LW.skip rfl rfl rfl rfl ?_
    refine LW.skip rfl rfl rfl rfl ?_
    refine LW.skip rfl rfl rfl rfl ?_
    refine LW.skip rfl rfl rfl rfl ?_
    refine LW.skip rfl rfl rfl rfl ?_
    refine LW.skip rfl rfl rfl rfl ?_
    refine LW.ex rfl rfl rfl rfl (by first | exact Ex.pick_yes rfl rfl | exact Ex.pick_no rfl rfl) hS.rd ?_
    refine LW.nil fun aa ha => hK2 _ _ _ ?_ aa ha
    refine CW.yes rfl ?_
    refine CW.seq fun K3 hK3 => ?_
    refine CW.region [0, 1] rfl ?_
    refine LW.ex rfl rfl rfl rfl (Ex.buildS st36 rfl rfl rfl) hS.rd ?_
    refine LW.hu rfl rfl rfl (Hv.storeN (k := 0) ti36 hS rfl rfl rfl rfl (by simp [Value.oneCell'])) fun _ w_1 hS => ?_
    dsimp only [List.set] at hS
    refine LW.nil fun aa ha => hK3 _ _ _ ?_ aa ha
    refine CW.ret fun aa ha => ?_
    refine ret_cell ha Try.results21 rfl ti36 rfl (fun j v hv => Rd.objAll (k := 0) rfl hS.rd j v hv) ?_
    rw [show shiftM l key = ⟨0, 0⟩ by unfold shiftM; unfold hitAt at hh; split at hh <;> simp_all]; exact hS.retS
  | true =>
    obtain ⟨hi, hk⟩ := hit_get hh
    obtain ⟨bl, ol, rfl, hkc, hx, hy, hn⟩ := hl.at hi
    obtain ⟨⟨x1, x2⟩, ⟨y1, y2⟩, ⟨n1, n2⟩⟩ := hb _ (List.getElem_mem hi)
    have hpl := pos_le l key
    by_cases h4 : l[posOf l key].N < 4
    · skip
      refine CW.seq fun K2o hK2o => ?_
      refine CW.seq fun K2 hK2 => ?_
      refine CW.region [0, 1, 2, 3, 4, 5, 6, 7, 8, 9] rfl ?_
      refine LW.ex rfl rfl rfl rfl (Ex.move rfl) hS.rd ?_
      refine LW.ex rfl rfl rfl rfl (Ex.not rfl rfl) hS.rd ?_
      refine LW.ex rfl rfl rfl rfl (Ex.move rfl) hS.rd ?_
      refine LW.ex rfl rfl rfl rfl (Ex.move rfl) hS.rd ?_
      refine LW.ex rfl rfl rfl rfl (Ex.move rfl) hS.rd ?_
      refine LW.ex rfl rfl rfl rfl (Ex.indexSl Try.underlying33 ti82 rfl rfl rfl (by omega)) hS.rd ?_
      refine LW.ex rfl rfl rfl rfl (Ex.fieldA Try.underlying82 rfl ti3 rfl) hS.rd ?_
      refine LW.ex rfl rfl rfl rfl (Ex.load1 ti3 rfl rfl (by first | exact Rd.obj (k := 0) rfl rfl | exact Rd.obj (k := 1) rfl rfl | exact Rd.obj (k := 2) rfl rfl | exact Rd.obj (k := 3) rfl rfl | exact Rd.obj (k := 4) rfl rfl | exact Rd.imm (by assumption) | exact Rd.sl (k := 0) rfl (by assumption) | exact Rd.sl (k := 1) rfl (by assumption) | exact Rd.sl (k := 2) rfl (by assumption) | exact Rd.sl (k := 3) rfl (by assumption))) hS.rd ?_
      refine LW.ex rfl rfl rfl rfl (Ex.lss rfl rfl (by first | exact decide_eq_true (by omega) | exact decide_eq_false (by omega) | rfl)) hS.rd ?_
      refine LW.ex rfl rfl rfl rfl (by first | exact Ex.pick_yes rfl rfl | exact Ex.pick_no rfl rfl) hS.rd ?_
      refine LW.nil fun aa ha => hK2 _ _ _ ?_ aa ha
      refine CW.yes rfl ?_
      refine CW.seq fun K3 hK3 => ?_
      refine CW.region [0, 1] rfl ?_
      refine LW.ex rfl rfl rfl rfl (Ex.buildS st36 rfl rfl rfl) hS.rd ?_
      refine LW.hu rfl rfl rfl (Hv.storeN (k := 0) ti36 hS rfl rfl rfl rfl (by simp [Value.oneCell'])) fun _ w_1 hS => ?_
      dsimp only [List.set] at hS
      refine LW.nil fun aa ha => hK3 _ _ _ ?_ aa ha
      refine CW.ret fun aa ha => ?_
      refine ret_cell ha Try.results21 rfl ti36 rfl (fun j v hv => Rd.objAll (k := 0) rfl hS.rd j v hv) ?_
      rw [show shiftM l key = ⟨0, 0⟩ by unfold shiftM; rw [List.getElem?_eq_getElem hi]; simp only; rw [if_neg (fun h => by omega)]]; exact hS.retS
    · skip
      refine CW.seq fun K2o hK2o => ?_
      refine CW.seq fun K2 hK2 => ?_
      refine CW.region [0, 1, 2, 3, 4, 5, 6, 7, 8, 9] rfl ?_
      refine LW.ex rfl rfl rfl rfl (Ex.move rfl) hS.rd ?_
      refine LW.ex rfl rfl rfl rfl (Ex.not rfl rfl) hS.rd ?_
      refine LW.ex rfl rfl rfl rfl (Ex.move rfl) hS.rd ?_
      refine LW.ex rfl rfl rfl rfl (Ex.move rfl) hS.rd ?_
      refine LW.ex rfl rfl rfl rfl (Ex.move rfl) hS.rd ?_
      refine LW.ex rfl rfl rfl rfl (Ex.indexSl Try.underlying33 ti82 rfl rfl rfl (by omega)) hS.rd ?_
      refine LW.ex rfl rfl rfl rfl (Ex.fieldA Try.underlying82 rfl ti3 rfl) hS.rd ?_
      refine LW.ex rfl rfl rfl rfl (Ex.load1 ti3 rfl rfl (by first | exact Rd.obj (k := 0) rfl rfl | exact Rd.obj (k := 1) rfl rfl | exact Rd.obj (k := 2) rfl rfl | exact Rd.obj (k := 3) rfl rfl | exact Rd.obj (k := 4) rfl rfl | exact Rd.imm (by assumption) | exact Rd.sl (k := 0) rfl (by assumption) | exact Rd.sl (k := 1) rfl (by assumption) | exact Rd.sl (k := 2) rfl (by assumption) | exact Rd.sl (k := 3) rfl (by assumption))) hS.rd ?_
      refine LW.ex rfl rfl rfl rfl (Ex.lss rfl rfl (by first | exact decide_eq_true (by omega) | exact decide_eq_false (by omega) | rfl)) hS.rd ?_
      refine LW.ex rfl rfl rfl rfl (by first | exact Ex.pick_yes rfl rfl | exact Ex.pick_no rfl rfl) hS.rd ?_
      refine LW.nil fun aa ha => hK2 _ _ _ ?_ aa ha
      refine CW.no rfl (CW.skip fun aa ha => hK2o _ _ _ ?_ aa ha)
      refine CW.seq fun K4 hK4 => ?_
      have hS := hS.drew
      refine CW.draw 23 (.ex 0 <| .ex 1 <| .ex 2 <| .ex 3 <| .ex 4 <| .ex 5 <| .ex 6 <| .ex 7 <| .ex 8 <| .ex 9 <| .ex 10 <| .ex 11 <| .ex 12 <| .ex 13 <| .ex 14 <| .ex 15 <| .ex 16 <| .ex 17 <| .ex 18 <| .ex 19 <| .ex 20 <| .ex 21 <| .ex 22 <| .done) [23] (Rd _ _) mixed (by kernel_rfl) rfl rfl hS.rd ?_
      refine PW.ex rfl rfl rfl rfl (Ex.move rfl) ?_
      refine PW.ex rfl rfl rfl rfl (Ex.move rfl) ?_
      refine PW.ex rfl rfl rfl rfl (Ex.indexSl Try.underlying33 ti82 rfl rfl rfl (by omega)) ?_
      refine PW.ex rfl rfl rfl rfl (Ex.fieldA Try.underlying82 rfl ti3 rfl) ?_
      refine PW.ex rfl rfl rfl rfl (Ex.load1 ti3 rfl rfl (by first | exact Rd.obj (k := 0) rfl rfl | exact Rd.obj (k := 1) rfl rfl | exact Rd.obj (k := 2) rfl rfl | exact Rd.obj (k := 3) rfl rfl | exact Rd.obj (k := 4) rfl rfl | exact Rd.imm (by assumption) | exact Rd.sl (k := 0) rfl (by assumption) | exact Rd.sl (k := 1) rfl (by assumption) | exact Rd.sl (k := 2) rfl (by assumption) | exact Rd.sl (k := 3) rfl (by assumption))) ?_
      refine PW.ex rfl rfl rfl rfl (Ex.move rfl) ?_
      refine PW.ex rfl rfl rfl rfl (Ex.move rfl) ?_
      refine PW.ex rfl rfl rfl rfl (Ex.indexSl Try.underlying33 ti82 rfl rfl rfl (by omega)) ?_
      refine PW.ex rfl rfl rfl rfl (Ex.fieldA Try.underlying82 rfl ti3 rfl) ?_
      refine PW.ex rfl rfl rfl rfl (Ex.load1 ti3 rfl rfl (by first | exact Rd.obj (k := 0) rfl rfl | exact Rd.obj (k := 1) rfl rfl | exact Rd.obj (k := 2) rfl rfl | exact Rd.obj (k := 3) rfl rfl | exact Rd.obj (k := 4) rfl rfl | exact Rd.imm (by assumption) | exact Rd.sl (k := 0) rfl (by assumption) | exact Rd.sl (k := 1) rfl (by assumption) | exact Rd.sl (k := 2) rfl (by assumption) | exact Rd.sl (k := 3) rfl (by assumption))) ?_
      refine PW.ex rfl rfl rfl rfl (Ex.quo rfl rfl (by omega) (quo_in ⟨by omega, by omega⟩)) ?_
      refine PW.ex rfl rfl rfl rfl (Ex.move rfl) ?_
      refine PW.ex rfl rfl rfl rfl (Ex.move rfl) ?_
      refine PW.ex rfl rfl rfl rfl (Ex.indexSl Try.underlying33 ti82 rfl rfl rfl (by omega)) ?_
      refine PW.ex rfl rfl rfl rfl (Ex.fieldA Try.underlying82 rfl ti3 rfl) ?_
      refine PW.ex rfl rfl rfl rfl (Ex.load1 ti3 rfl rfl (by first | exact Rd.obj (k := 0) rfl rfl | exact Rd.obj (k := 1) rfl rfl | exact Rd.obj (k := 2) rfl rfl | exact Rd.obj (k := 3) rfl rfl | exact Rd.obj (k := 4) rfl rfl | exact Rd.imm (by assumption) | exact Rd.sl (k := 0) rfl (by assumption) | exact Rd.sl (k := 1) rfl (by assumption) | exact Rd.sl (k := 2) rfl (by assumption) | exact Rd.sl (k := 3) rfl (by assumption))) ?_
      refine PW.ex rfl rfl rfl rfl (Ex.move rfl) ?_
      refine PW.ex rfl rfl rfl rfl (Ex.move rfl) ?_
      refine PW.ex rfl rfl rfl rfl (Ex.indexSl Try.underlying33 ti82 rfl rfl rfl (by omega)) ?_
      refine PW.ex rfl rfl rfl rfl (Ex.fieldA Try.underlying82 rfl ti3 rfl) ?_
      refine PW.ex rfl rfl rfl rfl (Ex.load1 ti3 rfl rfl (by first | exact Rd.obj (k := 0) rfl rfl | exact Rd.obj (k := 1) rfl rfl | exact Rd.obj (k := 2) rfl rfl | exact Rd.obj (k := 3) rfl rfl | exact Rd.obj (k := 4) rfl rfl | exact Rd.imm (by assumption) | exact Rd.sl (k := 0) rfl (by assumption) | exact Rd.sl (k := 1) rfl (by assumption) | exact Rd.sl (k := 2) rfl (by assumption) | exact Rd.sl (k := 3) rfl (by assumption))) ?_
      refine PW.ex rfl rfl rfl rfl (Ex.quo rfl rfl (by omega) (quo_in ⟨by omega, by omega⟩)) ?_
      refine PW.ex rfl rfl rfl rfl (Ex.buildS st36 rfl rfl rfl) ?_
      refine PW.nil ?_
      refine LW.hu rfl rfl rfl (Hv.storeN (k := 0) ti36 hS rfl rfl rfl rfl (by simp [Value.oneCell'])) fun _ w_23 hS => ?_
      dsimp only [List.set] at hS
      refine LW.nil fun aa ha => hK4 _ _ _ ?_ aa ha
      refine CW.ret fun aa ha => ?_
      refine ret_cell ha Try.results21 rfl ti36 rfl (fun j v hv => Rd.objAll (k := 0) rfl hS.rd j v hv) ?_
      rw [show shiftM l key = shiftT l[posOf l key] by unfold shiftM; rw [List.getElem?_eq_getElem hi]; simp only; rw [if_pos ⟨hk, by omega⟩]]; exact hS.retS

theorem pos_hit {l : List Tap} {k : UInt8} (hr : Rising l) {i : Nat} (hi : i < l.length) (hk : l[i].Key = k) : posOf l k = i := by
  refine pos_of (by omega) (fun j h hj => ?_) (fun j h hj => ?_)
  · have := List.pairwise_iff_getElem.1 hr j i h hi hj; rw [hk] at this; exact this
  · by_cases e : j = i
    · subst e; rw [hk]; exact Nat.le_refl _
    · have := List.pairwise_iff_getElem.1 hr i j hi h (by omega); rw [hk] at this; omega
theorem shift_same {l : List Tap} (hr : Rising l) (key : UInt8) : shiftM l key = shiftOf l key := by
  unfold shiftOf
  cases h : l.find? (tapHit key) with
  | some t =>
    have ht := List.mem_of_find?_eq_some h
    have hp := List.find?_some h
    simp only [tapHit, Bool.and_eq_true, decide_eq_true_eq] at hp
    obtain ⟨i, hi, rfl⟩ := List.getElem_of_mem ht
    unfold shiftM
    rw [pos_hit hr hi hp.1, List.getElem?_eq_getElem hi]
    simp only; rw [if_pos hp]
  | none =>
    unfold shiftM
    cases hg : l[posOf l key]? with
    | none => rfl
    | some t =>
      have hn := List.find?_eq_none.1 h t (List.mem_of_getElem? hg)
      simp only
      rw [if_neg fun hc => hn (by simp [tapHit, hc.1, hc.2])]
theorem shiftR_c (l : List Tap) (key : UInt8) (ad : Option Addr) (c : Nat) (μ : Mem) (w : World) (hμ : Imm μ w) (hl : Sl μ ad c l) (hb : ∀ t ∈ l, TapB t) (hr : Rising l) (hll : l.length ≤ 1000) :
    Calls Try.prog 21 #[.slice ad l.length c, .int .u8 key.toNat] w (RetS w (ptV (shiftOf l key))) := by
  have h := shift_c l key ad c μ w hμ hl hb hr hll
  rw [shift_same hr] at h; exact h
end Go.Proofs.Ytphgjongflkolaa
