/-
  Areas: the walks of the reference's Shift and Cost.
-/
import Derived.Test.YtphgjongflkolaaArB
namespace Go.Proofs.Ytphgjongflkolaa
open Go.RowKit Sy

structure TapB (t : Tap) : Prop where
  dx : -100000 ≤ t.DX ∧ t.DX ≤ 100000
  dy : -100000 ≤ t.DY ∧ t.DY ≤ 100000
  n : 1 ≤ t.N ∧ t.N ≤ 1000
def tapHit (key : UInt8) (t : Tap) : Bool := decide (t.Key = key) && decide (4 ≤ t.N)
def shiftT (t : Tap) : Pt := ⟨t.DX.tdiv t.N, t.DY.tdiv t.N⟩
/-- syllabaryref21.Shift -/
def shiftOf (taps : List Tap) (key : UInt8) : Pt := match taps.find? (tapHit key) with
  | some t => shiftT t
  | none => ⟨0, 0⟩

theorem refshift_c (l : List Tap) (key : UInt8) (ad : Option Addr) (c : Nat) (μ : Mem) (w : World) (hμ : Imm μ w) (hl : Sl μ ad c l) (hb : ∀ t ∈ l, TapB t) :
    Calls Try.prog 22 #[.slice ad l.length c, .int .u8 key.toNat] w (RetS w (ptV (shiftOf l key))) := by
  have hS := St.start w μ hμ
  have hlc : l.length ≤ 9223372036854775807 := by have := hl.1; have := hl.2.1; simp only [maxLen] at this; omega
  refine calls_start 51 [.slice ad l.length c, .int .u8 key.toNat] Try.func22 rfl Try.ntmps22 rfl rfl ?_
  refine CW.seq fun K0 hK0 => ?_
  refine CW.region [0] rfl ?_
  refine LW.hv rfl rfl rfl rfl (Hv.alloc ti36 hS) fun v w4 ⟨b4, hv, hb4, hS⟩ => ?_
  subst hv
  refine LW.nil fun aa ha => hK0 _ _ _ ?_ aa ha
  refine CW.seq fun K1o hK1o => ?_
  refine CW.seq fun K1 hK1 => ?_
  refine CW.region [0] rfl ?_
  refine LW.ex rfl rfl rfl rfl (Ex.assign rfl) hS.rd ?_
  refine LW.nil fun aa ha => hK1 _ _ _ ?_ aa ha
  refine CW.block ?_
  refine CW.loop (fun q m w1 => ∃ (i : Nat), i ≤ l.length ∧ q = l.length - i ∧ m = [(0, .slice ad l.length c), (1, .int .u8 key.toNat), (4, .pointer (some ⟨b4, 0, none⟩)), (5, .int .i64 i)] ∧
      St w w1 μ [Own.obj b4 [.int .i64 0, .int .i64 0] 36] ∧ shiftOf l key = shiftOf (l.drop i) key) l.length
    ⟨0, by omega, by omega, rfl, hS, rfl⟩ ⟨rfl, rfl, rfl, rfl, trivial⟩ ?_
  clear hS
  rintro q m w1 ⟨i, hi, hq, rfl, hS, he⟩
  by_cases h1 : i < l.length
  · skip
    refine CW.seq fun K2o hK2o => ?_
    refine CW.seq fun K2 hK2 => ?_
    refine CW.region [0, 1, 2, 3] rfl ?_
    refine LW.ex rfl rfl rfl rfl (Ex.move rfl) hS.rd ?_
    refine LW.ex rfl rfl rfl rfl (Ex.move rfl) hS.rd ?_
    refine LW.ex rfl rfl rfl rfl (Ex.lenSl rfl Try.underlying33 rfl) hS.rd ?_
    refine LW.ex rfl rfl rfl rfl (Ex.lss rfl rfl (by first | exact decide_eq_true (by omega) | exact decide_eq_false (by omega) | rfl)) hS.rd ?_
    refine LW.nil fun aa ha => hK2 _ _ _ ?_ aa ha
    refine CW.yes rfl ?_
    refine CW.skip fun aa ha => hK2o _ _ _ ?_ aa ha
    obtain ⟨bl, ol, rfl, hk, hx, hy, hn⟩ := hl.at h1
    obtain ⟨⟨x1, x2⟩, ⟨y1, y2⟩, ⟨n1, n2⟩⟩ := hb _ (List.getElem_mem h1)
    rw [List.drop_eq_getElem_cons h1] at he
    refine CW.seq fun Kb hKb => ?_
    refine CW.block ?_
    by_cases hke : l[i].Key = key
    · have hke' : (l[i].Key.toNat : Int) = key.toNat := by rw [hke]
      by_cases h4 : 4 ≤ l[i].N
      · skip
        refine CW.seq fun K4 hK4 => ?_
        refine CW.region [0, 1, 2, 3, 4, 5, 6, 7, 8, 9, 10, 11, 12, 13, 14] rfl ?_
        refine LW.ex rfl rfl rfl rfl (Ex.move rfl) hS.rd ?_
        refine LW.ex rfl rfl rfl rfl (Ex.move rfl) hS.rd ?_
        refine LW.ex rfl rfl rfl rfl (Ex.indexSl Try.underlying33 ti82 rfl rfl rfl (by omega)) hS.rd ?_
        refine LW.ex rfl rfl rfl rfl (Ex.fieldA Try.underlying82 rfl ti5 rfl) hS.rd ?_
        refine LW.ex rfl rfl rfl rfl (Ex.load1 ti5 rfl rfl (by first | exact Rd.obj (k := 0) rfl rfl | exact Rd.obj (k := 1) rfl rfl | exact Rd.obj (k := 2) rfl rfl | exact Rd.obj (k := 3) rfl rfl | exact Rd.obj (k := 4) rfl rfl | exact Rd.imm (by assumption) | exact Rd.sl (k := 0) rfl (by assumption) | exact Rd.sl (k := 1) rfl (by assumption) | exact Rd.sl (k := 2) rfl (by assumption) | exact Rd.sl (k := 3) rfl (by assumption))) hS.rd ?_
        refine LW.ex rfl rfl rfl rfl (Ex.move rfl) hS.rd ?_
        refine LW.ex rfl rfl rfl rfl (Ex.eql rfl rfl (by first | exact decide_eq_true (by omega) | exact decide_eq_false (by omega) | rfl)) hS.rd ?_
        refine LW.ex rfl rfl rfl rfl (Ex.move rfl) hS.rd ?_
        refine LW.ex rfl rfl rfl rfl (Ex.move rfl) hS.rd ?_
        refine LW.ex rfl rfl rfl rfl (Ex.move rfl) hS.rd ?_
        refine LW.ex rfl rfl rfl rfl (Ex.indexSl Try.underlying33 ti82 rfl rfl rfl (by omega)) hS.rd ?_
        refine LW.ex rfl rfl rfl rfl (Ex.fieldA Try.underlying82 rfl ti3 rfl) hS.rd ?_
        refine LW.ex rfl rfl rfl rfl (Ex.load1 ti3 rfl rfl (by first | exact Rd.obj (k := 0) rfl rfl | exact Rd.obj (k := 1) rfl rfl | exact Rd.obj (k := 2) rfl rfl | exact Rd.obj (k := 3) rfl rfl | exact Rd.obj (k := 4) rfl rfl | exact Rd.imm (by assumption) | exact Rd.sl (k := 0) rfl (by assumption) | exact Rd.sl (k := 1) rfl (by assumption) | exact Rd.sl (k := 2) rfl (by assumption) | exact Rd.sl (k := 3) rfl (by assumption))) hS.rd ?_
        refine LW.ex rfl rfl rfl rfl (Ex.geq rfl rfl (by first | exact decide_eq_true (by omega) | exact decide_eq_false (by omega) | rfl)) hS.rd ?_
        refine LW.ex rfl rfl rfl rfl (by first | exact Ex.pick_yes rfl rfl | exact Ex.pick_no rfl rfl) hS.rd ?_
        refine LW.nil fun aa ha => hK4 _ _ _ ?_ aa ha
        refine CW.yes rfl ?_
        refine CW.seq fun K5 hK5 => ?_
        have hS := hS.drew
        refine CW.draw 23 (.ex 0 <| .ex 1 <| .ex 2 <| .ex 3 <| .ex 4 <| .ex 5 <| .ex 6 <| .ex 7 <| .ex 8 <| .ex 9 <| .ex 10 <| .ex 11 <| .ex 12 <| .ex 13 <| .ex 14 <| .ex 15 <| .ex 16 <| .ex 17 <| .ex 18 <| .ex 19 <| .ex 20 <| .ex 21 <| .ex 22 <| .done) [23] (Rd _ _) mixed (by kernel_rfl) rfl rfl hS.rd ?_
        refine PW.ex rfl rfl rfl rfl (Ex.move rfl) ?_
        refine PW.ex rfl rfl rfl rfl (Ex.move rfl) ?_
        refine PW.ex rfl rfl rfl rfl (Ex.indexSl Try.underlying33 ti82 rfl rfl rfl (by omega)) ?_
        refine PW.ex rfl rfl rfl rfl (Ex.fieldA Try.underlying82 rfl ti3 rfl) ?_
        refine PW.ex rfl rfl rfl rfl (Ex.load1 ti3 rfl rfl (by first | exact Rd.obj (k := 0) rfl rfl | exact Rd.obj (k := 1) rfl rfl | exact Rd.obj (k := 2) rfl rfl | exact Rd.obj (k := 3) rfl rfl | exact Rd.obj (k := 4) rfl rfl | exact Rd.imm (by assumption) | exact Rd.sl (k := 0) rfl (by assumption) | exact Rd.sl (k := 1) rfl (by assumption) | exact Rd.sl (k := 2) rfl (by assumption) | exact Rd.sl (k := 3) rfl (by assumption))) ?_
        refine PW.ex rfl rfl rfl rfl (Ex.move rfl) ?_
        refine PW.ex rfl rfl rfl rfl (Ex.move rfl) ?_
        refine PW.ex rfl rfl rfl rfl (Ex.indexSl Try.underlying33 ti82 rfl rfl rfl (by omega)) ?_
        refine PW.ex rfl rfl rfl rfl (Ex.fieldA Try.underlying82 rfl ti3 rfl) ?_
        refine PW.ex rfl rfl rfl rfl (Ex.load1 ti3 rfl rfl (by first | exact Rd.obj (k := 0) rfl rfl | exact Rd.obj (k := 1) rfl rfl | exact Rd.obj (k := 2) rfl rfl | exact Rd.obj (k := 3) rfl rfl | exact Rd.obj (k := 4) rfl rfl | exact Rd.imm (by assumption) | exact Rd.sl (k := 0) rfl (by assumption) | exact Rd.sl (k := 1) rfl (by assumption) | exact Rd.sl (k := 2) rfl (by assumption) | exact Rd.sl (k := 3) rfl (by assumption))) ?_
        refine PW.ex rfl rfl rfl rfl (Ex.quo rfl rfl (by omega) (quo_in ⟨by omega, by omega⟩)) ?_
        refine PW.ex rfl rfl rfl rfl (Ex.move rfl) ?_
        refine PW.ex rfl rfl rfl rfl (Ex.move rfl) ?_
        refine PW.ex rfl rfl rfl rfl (Ex.indexSl Try.underlying33 ti82 rfl rfl rfl (by omega)) ?_
        refine PW.ex rfl rfl rfl rfl (Ex.fieldA Try.underlying82 rfl ti3 rfl) ?_
        refine PW.ex rfl rfl rfl rfl (Ex.load1 ti3 rfl rfl (by first | exact Rd.obj (k := 0) rfl rfl | exact Rd.obj (k := 1) rfl rfl | exact Rd.obj (k := 2) rfl rfl | exact Rd.obj (k := 3) rfl rfl | exact Rd.obj (k := 4) rfl rfl | exact Rd.imm (by assumption) | exact Rd.sl (k := 0) rfl (by assumption) | exact Rd.sl (k := 1) rfl (by assumption) | exact Rd.sl (k := 2) rfl (by assumption) | exact Rd.sl (k := 3) rfl (by assumption))) ?_
        refine PW.ex rfl rfl rfl rfl (Ex.move rfl) ?_
        refine PW.ex rfl rfl rfl rfl (Ex.move rfl) ?_
        refine PW.ex rfl rfl rfl rfl (Ex.indexSl Try.underlying33 ti82 rfl rfl rfl (by omega)) ?_
        refine PW.ex rfl rfl rfl rfl (Ex.fieldA Try.underlying82 rfl ti3 rfl) ?_
        refine PW.ex rfl rfl rfl rfl (Ex.load1 ti3 rfl rfl (by first | exact Rd.obj (k := 0) rfl rfl | exact Rd.obj (k := 1) rfl rfl | exact Rd.obj (k := 2) rfl rfl | exact Rd.obj (k := 3) rfl rfl | exact Rd.obj (k := 4) rfl rfl | exact Rd.imm (by assumption) | exact Rd.sl (k := 0) rfl (by assumption) | exact Rd.sl (k := 1) rfl (by assumption) | exact Rd.sl (k := 2) rfl (by assumption) | exact Rd.sl (k := 3) rfl (by assumption))) ?_
        refine PW.ex rfl rfl rfl rfl (Ex.quo rfl rfl (by omega) (quo_in ⟨by omega, by omega⟩)) ?_
        refine PW.ex rfl rfl rfl rfl (Ex.buildS st36 rfl rfl rfl) ?_
        refine PW.nil ?_
        refine LW.hu rfl rfl rfl (Hv.storeN (k := 0) ti36 hS rfl rfl rfl rfl (by simp [Value.oneCell'])) fun _ w_23 hS => ?_
        dsimp only [List.set] at hS
        refine LW.nil fun aa ha => hK5 _ _ _ ?_ aa ha
        refine CW.ret fun aa ha => ?_
        refine ret_cell ha Try.results22 rfl ti36 rfl (fun j v hv => Rd.objAll (k := 0) rfl hS.rd j v hv) ?_
        have e : shiftOf l key = shiftT l[i] := by rw [he]; unfold shiftOf; rw [List.find?_cons_of_pos (by simp [tapHit, hke, h4])]
        rw [e]; exact hS.retS
      · skip
        refine CW.seq fun K4 hK4 => ?_
        refine CW.region [0, 1, 2, 3, 4, 5, 6, 7, 8, 9, 10, 11, 12, 13, 14] rfl ?_
        refine LW.ex rfl rfl rfl rfl (Ex.move rfl) hS.rd ?_
        refine LW.ex rfl rfl rfl rfl (Ex.move rfl) hS.rd ?_
        refine LW.ex rfl rfl rfl rfl (Ex.indexSl Try.underlying33 ti82 rfl rfl rfl (by omega)) hS.rd ?_
        refine LW.ex rfl rfl rfl rfl (Ex.fieldA Try.underlying82 rfl ti5 rfl) hS.rd ?_
        refine LW.ex rfl rfl rfl rfl (Ex.load1 ti5 rfl rfl (by first | exact Rd.obj (k := 0) rfl rfl | exact Rd.obj (k := 1) rfl rfl | exact Rd.obj (k := 2) rfl rfl | exact Rd.obj (k := 3) rfl rfl | exact Rd.obj (k := 4) rfl rfl | exact Rd.imm (by assumption) | exact Rd.sl (k := 0) rfl (by assumption) | exact Rd.sl (k := 1) rfl (by assumption) | exact Rd.sl (k := 2) rfl (by assumption) | exact Rd.sl (k := 3) rfl (by assumption))) hS.rd ?_
        refine LW.ex rfl rfl rfl rfl (Ex.move rfl) hS.rd ?_
        refine LW.ex rfl rfl rfl rfl (Ex.eql rfl rfl (by first | exact decide_eq_true (by omega) | exact decide_eq_false (by omega) | rfl)) hS.rd ?_
        refine LW.ex rfl rfl rfl rfl (Ex.move rfl) hS.rd ?_
        refine LW.ex rfl rfl rfl rfl (Ex.move rfl) hS.rd ?_
        refine LW.ex rfl rfl rfl rfl (Ex.move rfl) hS.rd ?_
        refine LW.ex rfl rfl rfl rfl (Ex.indexSl Try.underlying33 ti82 rfl rfl rfl (by omega)) hS.rd ?_
        refine LW.ex rfl rfl rfl rfl (Ex.fieldA Try.underlying82 rfl ti3 rfl) hS.rd ?_
        refine LW.ex rfl rfl rfl rfl (Ex.load1 ti3 rfl rfl (by first | exact Rd.obj (k := 0) rfl rfl | exact Rd.obj (k := 1) rfl rfl | exact Rd.obj (k := 2) rfl rfl | exact Rd.obj (k := 3) rfl rfl | exact Rd.obj (k := 4) rfl rfl | exact Rd.imm (by assumption) | exact Rd.sl (k := 0) rfl (by assumption) | exact Rd.sl (k := 1) rfl (by assumption) | exact Rd.sl (k := 2) rfl (by assumption) | exact Rd.sl (k := 3) rfl (by assumption))) hS.rd ?_
        refine LW.ex rfl rfl rfl rfl (Ex.geq rfl rfl (by first | exact decide_eq_true (by omega) | exact decide_eq_false (by omega) | rfl)) hS.rd ?_
        refine LW.ex rfl rfl rfl rfl (by first | exact Ex.pick_yes rfl rfl | exact Ex.pick_no rfl rfl) hS.rd ?_
        refine LW.nil fun aa ha => hK4 _ _ _ ?_ aa ha
        refine CW.no rfl (CW.skip fun aa ha => hKb _ _ _ ?_ aa ha)
        refine CW.region [0, 1, 2] rfl ?_
        refine LW.ex rfl rfl rfl rfl (Ex.move rfl) hS.rd ?_
        refine LW.ex rfl rfl rfl rfl (Ex.add rfl rfl (by first | exact inc64 (by omega) | exact addN (by omega) | exact w64 (by omega) (by omega))) hS.rd ?_
        refine LW.ex rfl rfl rfl rfl (Ex.assign rfl) hS.rd ?_
        refine LW.nil fun aa ha => ?_
        refine ⟨l.length - (i + 1), _, by omega, ⟨i + 1, by omega, rfl, rfl, hS, ?_⟩, ha.sub ⟨rfl, rfl, rfl, rfl, trivial⟩⟩
        rw [he]; unfold shiftOf; rw [List.find?_cons_of_neg (by simp [tapHit, h4])]
    · have hke' : ¬ (l[i].Key.toNat : Int) = key.toNat := fun e => hke (u8_inj e)
      refine CW.seq fun K4 hK4 => ?_
      refine CW.region [0, 1, 2, 3, 4, 5, 6, 7, 8, 9, 10, 11, 12, 13, 14] rfl ?_
      refine LW.ex rfl rfl rfl rfl (Ex.move rfl) hS.rd ?_
      refine LW.ex rfl rfl rfl rfl (Ex.move rfl) hS.rd ?_
      refine LW.ex rfl rfl rfl rfl (Ex.indexSl Try.underlying33 ti82 rfl rfl rfl (by omega)) hS.rd ?_
      refine LW.ex rfl rfl rfl rfl (Ex.fieldA Try.underlying82 rfl ti5 rfl) hS.rd ?_
      refine LW.ex rfl rfl rfl rfl (Ex.load1 ti5 rfl rfl (by first | exact Rd.obj (k := 0) rfl rfl | exact Rd.obj (k := 1) rfl rfl | exact Rd.obj (k := 2) rfl rfl | exact Rd.obj (k := 3) rfl rfl | exact Rd.obj (k := 4) rfl rfl | exact Rd.imm (by assumption) | exact Rd.sl (k := 0) rfl (by assumption) | exact Rd.sl (k := 1) rfl (by assumption) | exact Rd.sl (k := 2) rfl (by assumption) | exact Rd.sl (k := 3) rfl (by assumption))) hS.rd ?_
      refine LW.ex rfl rfl rfl rfl (Ex.move rfl) hS.rd ?_
      refine LW.ex rfl rfl rfl rfl (Ex.eql rfl rfl (by first | exact decide_eq_true (by omega) | exact decide_eq_false (by omega) | rfl)) hS.rd ?_
      refine LW.ex rfl rfl rfl rfl (Ex.move rfl) hS.rd ?_
      refine LW.skip rfl rfl rfl rfl ?_
      refine LW.skip rfl rfl rfl rfl ?_
      refine LW.skip rfl rfl rfl rfl ?_
      refine LW.skip rfl rfl rfl rfl ?_
      refine LW.skip rfl rfl rfl rfl ?_
      refine LW.skip rfl rfl rfl rfl ?_
      refine LW.ex rfl rfl rfl rfl (by first | exact Ex.pick_yes rfl rfl | exact Ex.pick_no rfl rfl) hS.rd ?_
      refine LW.nil fun aa ha => hK4 _ _ _ ?_ aa ha
      refine CW.no rfl (CW.skip fun aa ha => hKb _ _ _ ?_ aa ha)
      refine CW.region [0, 1, 2] rfl ?_
      refine LW.ex rfl rfl rfl rfl (Ex.move rfl) hS.rd ?_
      refine LW.ex rfl rfl rfl rfl (Ex.add rfl rfl (by first | exact inc64 (by omega) | exact addN (by omega) | exact w64 (by omega) (by omega))) hS.rd ?_
      refine LW.ex rfl rfl rfl rfl (Ex.assign rfl) hS.rd ?_
      refine LW.nil fun aa ha => ?_
      refine ⟨l.length - (i + 1), _, by omega, ⟨i + 1, by omega, rfl, rfl, hS, ?_⟩, ha.sub ⟨rfl, rfl, rfl, rfl, trivial⟩⟩
      rw [he]; unfold shiftOf; rw [List.find?_cons_of_neg (by simp [tapHit, hke])]
  · skip
    refine CW.seq fun K2o hK2o => ?_
    refine CW.seq fun K2 hK2 => ?_
    refine CW.region [0, 1, 2, 3] rfl ?_
    refine LW.ex rfl rfl rfl rfl (Ex.move rfl) hS.rd ?_
    refine LW.ex rfl rfl rfl rfl (Ex.move rfl) hS.rd ?_
    refine LW.ex rfl rfl rfl rfl (Ex.lenSl rfl Try.underlying33 rfl) hS.rd ?_
    refine LW.ex rfl rfl rfl rfl (Ex.lss rfl rfl (by first | exact decide_eq_true (by omega) | exact decide_eq_false (by omega) | rfl)) hS.rd ?_
    refine LW.nil fun aa ha => hK2 _ _ _ ?_ aa ha
    refine CW.no rfl ?_
    refine CW.exit fun aa ha => hK1o _ _ _ ?_ aa ha
    refine CW.seq fun K6 hK6 => ?_
    refine CW.region [0, 1] rfl ?_
    refine LW.ex rfl rfl rfl rfl (Ex.buildS st36 rfl rfl rfl) hS.rd ?_
    refine LW.hu rfl rfl rfl (Hv.storeN (k := 0) ti36 hS rfl rfl rfl rfl (by simp [Value.oneCell'])) fun _ w_1 hS => ?_
    dsimp only [List.set] at hS
    refine LW.nil fun aa ha => hK6 _ _ _ ?_ aa ha
    refine CW.ret fun aa ha => ?_
    refine ret_cell ha Try.results22 rfl ti36 rfl (fun j v hv => Rd.objAll (k := 0) rfl hS.rd j v hv) ?_
    have e : shiftOf l key = ⟨0, 0⟩ := by rw [he, List.drop_of_length_le (by omega)]; rfl
    rw [e]; exact hS.retS

theorem shiftOf_bound {l : List Tap} (hb : ∀ t ∈ l, TapB t) (key : UInt8) : -100000 ≤ (shiftOf l key).X ∧ (shiftOf l key).X ≤ 100000 ∧ -100000 ≤ (shiftOf l key).Y ∧ (shiftOf l key).Y ≤ 100000 := by
  unfold shiftOf
  cases h : l.find? (tapHit key) with
  | none => simp
  | some t =>
    obtain ⟨⟨x1, x2⟩, ⟨y1, y2⟩, _⟩ := hb t (List.mem_of_find?_eq_some h)
    have h1 : (t.DX.tdiv t.N).natAbs ≤ t.DX.natAbs := by rw [Int.natAbs_tdiv]; exact Nat.div_le_self _ _
    have h2 : (t.DY.tdiv t.N).natAbs ≤ t.DY.natAbs := by rw [Int.natAbs_tdiv]; exact Nat.div_le_self _ _
    simp only [shiftT]; omega

def costOf (a : Area) (taps : List Tap) (p : Pt) : Int :=
  (away (p.X - (shiftOf taps a.Key).X) a.X0 a.X1 * away (p.X - (shiftOf taps a.Key).X) a.X0 a.X1 + away (p.Y - (shiftOf taps a.Key).Y) a.Y0 a.Y1 * away (p.Y - (shiftOf taps a.Key).Y) a.Y0 a.Y1).tdiv 16
theorem away_bound {n lo hi : Int} (h1 : -200000 ≤ n ∧ n ≤ 200000) (h2 : -10000 ≤ lo ∧ lo ≤ 10000) (h3 : -10000 ≤ hi ∧ hi ≤ 10000) : 0 ≤ away n lo hi ∧ away n lo hi ≤ 210000 := by unfold away; omega
theorem sq_bound {x : Int} (h : 0 ≤ x ∧ x ≤ 210000) : 0 ≤ x * x ∧ x * x ≤ 44100000000 :=
  ⟨Int.mul_nonneg h.1 h.1, by
    have := Int.mul_le_mul h.2 h.2 h.1 (by omega : (0:Int) ≤ 210000)
    omega⟩
theorem refcost_c (a : Area) (taps : List Tap) (p : Pt) (ad : Option Addr) (c : Nat) (μ : Mem) (w : World) (hμ : Imm μ w) (hl : Sl μ ad c taps) (hb : ∀ t ∈ taps, TapB t) (ha : ArB a) (hp : -40000 ≤ p.X ∧ p.X ≤ 40000 ∧ -40000 ≤ p.Y ∧ p.Y ≤ 40000) :
    Calls Try.prog 26 #[areaV a, .slice ad taps.length c, ptV p] w (RetS w (.int .i64 (costOf a taps p))) := by
  have hS := St.start w μ hμ
  obtain ⟨a1, a2, a3, a4⟩ := ha
  have hs := shiftOf_bound hb a.Key
  have hx := away_bound (n := p.X - (shiftOf taps a.Key).X) (lo := a.X0) (hi := a.X1) (by omega) a1 a3
  have hy := away_bound (n := p.Y - (shiftOf taps a.Key).Y) (lo := a.Y0) (hi := a.Y1) (by omega) a2 a4
  have hxx := sq_bound hx
  have hyy := sq_bound hy
  refine calls_start 42 [areaV a, .slice ad taps.length c, ptV p] Try.func26 rfl Try.ntmps26 rfl rfl ?_
  refine CW.seq fun K0 hK0 => ?_
  refine CW.region [0, 1, 2] rfl ?_
  refine LW.hv rfl rfl rfl rfl (Hv.box hS rfl) fun v w3 ⟨b3, hv, hb3, hS⟩ => ?_
  subst hv
  refine LW.hv rfl rfl rfl rfl (Hv.box hS rfl) fun v w5 ⟨b5, hv, hb5, hS⟩ => ?_
  subst hv
  refine LW.ex rfl rfl rfl rfl (Ex.assign rfl) hS.rd ?_
  refine LW.nil fun aa ha => hK0 _ _ _ ?_ aa ha
  refine CW.seq fun K1 hK1 => ?_
  refine CW.region [0, 1, 2, 3, 4, 5] rfl ?_
  refine LW.ex rfl rfl rfl rfl (Ex.move rfl) hS.rd ?_
  refine LW.ex rfl rfl rfl rfl (Ex.fieldA Try.underlying57 rfl ti5 rfl) hS.rd ?_
  refine LW.ex rfl rfl rfl rfl (Ex.load1 ti5 rfl rfl (by first | exact Rd.obj (k := 0) rfl rfl | exact Rd.obj (k := 1) rfl rfl | exact Rd.obj (k := 2) rfl rfl | exact Rd.obj (k := 3) rfl rfl | exact Rd.obj (k := 4) rfl rfl | exact Rd.imm (by assumption) | exact Rd.sl (k := 0) rfl (by assumption) | exact Rd.sl (k := 1) rfl (by assumption) | exact Rd.sl (k := 2) rfl (by assumption) | exact Rd.sl (k := 3) rfl (by assumption))) hS.rd ?_
  refine LW.hv rfl rfl rfl rfl (Hv.callS hS rfl rfl rfl cb22 (refshift_c taps a.Key _ _ μ _ hS.imm hl hb)) fun v w13 ⟨hv, hS⟩ => ?_
  subst hv
  refine LW.hv rfl rfl rfl rfl (Hv.alloc ti36 hS) fun v w7 ⟨b7, hv, hb7, hS⟩ => ?_
  subst hv
  refine LW.hu rfl rfl rfl (Hv.storeN (k := 0) ti36 hS rfl rfl rfl rfl (by simp [Value.oneCell'])) fun _ w_5 hS => ?_
  dsimp only [List.set] at hS
  refine LW.nil fun aa ha => hK1 _ _ _ ?_ aa ha
  refine CW.seq fun K2 hK2 => ?_
  have hS := hS.drew
  refine CW.draw 22 (.ex 0 <| .ex 1 <| .ex 2 <| .ex 3 <| .ex 4 <| .ex 5 <| .ex 6 <| .ex 7 <| .ex 8 <| .ex 10 <| .ex 11 <| .ex 12 <| .ex 13 <| .ex 14 <| .ex 15 <| .ex 16 <| .ex 17 <| .ex 18 <| .one 9 <| .one 19 <| .ex 20 <| .ex 21 <| .done) [] (Rd _ _) mixed (by kernel_rfl) rfl rfl hS.rd ?_
  refine PW.ex rfl rfl rfl rfl (Ex.fieldA Try.underlying36 rfl ti3 rfl) ?_
  refine PW.ex rfl rfl rfl rfl (Ex.load1 ti3 rfl rfl (by first | exact Rd.obj (k := 0) rfl rfl | exact Rd.obj (k := 1) rfl rfl | exact Rd.obj (k := 2) rfl rfl | exact Rd.obj (k := 3) rfl rfl | exact Rd.obj (k := 4) rfl rfl | exact Rd.imm (by assumption) | exact Rd.sl (k := 0) rfl (by assumption) | exact Rd.sl (k := 1) rfl (by assumption) | exact Rd.sl (k := 2) rfl (by assumption) | exact Rd.sl (k := 3) rfl (by assumption))) ?_
  refine PW.ex rfl rfl rfl rfl (Ex.fieldA Try.underlying36 rfl ti3 rfl) ?_
  refine PW.ex rfl rfl rfl rfl (Ex.load1 ti3 rfl rfl (by first | exact Rd.obj (k := 0) rfl rfl | exact Rd.obj (k := 1) rfl rfl | exact Rd.obj (k := 2) rfl rfl | exact Rd.obj (k := 3) rfl rfl | exact Rd.obj (k := 4) rfl rfl | exact Rd.imm (by assumption) | exact Rd.sl (k := 0) rfl (by assumption) | exact Rd.sl (k := 1) rfl (by assumption) | exact Rd.sl (k := 2) rfl (by assumption) | exact Rd.sl (k := 3) rfl (by assumption))) ?_
  refine PW.ex rfl rfl rfl rfl (Ex.sub rfl rfl (by first | exact dec64 (by omega) (by omega) | exact subN (by omega) (by omega) | exact w64 (by omega) (by omega))) ?_
  refine PW.ex rfl rfl rfl rfl (Ex.fieldA Try.underlying57 rfl ti3 rfl) ?_
  refine PW.ex rfl rfl rfl rfl (Ex.load1 ti3 rfl rfl (by first | exact Rd.obj (k := 0) rfl rfl | exact Rd.obj (k := 1) rfl rfl | exact Rd.obj (k := 2) rfl rfl | exact Rd.obj (k := 3) rfl rfl | exact Rd.obj (k := 4) rfl rfl | exact Rd.imm (by assumption) | exact Rd.sl (k := 0) rfl (by assumption) | exact Rd.sl (k := 1) rfl (by assumption) | exact Rd.sl (k := 2) rfl (by assumption) | exact Rd.sl (k := 3) rfl (by assumption))) ?_
  refine PW.ex rfl rfl rfl rfl (Ex.fieldA Try.underlying57 rfl ti3 rfl) ?_
  refine PW.ex rfl rfl rfl rfl (Ex.load1 ti3 rfl rfl (by first | exact Rd.obj (k := 0) rfl rfl | exact Rd.obj (k := 1) rfl rfl | exact Rd.obj (k := 2) rfl rfl | exact Rd.obj (k := 3) rfl rfl | exact Rd.obj (k := 4) rfl rfl | exact Rd.imm (by assumption) | exact Rd.sl (k := 0) rfl (by assumption) | exact Rd.sl (k := 1) rfl (by assumption) | exact Rd.sl (k := 2) rfl (by assumption) | exact Rd.sl (k := 3) rfl (by assumption))) ?_
  refine PW.ex rfl rfl rfl rfl (Ex.fieldA Try.underlying36 rfl ti3 rfl) ?_
  refine PW.ex rfl rfl rfl rfl (Ex.load1 ti3 rfl rfl (by first | exact Rd.obj (k := 0) rfl rfl | exact Rd.obj (k := 1) rfl rfl | exact Rd.obj (k := 2) rfl rfl | exact Rd.obj (k := 3) rfl rfl | exact Rd.obj (k := 4) rfl rfl | exact Rd.imm (by assumption) | exact Rd.sl (k := 0) rfl (by assumption) | exact Rd.sl (k := 1) rfl (by assumption) | exact Rd.sl (k := 2) rfl (by assumption) | exact Rd.sl (k := 3) rfl (by assumption))) ?_
  refine PW.ex rfl rfl rfl rfl (Ex.fieldA Try.underlying36 rfl ti3 rfl) ?_
  refine PW.ex rfl rfl rfl rfl (Ex.load1 ti3 rfl rfl (by first | exact Rd.obj (k := 0) rfl rfl | exact Rd.obj (k := 1) rfl rfl | exact Rd.obj (k := 2) rfl rfl | exact Rd.obj (k := 3) rfl rfl | exact Rd.obj (k := 4) rfl rfl | exact Rd.imm (by assumption) | exact Rd.sl (k := 0) rfl (by assumption) | exact Rd.sl (k := 1) rfl (by assumption) | exact Rd.sl (k := 2) rfl (by assumption) | exact Rd.sl (k := 3) rfl (by assumption))) ?_
  refine PW.ex rfl rfl rfl rfl (Ex.sub rfl rfl (by first | exact dec64 (by omega) (by omega) | exact subN (by omega) (by omega) | exact w64 (by omega) (by omega))) ?_
  refine PW.ex rfl rfl rfl rfl (Ex.fieldA Try.underlying57 rfl ti3 rfl) ?_
  refine PW.ex rfl rfl rfl rfl (Ex.load1 ti3 rfl rfl (by first | exact Rd.obj (k := 0) rfl rfl | exact Rd.obj (k := 1) rfl rfl | exact Rd.obj (k := 2) rfl rfl | exact Rd.obj (k := 3) rfl rfl | exact Rd.obj (k := 4) rfl rfl | exact Rd.imm (by assumption) | exact Rd.sl (k := 0) rfl (by assumption) | exact Rd.sl (k := 1) rfl (by assumption) | exact Rd.sl (k := 2) rfl (by assumption) | exact Rd.sl (k := 3) rfl (by assumption))) ?_
  refine PW.ex rfl rfl rfl rfl (Ex.fieldA Try.underlying57 rfl ti3 rfl) ?_
  refine PW.ex rfl rfl rfl rfl (Ex.load1 ti3 rfl rfl (by first | exact Rd.obj (k := 0) rfl rfl | exact Rd.obj (k := 1) rfl rfl | exact Rd.obj (k := 2) rfl rfl | exact Rd.obj (k := 3) rfl rfl | exact Rd.obj (k := 4) rfl rfl | exact Rd.imm (by assumption) | exact Rd.sl (k := 0) rfl (by assumption) | exact Rd.sl (k := 1) rfl (by assumption) | exact Rd.sl (k := 2) rfl (by assumption) | exact Rd.sl (k := 3) rfl (by assumption))) ?_
  refine PW.hv rfl rfl rfl rfl (Hv.callS hS rfl rfl rfl cb60 (refaway_c _ _ _ _ (by omega) (by omega) (by omega))) (fun _ _ h => h.2.rd) fun v w23 ⟨hv, hS⟩ => ?_
  subst hv
  refine PW.hv rfl rfl rfl rfl (Hv.callS hS rfl rfl rfl cb60 (refaway_c _ _ _ _ (by omega) (by omega) (by omega))) (fun _ _ h => h.2.rd) fun v w33 ⟨hv, hS⟩ => ?_
  subst hv
  refine PW.ex rfl rfl rfl rfl (Ex.assign rfl) ?_
  refine PW.ex rfl rfl rfl rfl (Ex.assign rfl) ?_
  refine PW.nil ?_
  refine LW.nil fun aa ha => hK2 _ _ _ ?_ aa ha
  refine CW.seq fun K3 hK3 => ?_
  refine CW.region [0, 1, 2, 3, 4, 5, 6, 7, 8] rfl ?_
  refine LW.ex rfl rfl rfl rfl (Ex.move rfl) hS.rd ?_
  refine LW.ex rfl rfl rfl rfl (Ex.move rfl) hS.rd ?_
  refine LW.ex rfl rfl rfl rfl (Ex.mul rfl rfl (w64 (by omega) (by omega))) hS.rd ?_
  refine LW.ex rfl rfl rfl rfl (Ex.move rfl) hS.rd ?_
  refine LW.ex rfl rfl rfl rfl (Ex.move rfl) hS.rd ?_
  refine LW.ex rfl rfl rfl rfl (Ex.mul rfl rfl (w64 (by omega) (by omega))) hS.rd ?_
  refine LW.ex rfl rfl rfl rfl (Ex.add rfl rfl (w64 (by omega) (by omega))) hS.rd ?_
  refine LW.ex rfl rfl rfl rfl (Ex.quo rfl rfl (by omega) (quo_in ⟨by omega, by omega⟩)) hS.rd ?_
  refine LW.ex rfl rfl rfl rfl (Ex.assign rfl) hS.rd ?_
  refine LW.nil fun aa ha => hK3 _ _ _ ?_ aa ha
  refine CW.ret fun aa ha => ?_
  exact ret_one ha Try.results26 rfl hS.retS
end Go.Proofs.Ytphgjongflkolaa
