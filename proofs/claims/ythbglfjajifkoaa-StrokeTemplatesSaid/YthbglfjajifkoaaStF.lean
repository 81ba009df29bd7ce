/-
  Strokes: templates, boards, choices; the walks of better, Cost and Same.
-/
import Derived.Test.YthbglfjajifkoaaStE
namespace Go.Proofs.Ythbglfjajifkoaa
open Go.RowKit Sy

structure Tpl where
  Key : UInt8
  P : List Pt
instance : El Tpl := ⟨2, fun μ f t => f 0 = some (.int .u8 t.Key.toNat) ∧ ∃ ad c, f 1 = some (.slice ad t.P.length c) ∧ Sl μ ad c t.P,
  fun hm hf h => ⟨hf _ _ h.1, let ⟨ad, c, h1, h2⟩ := h.2; ⟨ad, c, hf _ _ h1, h2.mono hm⟩⟩⟩
structure Ch where
  Key : UInt8
  Cost : Int
  deriving DecidableEq, Inhabited
instance : El Ch := ⟨2, fun _ f t => f 0 = some (.int .u8 t.Key.toNat) ∧ f 1 = some (.int .i64 t.Cost), fun _ hf h => ⟨hf _ _ h.1, hf _ _ h.2⟩⟩

structure Good (l : List Pt) : Prop where
  bd : ∀ p ∈ l, Bd 100000 p
  len : l.length ≤ 1000
  pos : 0 < l.length

/-- syllabaryref22.Distance -/
def D (p q : List Pt) : Int := T (gapsOf p q) (p.length - 1) (q.length - 1)
theorem D_bound {p q : List Pt} (hp : Good p) (hq : Good q) : 0 ≤ D p q ∧ D p q ≤ 2000000 := T_bound _ (gapsOf_bound hp.bd hq.bd) _ _
theorem quo16 {x : Int} (h0 : 0 ≤ x) (h1 : x ≤ 2000000) : IntKind.i64.wrap (x.tdiv 16) = x / 16 := by
  rw [Int.tdiv_eq_ediv_of_nonneg h0]; exact w64 (by omega) (by omega)
def costT (p q : List Pt) : Int := min (D p q / 16) 1000
def costStep (p : List Pt) (key : UInt8) (out : Int) (t : Tpl) : Int :=
  if t.Key = key then (if out < 0 then costT p t.P else if costT p t.P < out then costT p t.P else out) else out
/-- syllabaryref22.Cost -/
def costOf (b : List Tpl) (p : List Pt) (key : UInt8) : Int := b.foldl (costStep p key) (-1)
abbrev boardV (ad : Option Addr) (l c : Nat) : Value := .agg #[.slice none 0 0, .slice ad l c, .slice none 0 0]

theorem u8_inj {a b : UInt8} (h : (a.toNat : Int) = b.toNat) : a = b := UInt8.toNat_inj.1 (by omega)

set_option maxRecDepth 100000 in
theorem cost_c (b : List Tpl) (ad : Option Addr) (c : Nat) (p : List Pt) (adp : Option Addr) (cp : Nat) (key : UInt8) (μ : Mem) (w : World) (hμ : Imm μ w) (hb : Sl μ ad c b) (hp : Sl μ adp cp p) (gp : Good p) (gb : ∀ t ∈ b, Good t.P) :
    Calls Try.prog 22 #[boardV ad b.length c, .slice adp p.length cp, .int .u8 key.toNat] w (RetS w (.int .i64 (costOf b p key))) := by
  have hS := St.start w μ hμ
  have hlc : b.length ≤ 9223372036854775807 := by have := hb.1; have := hb.2.1; simp only [maxLen] at this; omega
  refine calls_start 44 [boardV ad b.length c, .slice adp p.length cp, .int .u8 key.toNat] Try.func22 rfl Try.ntmps22 rfl rfl ?_
  refine CW.seq fun K0 hK0 => ?_
  refine CW.region [0, 1] rfl ?_
  refine LW.hv rfl rfl rfl rfl (Hv.box hS rfl) fun v w3 ⟨b3, hv, hb3, hS⟩ => ?_
  subst hv
  refine LW.ex rfl rfl rfl rfl (Ex.assign rfl) hS.rd ?_
  refine LW.nil fun aa ha => hK0 _ _ _ ?_ aa ha
  refine CW.seq fun K1 hK1 => ?_
  refine CW.region [0] rfl ?_
  refine LW.ex rfl rfl rfl rfl (Ex.assign rfl) hS.rd ?_
  refine LW.nil fun aa ha => hK1 _ _ _ ?_ aa ha
  refine CW.seq fun K2o hK2o => ?_
  refine CW.seq fun K2 hK2 => ?_
  refine CW.region [0] rfl ?_
  refine LW.ex rfl rfl rfl rfl (Ex.assign rfl) hS.rd ?_
  refine LW.nil fun aa ha => hK2 _ _ _ ?_ aa ha
  refine CW.block ?_
  refine CW.loop (fun q m w1 => ∃ (i : Nat) (y : Int), i ≤ b.length ∧ q = b.length - i ∧ m = [(1, .slice adp p.length cp), (2, .int .u8 key.toNat), (3, .pointer (some ⟨b3, 0, none⟩)), (7, .int .i64 y), (8, .int .i64 i)] ∧
      St w w1 μ [Own.obj b3 [.slice none 0 0, .slice ad b.length c, .slice none 0 0] 32] ∧ costOf b p key = (b.drop i).foldl (costStep p key) y) b.length
    ⟨0, -1, by omega, by omega, rfl, hS, rfl⟩ ⟨rfl, rfl, rfl, rfl, rfl, trivial⟩ ?_
  clear hS
  rintro q m w1 ⟨i, y, hi, hq, rfl, hS, he⟩
  by_cases h1 : i < b.length
  · skip
    refine CW.seq fun K3o hK3o => ?_
    refine CW.seq fun K3 hK3 => ?_
    refine CW.region [0, 1, 2, 3, 4] rfl ?_
    refine LW.ex rfl rfl rfl rfl (Ex.move rfl) hS.rd ?_
    refine LW.ex rfl rfl rfl rfl (Ex.fieldA Try.underlying32 rfl ti29 rfl) hS.rd ?_
    refine LW.ex rfl rfl rfl rfl (Ex.load1 ti29 rfl rfl (by first | exact Rd.obj (k := 0) rfl rfl | exact Rd.obj (k := 1) rfl rfl | exact Rd.obj (k := 2) rfl rfl | exact Rd.obj (k := 3) rfl rfl | exact Rd.obj (k := 4) rfl rfl | exact Rd.imm (by assumption) | exact Rd.sl (k := 0) rfl (by assumption) | exact Rd.sl (k := 1) rfl (by assumption) | exact Rd.sl (k := 2) rfl (by assumption) | exact Rd.sl (k := 3) rfl (by assumption))) hS.rd ?_
    refine LW.ex rfl rfl rfl rfl (Ex.lenSl rfl Try.underlying29 rfl) hS.rd ?_
    refine LW.ex rfl rfl rfl rfl (Ex.lss rfl rfl (by first | exact decide_eq_true (by omega) | exact decide_eq_false (by omega) | rfl)) hS.rd ?_
    refine LW.nil fun aa ha => hK3 _ _ _ ?_ aa ha
    refine CW.yes rfl ?_
    refine CW.skip fun aa ha => hK3o _ _ _ ?_ aa ha
    obtain ⟨bl, ol, rfl, hk, adt, ct, hc, ht⟩ := hb.at h1
    have gt := gb _ (List.getElem_mem h1)
    have hD := D_bound gp gt
    rw [List.drop_eq_getElem_cons h1, List.foldl_cons] at he
    refine CW.seq fun Kb hKb => ?_
    refine CW.block ?_
    by_cases c1 : b[i].Key = key
    · have c1' : (b[i].Key.toNat : Int) = key.toNat := by rw [c1]
      refine CW.seq fun K5o hK5o => ?_
      refine CW.seq fun K5 hK5 => ?_
      refine CW.region [0, 1, 2, 3, 4, 5, 6, 7] rfl ?_
      refine LW.ex rfl rfl rfl rfl (Ex.fieldA Try.underlying32 rfl ti29 rfl) hS.rd ?_
      refine LW.ex rfl rfl rfl rfl (Ex.load1 ti29 rfl rfl (by first | exact Rd.obj (k := 0) rfl rfl | exact Rd.obj (k := 1) rfl rfl | exact Rd.obj (k := 2) rfl rfl | exact Rd.obj (k := 3) rfl rfl | exact Rd.obj (k := 4) rfl rfl | exact Rd.imm (by assumption) | exact Rd.sl (k := 0) rfl (by assumption) | exact Rd.sl (k := 1) rfl (by assumption) | exact Rd.sl (k := 2) rfl (by assumption) | exact Rd.sl (k := 3) rfl (by assumption))) hS.rd ?_
      refine LW.ex rfl rfl rfl rfl (Ex.move rfl) hS.rd ?_
      refine LW.ex rfl rfl rfl rfl (Ex.indexSl Try.underlying29 ti61 rfl rfl rfl (by omega)) hS.rd ?_
      refine LW.ex rfl rfl rfl rfl (Ex.fieldA Try.underlying61 rfl ti5 rfl) hS.rd ?_
      refine LW.ex rfl rfl rfl rfl (Ex.load1 ti5 rfl rfl (by first | exact Rd.obj (k := 0) rfl rfl | exact Rd.obj (k := 1) rfl rfl | exact Rd.obj (k := 2) rfl rfl | exact Rd.obj (k := 3) rfl rfl | exact Rd.obj (k := 4) rfl rfl | exact Rd.imm (by assumption) | exact Rd.sl (k := 0) rfl (by assumption) | exact Rd.sl (k := 1) rfl (by assumption) | exact Rd.sl (k := 2) rfl (by assumption) | exact Rd.sl (k := 3) rfl (by assumption))) hS.rd ?_
      refine LW.ex rfl rfl rfl rfl (Ex.move rfl) hS.rd ?_
      refine LW.ex rfl rfl rfl rfl (Ex.neq rfl rfl (by first | exact decide_eq_true (by omega) | exact decide_eq_false (by omega) | rfl)) hS.rd ?_
      refine LW.nil fun aa ha => hK5 _ _ _ ?_ aa ha
      refine CW.no rfl (CW.skip fun aa ha => hK5o _ _ _ ?_ aa ha)
      refine CW.seq fun K6 hK6 => ?_
      refine CW.region [0, 1, 2, 3, 4, 5, 6, 7, 8, 9, 10] rfl ?_
      refine LW.ex rfl rfl rfl rfl (Ex.move rfl) hS.rd ?_
      refine LW.ex rfl rfl rfl rfl (Ex.fieldA Try.underlying32 rfl ti29 rfl) hS.rd ?_
      refine LW.ex rfl rfl rfl rfl (Ex.load1 ti29 rfl rfl (by first | exact Rd.obj (k := 0) rfl rfl | exact Rd.obj (k := 1) rfl rfl | exact Rd.obj (k := 2) rfl rfl | exact Rd.obj (k := 3) rfl rfl | exact Rd.obj (k := 4) rfl rfl | exact Rd.imm (by assumption) | exact Rd.sl (k := 0) rfl (by assumption) | exact Rd.sl (k := 1) rfl (by assumption) | exact Rd.sl (k := 2) rfl (by assumption) | exact Rd.sl (k := 3) rfl (by assumption))) hS.rd ?_
      refine LW.ex rfl rfl rfl rfl (Ex.move rfl) hS.rd ?_
      refine LW.ex rfl rfl rfl rfl (Ex.indexSl Try.underlying29 ti61 rfl rfl rfl (by omega)) hS.rd ?_
      refine LW.ex rfl rfl rfl rfl (Ex.fieldA Try.underlying61 rfl ti26 rfl) hS.rd ?_
      refine LW.ex rfl rfl rfl rfl (Ex.load1 ti26 rfl rfl (by first | exact Rd.obj (k := 0) rfl rfl | exact Rd.obj (k := 1) rfl rfl | exact Rd.obj (k := 2) rfl rfl | exact Rd.obj (k := 3) rfl rfl | exact Rd.obj (k := 4) rfl rfl | exact Rd.imm (by assumption) | exact Rd.sl (k := 0) rfl (by assumption) | exact Rd.sl (k := 1) rfl (by assumption) | exact Rd.sl (k := 2) rfl (by assumption) | exact Rd.sl (k := 3) rfl (by assumption))) hS.rd ?_
      refine LW.hv rfl rfl rfl rfl (Hv.callS hS rfl rfl rfl cb16 (refdist_c p b[i].P _ _ _ _ μ _ hS.imm hp ht gp.bd gt.bd gp.len gt.len gp.pos gt.pos)) fun v w32 ⟨hv, hS⟩ => ?_
      subst hv
      refine LW.ex rfl rfl rfl rfl (Ex.quo rfl rfl (by omega) (quo16 (x := D p b[i].P) hD.1 hD.2)) hS.rd ?_
      refine LW.ex rfl rfl rfl rfl (Ex.min2 rfl rfl rfl) hS.rd ?_
      refine LW.ex rfl rfl rfl rfl (Ex.assign rfl) hS.rd ?_
      refine LW.nil fun aa ha => hK6 _ _ _ ?_ aa ha
      by_cases c2 : y < 0
      · skip
        refine CW.seq fun K7 hK7 => ?_
        refine CW.region [0, 1, 2, 3, 4, 5, 6] rfl ?_
        refine LW.ex rfl rfl rfl rfl (Ex.move rfl) hS.rd ?_
        refine LW.ex rfl rfl rfl rfl (Ex.lss rfl rfl (by first | exact decide_eq_true (by omega) | exact decide_eq_false (by omega) | rfl)) hS.rd ?_
        refine LW.ex rfl rfl rfl rfl (Ex.move rfl) hS.rd ?_
        refine LW.skip rfl rfl rfl rfl ?_
        refine LW.skip rfl rfl rfl rfl ?_
        refine LW.skip rfl rfl rfl rfl ?_
        refine LW.ex rfl rfl rfl rfl (by first | exact Ex.pick_yes rfl rfl | exact Ex.pick_no rfl rfl) hS.rd ?_
        refine LW.nil fun aa ha => hK7 _ _ _ ?_ aa ha
        refine CW.yes rfl ?_
        refine CW.region [0, 1] rfl ?_
        refine LW.ex rfl rfl rfl rfl (Ex.move rfl) hS.rd ?_
        refine LW.ex rfl rfl rfl rfl (Ex.assign rfl) hS.rd ?_
        refine LW.nil fun aa ha => hKb _ _ _ ?_ aa ha
        refine CW.region [0, 1, 2] rfl ?_
        refine LW.ex rfl rfl rfl rfl (Ex.move rfl) hS.rd ?_
        refine LW.ex rfl rfl rfl rfl (Ex.add rfl rfl (by first | exact inc64 (by omega) | exact addN (by omega) | exact w64 (by omega) (by omega))) hS.rd ?_
        refine LW.ex rfl rfl rfl rfl (Ex.assign rfl) hS.rd ?_
        refine LW.nil fun aa ha => ?_
        refine ⟨b.length - (i + 1), _, by omega, ⟨i + 1, _, by omega, rfl, rfl, hS, ?_⟩, ha.sub ⟨rfl, rfl, rfl, rfl, rfl, trivial⟩⟩
        rw [he]
        congr 1
        simp [costStep, costT, c1, c2]
      · skip
        by_cases c3 : min (D p b[i].P / 16) 1000 < y
        · skip
          refine CW.seq fun K7 hK7 => ?_
          refine CW.region [0, 1, 2, 3, 4, 5, 6] rfl ?_
          refine LW.ex rfl rfl rfl rfl (Ex.move rfl) hS.rd ?_
          refine LW.ex rfl rfl rfl rfl (Ex.lss rfl rfl (by first | exact decide_eq_true (by omega) | exact decide_eq_false (by omega) | rfl)) hS.rd ?_
          refine LW.ex rfl rfl rfl rfl (Ex.move rfl) hS.rd ?_
          refine LW.ex rfl rfl rfl rfl (Ex.move rfl) hS.rd ?_
          refine LW.ex rfl rfl rfl rfl (Ex.move rfl) hS.rd ?_
          refine LW.ex rfl rfl rfl rfl (Ex.lss rfl rfl (by first | exact decide_eq_true (by omega) | exact decide_eq_false (by omega) | rfl)) hS.rd ?_
          refine LW.ex rfl rfl rfl rfl (by first | exact Ex.pick_yes rfl rfl | exact Ex.pick_no rfl rfl) hS.rd ?_
          refine LW.nil fun aa ha => hK7 _ _ _ ?_ aa ha
          refine CW.yes rfl ?_
          refine CW.region [0, 1] rfl ?_
          refine LW.ex rfl rfl rfl rfl (Ex.move rfl) hS.rd ?_
          refine LW.ex rfl rfl rfl rfl (Ex.assign rfl) hS.rd ?_
          refine LW.nil fun aa ha => hKb _ _ _ ?_ aa ha
          refine CW.region [0, 1, 2] rfl ?_
          refine LW.ex rfl rfl rfl rfl (Ex.move rfl) hS.rd ?_
          refine LW.ex rfl rfl rfl rfl (Ex.add rfl rfl (by first | exact inc64 (by omega) | exact addN (by omega) | exact w64 (by omega) (by omega))) hS.rd ?_
          refine LW.ex rfl rfl rfl rfl (Ex.assign rfl) hS.rd ?_
          refine LW.nil fun aa ha => ?_
          refine ⟨b.length - (i + 1), _, by omega, ⟨i + 1, _, by omega, rfl, rfl, hS, ?_⟩, ha.sub ⟨rfl, rfl, rfl, rfl, rfl, trivial⟩⟩
          rw [he]
          congr 1
          simp only [costStep, costT, c1, c2, c3, if_true, if_false]
        · skip
          refine CW.seq fun K7 hK7 => ?_
          refine CW.region [0, 1, 2, 3, 4, 5, 6] rfl ?_
          refine LW.ex rfl rfl rfl rfl (Ex.move rfl) hS.rd ?_
          refine LW.ex rfl rfl rfl rfl (Ex.lss rfl rfl (by first | exact decide_eq_true (by omega) | exact decide_eq_false (by omega) | rfl)) hS.rd ?_
          refine LW.ex rfl rfl rfl rfl (Ex.move rfl) hS.rd ?_
          refine LW.ex rfl rfl rfl rfl (Ex.move rfl) hS.rd ?_
          refine LW.ex rfl rfl rfl rfl (Ex.move rfl) hS.rd ?_
          refine LW.ex rfl rfl rfl rfl (Ex.lss rfl rfl (by first | exact decide_eq_true (by omega) | exact decide_eq_false (by omega) | rfl)) hS.rd ?_
          refine LW.ex rfl rfl rfl rfl (by first | exact Ex.pick_yes rfl rfl | exact Ex.pick_no rfl rfl) hS.rd ?_
          refine LW.nil fun aa ha => hK7 _ _ _ ?_ aa ha
          refine CW.no rfl (CW.skip fun aa ha => hKb _ _ _ ?_ aa ha)
          refine CW.region [0, 1, 2] rfl ?_
          refine LW.ex rfl rfl rfl rfl (Ex.move rfl) hS.rd ?_
          refine LW.ex rfl rfl rfl rfl (Ex.add rfl rfl (by first | exact inc64 (by omega) | exact addN (by omega) | exact w64 (by omega) (by omega))) hS.rd ?_
          refine LW.ex rfl rfl rfl rfl (Ex.assign rfl) hS.rd ?_
          refine LW.nil fun aa ha => ?_
          refine ⟨b.length - (i + 1), _, by omega, ⟨i + 1, _, by omega, rfl, rfl, hS, ?_⟩, ha.sub ⟨rfl, rfl, rfl, rfl, rfl, trivial⟩⟩
          rw [he]
          congr 1
          simp only [costStep, costT, c1, c2, c3, if_true, if_false]
    · have c1' : (b[i].Key.toNat : Int) ≠ key.toNat := fun e => c1 (u8_inj e)
      refine CW.seq fun K5o hK5o => ?_
      refine CW.seq fun K5 hK5 => ?_
      refine CW.region [0, 1, 2, 3, 4, 5, 6, 7] rfl ?_
      refine LW.ex rfl rfl rfl rfl (Ex.fieldA Try.underlying32 rfl ti29 rfl) hS.rd ?_
      refine LW.ex rfl rfl rfl rfl (Ex.load1 ti29 rfl rfl (by first | exact Rd.obj (k := 0) rfl rfl | exact Rd.obj (k := 1) rfl rfl | exact Rd.obj (k := 2) rfl rfl | exact Rd.obj (k := 3) rfl rfl | exact Rd.obj (k := 4) rfl rfl | exact Rd.imm (by assumption) | exact Rd.sl (k := 0) rfl (by assumption) | exact Rd.sl (k := 1) rfl (by assumption) | exact Rd.sl (k := 2) rfl (by assumption) | exact Rd.sl (k := 3) rfl (by assumption))) hS.rd ?_
      refine LW.ex rfl rfl rfl rfl (Ex.move rfl) hS.rd ?_
      refine LW.ex rfl rfl rfl rfl (Ex.indexSl Try.underlying29 ti61 rfl rfl rfl (by omega)) hS.rd ?_
      refine LW.ex rfl rfl rfl rfl (Ex.fieldA Try.underlying61 rfl ti5 rfl) hS.rd ?_
      refine LW.ex rfl rfl rfl rfl (Ex.load1 ti5 rfl rfl (by first | exact Rd.obj (k := 0) rfl rfl | exact Rd.obj (k := 1) rfl rfl | exact Rd.obj (k := 2) rfl rfl | exact Rd.obj (k := 3) rfl rfl | exact Rd.obj (k := 4) rfl rfl | exact Rd.imm (by assumption) | exact Rd.sl (k := 0) rfl (by assumption) | exact Rd.sl (k := 1) rfl (by assumption) | exact Rd.sl (k := 2) rfl (by assumption) | exact Rd.sl (k := 3) rfl (by assumption))) hS.rd ?_
      refine LW.ex rfl rfl rfl rfl (Ex.move rfl) hS.rd ?_
      refine LW.ex rfl rfl rfl rfl (Ex.neq rfl rfl (by first | exact decide_eq_true (by omega) | exact decide_eq_false (by omega) | rfl)) hS.rd ?_
      refine LW.nil fun aa ha => hK5 _ _ _ ?_ aa ha
      refine CW.yes rfl ?_
      refine CW.exit fun aa ha => hKb _ _ _ ?_ aa ha
      refine CW.region [0, 1, 2] rfl ?_
      refine LW.ex rfl rfl rfl rfl (Ex.move rfl) hS.rd ?_
      refine LW.ex rfl rfl rfl rfl (Ex.add rfl rfl (by first | exact inc64 (by omega) | exact addN (by omega) | exact w64 (by omega) (by omega))) hS.rd ?_
      refine LW.ex rfl rfl rfl rfl (Ex.assign rfl) hS.rd ?_
      refine LW.nil fun aa ha => ?_
      refine ⟨b.length - (i + 1), _, by omega, ⟨i + 1, _, by omega, rfl, rfl, hS, ?_⟩, ha.sub ⟨rfl, rfl, rfl, rfl, rfl, trivial⟩⟩
      rw [he]
      congr 1
      simp [costStep, c1]
  · skip
    refine CW.seq fun K3o hK3o => ?_
    refine CW.seq fun K3 hK3 => ?_
    refine CW.region [0, 1, 2, 3, 4] rfl ?_
    refine LW.ex rfl rfl rfl rfl (Ex.move rfl) hS.rd ?_
    refine LW.ex rfl rfl rfl rfl (Ex.fieldA Try.underlying32 rfl ti29 rfl) hS.rd ?_
    refine LW.ex rfl rfl rfl rfl (Ex.load1 ti29 rfl rfl (by first | exact Rd.obj (k := 0) rfl rfl | exact Rd.obj (k := 1) rfl rfl | exact Rd.obj (k := 2) rfl rfl | exact Rd.obj (k := 3) rfl rfl | exact Rd.obj (k := 4) rfl rfl | exact Rd.imm (by assumption) | exact Rd.sl (k := 0) rfl (by assumption) | exact Rd.sl (k := 1) rfl (by assumption) | exact Rd.sl (k := 2) rfl (by assumption) | exact Rd.sl (k := 3) rfl (by assumption))) hS.rd ?_
    refine LW.ex rfl rfl rfl rfl (Ex.lenSl rfl Try.underlying29 rfl) hS.rd ?_
    refine LW.ex rfl rfl rfl rfl (Ex.lss rfl rfl (by first | exact decide_eq_true (by omega) | exact decide_eq_false (by omega) | rfl)) hS.rd ?_
    refine LW.nil fun aa ha => hK3 _ _ _ ?_ aa ha
    refine CW.no rfl ?_
    refine CW.exit fun aa ha => hK2o _ _ _ ?_ aa ha
    refine CW.seq fun K9 hK9 => ?_
    refine CW.region [0, 1] rfl ?_
    refine LW.ex rfl rfl rfl rfl (Ex.move rfl) hS.rd ?_
    refine LW.ex rfl rfl rfl rfl (Ex.assign rfl) hS.rd ?_
    refine LW.nil fun aa ha => hK9 _ _ _ ?_ aa ha
    refine CW.ret fun aa ha => ?_
    refine ret_one ha Try.results22 rfl ?_
    rw [he, List.drop_of_length_le (by omega)]; exact hS.retS

/-- better -/
def before (costs : List Int) (at_ i : Nat) : Bool := decide (0 ≤ costs[i]!) && (decide (costs[i]! < costs[at_]!) || (decide (costs[i]! = costs[at_]!) && decide (i < at_)))
def better (costs : List Int) (at_ : Nat) : Nat := ((List.range costs.length).filter (before costs at_)).length

theorem better_c (l : List Int) (at_ : Nat) (ad : Option Addr) (c : Nat) (μ : Mem) (w : World) (hμ : Imm μ w) (hl : Sl μ ad c l) (hat : at_ < l.length) (hll : l.length ≤ 1000) :
    Calls Try.prog 30 #[.slice ad l.length c, .int .i64 at_] w (RetS w (.int .i64 (better l at_))) := by
  have hS := St.start w μ hμ
  refine calls_start 48 [.slice ad l.length c, .int .i64 at_] Try.func30 rfl Try.ntmps30 rfl rfl ?_
  refine CW.seq fun K0 hK0 => ?_
  refine CW.region [0] rfl ?_
  refine LW.ex rfl rfl rfl rfl (Ex.assign rfl) hS.rd ?_
  refine LW.nil fun aa ha => hK0 _ _ _ ?_ aa ha
  refine CW.seq fun K1 hK1 => ?_
  refine CW.region [0] rfl ?_
  refine LW.ex rfl rfl rfl rfl (Ex.assign rfl) hS.rd ?_
  refine LW.nil fun aa ha => hK1 _ _ _ ?_ aa ha
  refine CW.seq fun K2o hK2o => ?_
  refine CW.seq fun K2 hK2 => ?_
  refine CW.region [0] rfl ?_
  refine LW.ex rfl rfl rfl rfl (Ex.assign rfl) hS.rd ?_
  refine LW.nil fun aa ha => hK2 _ _ _ ?_ aa ha
  refine CW.block ?_
  refine CW.loop (fun q m w1 => ∃ (i n : Nat), i ≤ l.length ∧ q = l.length - i ∧ m = [(0, .slice ad l.length c), (1, .int .i64 at_), (5, .int .i64 n), (6, .int .i64 i)] ∧ St w w1 μ [] ∧ n = ((List.range i).filter (before l at_)).length ∧ n ≤ i) l.length
    ⟨0, 0, by omega, by omega, rfl, hS, rfl, by omega⟩ ⟨rfl, rfl, rfl, rfl, trivial⟩ ?_
  clear hS
  rintro q m w1 ⟨i, n, hi, hq, rfl, hS, hn, hni⟩
  by_cases h1 : i < l.length
  · skip
    refine CW.seq fun K3o hK3o => ?_
    refine CW.seq fun K3 hK3 => ?_
    refine CW.region [0, 1, 2, 3] rfl ?_
    refine LW.ex rfl rfl rfl rfl (Ex.move rfl) hS.rd ?_
    refine LW.ex rfl rfl rfl rfl (Ex.move rfl) hS.rd ?_
    refine LW.ex rfl rfl rfl rfl (Ex.lenSl rfl Try.underlying71 rfl) hS.rd ?_
    refine LW.ex rfl rfl rfl rfl (Ex.lss rfl rfl (by first | exact decide_eq_true (by omega) | exact decide_eq_false (by omega) | rfl)) hS.rd ?_
    refine LW.nil fun aa ha => hK3 _ _ _ ?_ aa ha
    refine CW.yes rfl ?_
    refine CW.skip fun aa ha => hK3o _ _ _ ?_ aa ha
    obtain ⟨bl, ol, rfl, hx⟩ := hl.at h1
    obtain ⟨_, _, e, hy⟩ := hl.at hat
    cases e
    have ei : l[i]! = l[i] := getElem!_pos l i h1
    have ea : l[at_]! = l[at_] := getElem!_pos l at_ hat
    refine CW.seq fun Kb hKb => ?_
    refine CW.block ?_
    have hyes : before l at_ i = true → n + 1 = ((List.range (i + 1)).filter (before l at_)).length := fun h => by rw [List.range_succ, List.filter_append, List.length_append, ← hn]; simp [h]
    have hno : before l at_ i = false → n = ((List.range (i + 1)).filter (before l at_)).length := fun h => by rw [List.range_succ, List.filter_append, List.length_append, ← hn]; simp [h]
    by_cases c1 : 0 ≤ l[i]
    · by_cases c2 : l[i] < l[at_]
      · skip
        refine CW.seq fun K5 hK5 => ?_
        have hS := hS.drew
        refine CW.draw 32 (.ex 0 <| .ex 1 <| .ex 2 <| .ex 3 <| .ex 4 <| .ex 5 <| .ex 6 <| .ex 7 <| .ex 8 <| .ex 9 <| .ex 10 <| .ex 11 <| .ex 12 <| .ex 13 <| .ex 14 <| .ex 15 <| .ex 16 <| .ex 17 <| .ex 18 <| .ex 19 <| .ex 20 <| .ex 21 <| .ex 22 <| .ex 23 <| .ex 24 <| .ex 25 <| .ex 26 <| .ex 27 <| .ex 28 <| .ex 29 <| .ex 30 <| .ex 31 <| .done) [] (Rd _ _) mixed (by kernel_rfl) rfl rfl hS.rd ?_
        refine PW.ex rfl rfl rfl rfl (Ex.move rfl) ?_
        refine PW.ex rfl rfl rfl rfl (Ex.move rfl) ?_
        refine PW.ex rfl rfl rfl rfl (Ex.indexSl Try.underlying71 ti3 rfl rfl rfl (by omega)) ?_
        refine PW.ex rfl rfl rfl rfl (Ex.load1 ti3 rfl rfl (by first | exact Rd.obj (k := 0) rfl rfl | exact Rd.obj (k := 1) rfl rfl | exact Rd.obj (k := 2) rfl rfl | exact Rd.obj (k := 3) rfl rfl | exact Rd.obj (k := 4) rfl rfl | exact Rd.imm (by assumption) | exact Rd.sl (k := 0) rfl (by assumption) | exact Rd.sl (k := 1) rfl (by assumption) | exact Rd.sl (k := 2) rfl (by assumption) | exact Rd.sl (k := 3) rfl (by assumption))) ?_
        refine PW.ex rfl rfl rfl rfl (Ex.geq rfl rfl (by first | exact decide_eq_true (by omega) | exact decide_eq_false (by omega) | rfl)) ?_
        refine PW.ex rfl rfl rfl rfl (Ex.move rfl) ?_
        refine PW.ex rfl rfl rfl rfl (Ex.move rfl) ?_
        refine PW.ex rfl rfl rfl rfl (Ex.move rfl) ?_
        refine PW.ex rfl rfl rfl rfl (Ex.indexSl Try.underlying71 ti3 rfl rfl rfl (by omega)) ?_
        refine PW.ex rfl rfl rfl rfl (Ex.load1 ti3 rfl rfl (by first | exact Rd.obj (k := 0) rfl rfl | exact Rd.obj (k := 1) rfl rfl | exact Rd.obj (k := 2) rfl rfl | exact Rd.obj (k := 3) rfl rfl | exact Rd.obj (k := 4) rfl rfl | exact Rd.imm (by assumption) | exact Rd.sl (k := 0) rfl (by assumption) | exact Rd.sl (k := 1) rfl (by assumption) | exact Rd.sl (k := 2) rfl (by assumption) | exact Rd.sl (k := 3) rfl (by assumption))) ?_
        refine PW.ex rfl rfl rfl rfl (Ex.move rfl) ?_
        refine PW.ex rfl rfl rfl rfl (Ex.move rfl) ?_
        refine PW.ex rfl rfl rfl rfl (Ex.indexSl Try.underlying71 ti3 rfl rfl rfl (by omega)) ?_
        refine PW.ex rfl rfl rfl rfl (Ex.load1 ti3 rfl rfl (by first | exact Rd.obj (k := 0) rfl rfl | exact Rd.obj (k := 1) rfl rfl | exact Rd.obj (k := 2) rfl rfl | exact Rd.obj (k := 3) rfl rfl | exact Rd.obj (k := 4) rfl rfl | exact Rd.imm (by assumption) | exact Rd.sl (k := 0) rfl (by assumption) | exact Rd.sl (k := 1) rfl (by assumption) | exact Rd.sl (k := 2) rfl (by assumption) | exact Rd.sl (k := 3) rfl (by assumption))) ?_
        refine PW.ex rfl rfl rfl rfl (Ex.lss rfl rfl (by first | exact decide_eq_true (by omega) | exact decide_eq_false (by omega) | rfl)) ?_
        refine PW.ex rfl rfl rfl rfl (Ex.move rfl) ?_
        refine PW.skip rfl rfl rfl rfl ?_
        refine PW.skip rfl rfl rfl rfl ?_
        refine PW.skip rfl rfl rfl rfl ?_
        refine PW.skip rfl rfl rfl rfl ?_
        refine PW.skip rfl rfl rfl rfl ?_
        refine PW.skip rfl rfl rfl rfl ?_
        refine PW.skip rfl rfl rfl rfl ?_
        refine PW.skip rfl rfl rfl rfl ?_
        refine PW.skip rfl rfl rfl rfl ?_
        refine PW.skip rfl rfl rfl rfl ?_
        refine PW.skip rfl rfl rfl rfl ?_
        refine PW.skip rfl rfl rfl rfl ?_
        refine PW.skip rfl rfl rfl rfl ?_
        refine PW.skip rfl rfl rfl rfl ?_
        refine PW.ex rfl rfl rfl rfl (by first | exact Ex.pick_yes rfl rfl | exact Ex.pick_no rfl rfl) ?_
        refine PW.ex rfl rfl rfl rfl (by first | exact Ex.pick_yes rfl rfl | exact Ex.pick_no rfl rfl) ?_
        refine PW.nil ?_
        refine LW.nil fun aa ha => hK5 _ _ _ ?_ aa ha
        refine CW.yes rfl ?_
        refine CW.region [0, 1, 2] rfl ?_
        refine LW.ex rfl rfl rfl rfl (Ex.move rfl) hS.rd ?_
        refine LW.ex rfl rfl rfl rfl (Ex.add rfl rfl (by first | exact inc64 (by omega) | exact addN (by omega) | exact w64 (by omega) (by omega))) hS.rd ?_
        refine LW.ex rfl rfl rfl rfl (Ex.assign rfl) hS.rd ?_
        refine LW.nil fun aa ha => hKb _ _ _ ?_ aa ha
        refine CW.region [0, 1, 2] rfl ?_
        refine LW.ex rfl rfl rfl rfl (Ex.move rfl) hS.rd ?_
        refine LW.ex rfl rfl rfl rfl (Ex.add rfl rfl (by first | exact inc64 (by omega) | exact addN (by omega) | exact w64 (by omega) (by omega))) hS.rd ?_
        refine LW.ex rfl rfl rfl rfl (Ex.assign rfl) hS.rd ?_
        refine LW.nil fun aa ha => ?_
        refine ⟨l.length - (i + 1), _, by omega, ⟨i + 1, n + 1, by omega, rfl, rfl, hS, hyes ?_, by omega⟩, ha.sub ⟨rfl, rfl, rfl, rfl, trivial⟩⟩
        simp [before, ei, ea, c1, c2]
      · by_cases c3 : l[i] = l[at_]
        · by_cases c4 : i < at_
          · skip
            refine CW.seq fun K5 hK5 => ?_
            have hS := hS.drew
            refine CW.draw 32 (.ex 0 <| .ex 1 <| .ex 2 <| .ex 3 <| .ex 4 <| .ex 5 <| .ex 6 <| .ex 7 <| .ex 8 <| .ex 9 <| .ex 10 <| .ex 11 <| .ex 12 <| .ex 13 <| .ex 14 <| .ex 15 <| .ex 16 <| .ex 17 <| .ex 18 <| .ex 19 <| .ex 20 <| .ex 21 <| .ex 22 <| .ex 23 <| .ex 24 <| .ex 25 <| .ex 26 <| .ex 27 <| .ex 28 <| .ex 29 <| .ex 30 <| .ex 31 <| .done) [] (Rd _ _) mixed (by kernel_rfl) rfl rfl hS.rd ?_
            refine PW.ex rfl rfl rfl rfl (Ex.move rfl) ?_
            refine PW.ex rfl rfl rfl rfl (Ex.move rfl) ?_
            refine PW.ex rfl rfl rfl rfl (Ex.indexSl Try.underlying71 ti3 rfl rfl rfl (by omega)) ?_
            refine PW.ex rfl rfl rfl rfl (Ex.load1 ti3 rfl rfl (by first | exact Rd.obj (k := 0) rfl rfl | exact Rd.obj (k := 1) rfl rfl | exact Rd.obj (k := 2) rfl rfl | exact Rd.obj (k := 3) rfl rfl | exact Rd.obj (k := 4) rfl rfl | exact Rd.imm (by assumption) | exact Rd.sl (k := 0) rfl (by assumption) | exact Rd.sl (k := 1) rfl (by assumption) | exact Rd.sl (k := 2) rfl (by assumption) | exact Rd.sl (k := 3) rfl (by assumption))) ?_
            refine PW.ex rfl rfl rfl rfl (Ex.geq rfl rfl (by first | exact decide_eq_true (by omega) | exact decide_eq_false (by omega) | rfl)) ?_
            refine PW.ex rfl rfl rfl rfl (Ex.move rfl) ?_
            refine PW.ex rfl rfl rfl rfl (Ex.move rfl) ?_
            refine PW.ex rfl rfl rfl rfl (Ex.move rfl) ?_
            refine PW.ex rfl rfl rfl rfl (Ex.indexSl Try.underlying71 ti3 rfl rfl rfl (by omega)) ?_
            refine PW.ex rfl rfl rfl rfl (Ex.load1 ti3 rfl rfl (by first | exact Rd.obj (k := 0) rfl rfl | exact Rd.obj (k := 1) rfl rfl | exact Rd.obj (k := 2) rfl rfl | exact Rd.obj (k := 3) rfl rfl | exact Rd.obj (k := 4) rfl rfl | exact Rd.imm (by assumption) | exact Rd.sl (k := 0) rfl (by assumption) | exact Rd.sl (k := 1) rfl (by assumption) | exact Rd.sl (k := 2) rfl (by assumption) | exact Rd.sl (k := 3) rfl (by assumption))) ?_
            refine PW.ex rfl rfl rfl rfl (Ex.move rfl) ?_
            refine PW.ex rfl rfl rfl rfl (Ex.move rfl) ?_
            refine PW.ex rfl rfl rfl rfl (Ex.indexSl Try.underlying71 ti3 rfl rfl rfl (by omega)) ?_
            refine PW.ex rfl rfl rfl rfl (Ex.load1 ti3 rfl rfl (by first | exact Rd.obj (k := 0) rfl rfl | exact Rd.obj (k := 1) rfl rfl | exact Rd.obj (k := 2) rfl rfl | exact Rd.obj (k := 3) rfl rfl | exact Rd.obj (k := 4) rfl rfl | exact Rd.imm (by assumption) | exact Rd.sl (k := 0) rfl (by assumption) | exact Rd.sl (k := 1) rfl (by assumption) | exact Rd.sl (k := 2) rfl (by assumption) | exact Rd.sl (k := 3) rfl (by assumption))) ?_
            refine PW.ex rfl rfl rfl rfl (Ex.lss rfl rfl (by first | exact decide_eq_true (by omega) | exact decide_eq_false (by omega) | rfl)) ?_
            refine PW.ex rfl rfl rfl rfl (Ex.move rfl) ?_
            refine PW.ex rfl rfl rfl rfl (Ex.move rfl) ?_
            refine PW.ex rfl rfl rfl rfl (Ex.move rfl) ?_
            refine PW.ex rfl rfl rfl rfl (Ex.indexSl Try.underlying71 ti3 rfl rfl rfl (by omega)) ?_
            refine PW.ex rfl rfl rfl rfl (Ex.load1 ti3 rfl rfl (by first | exact Rd.obj (k := 0) rfl rfl | exact Rd.obj (k := 1) rfl rfl | exact Rd.obj (k := 2) rfl rfl | exact Rd.obj (k := 3) rfl rfl | exact Rd.obj (k := 4) rfl rfl | exact Rd.imm (by assumption) | exact Rd.sl (k := 0) rfl (by assumption) | exact Rd.sl (k := 1) rfl (by assumption) | exact Rd.sl (k := 2) rfl (by assumption) | exact Rd.sl (k := 3) rfl (by assumption))) ?_
            refine PW.ex rfl rfl rfl rfl (Ex.move rfl) ?_
            refine PW.ex rfl rfl rfl rfl (Ex.move rfl) ?_
            refine PW.ex rfl rfl rfl rfl (Ex.indexSl Try.underlying71 ti3 rfl rfl rfl (by omega)) ?_
            refine PW.ex rfl rfl rfl rfl (Ex.load1 ti3 rfl rfl (by first | exact Rd.obj (k := 0) rfl rfl | exact Rd.obj (k := 1) rfl rfl | exact Rd.obj (k := 2) rfl rfl | exact Rd.obj (k := 3) rfl rfl | exact Rd.obj (k := 4) rfl rfl | exact Rd.imm (by assumption) | exact Rd.sl (k := 0) rfl (by assumption) | exact Rd.sl (k := 1) rfl (by assumption) | exact Rd.sl (k := 2) rfl (by assumption) | exact Rd.sl (k := 3) rfl (by assumption))) ?_
            refine PW.ex rfl rfl rfl rfl (Ex.eql rfl rfl (by first | exact decide_eq_true (by omega) | exact decide_eq_false (by omega) | rfl)) ?_
            refine PW.ex rfl rfl rfl rfl (Ex.move rfl) ?_
            refine PW.ex rfl rfl rfl rfl (Ex.move rfl) ?_
            refine PW.ex rfl rfl rfl rfl (Ex.move rfl) ?_
            refine PW.ex rfl rfl rfl rfl (Ex.lss rfl rfl (by first | exact decide_eq_true (by omega) | exact decide_eq_false (by omega) | rfl)) ?_
            refine PW.ex rfl rfl rfl rfl (by first | exact Ex.pick_yes rfl rfl | exact Ex.pick_no rfl rfl) ?_
            refine PW.ex rfl rfl rfl rfl (by first | exact Ex.pick_yes rfl rfl | exact Ex.pick_no rfl rfl) ?_
            refine PW.ex rfl rfl rfl rfl (by first | exact Ex.pick_yes rfl rfl | exact Ex.pick_no rfl rfl) ?_
            refine PW.nil ?_
            refine LW.nil fun aa ha => hK5 _ _ _ ?_ aa ha
            refine CW.yes rfl ?_
            refine CW.region [0, 1, 2] rfl ?_
            refine LW.ex rfl rfl rfl rfl (Ex.move rfl) hS.rd ?_
            refine LW.ex rfl rfl rfl rfl (Ex.add rfl rfl (by first | exact inc64 (by omega) | exact addN (by omega) | exact w64 (by omega) (by omega))) hS.rd ?_
            refine LW.ex rfl rfl rfl rfl (Ex.assign rfl) hS.rd ?_
            refine LW.nil fun aa ha => hKb _ _ _ ?_ aa ha
            refine CW.region [0, 1, 2] rfl ?_
            refine LW.ex rfl rfl rfl rfl (Ex.move rfl) hS.rd ?_
            refine LW.ex rfl rfl rfl rfl (Ex.add rfl rfl (by first | exact inc64 (by omega) | exact addN (by omega) | exact w64 (by omega) (by omega))) hS.rd ?_
            refine LW.ex rfl rfl rfl rfl (Ex.assign rfl) hS.rd ?_
            refine LW.nil fun aa ha => ?_
            refine ⟨l.length - (i + 1), _, by omega, ⟨i + 1, n + 1, by omega, rfl, rfl, hS, hyes ?_, by omega⟩, ha.sub ⟨rfl, rfl, rfl, rfl, trivial⟩⟩
            simp [before, ei, ea, c3, c4]; omega
          · skip
            refine CW.seq fun K5 hK5 => ?_
            have hS := hS.drew
            refine CW.draw 32 (.ex 0 <| .ex 1 <| .ex 2 <| .ex 3 <| .ex 4 <| .ex 5 <| .ex 6 <| .ex 7 <| .ex 8 <| .ex 9 <| .ex 10 <| .ex 11 <| .ex 12 <| .ex 13 <| .ex 14 <| .ex 15 <| .ex 16 <| .ex 17 <| .ex 18 <| .ex 19 <| .ex 20 <| .ex 21 <| .ex 22 <| .ex 23 <| .ex 24 <| .ex 25 <| .ex 26 <| .ex 27 <| .ex 28 <| .ex 29 <| .ex 30 <| .ex 31 <| .done) [] (Rd _ _) mixed (by kernel_rfl) rfl rfl hS.rd ?_
            refine PW.ex rfl rfl rfl rfl (Ex.move rfl) ?_
            refine PW.ex rfl rfl rfl rfl (Ex.move rfl) ?_
            refine PW.ex rfl rfl rfl rfl (Ex.indexSl Try.underlying71 ti3 rfl rfl rfl (by omega)) ?_
            refine PW.ex rfl rfl rfl rfl (Ex.load1 ti3 rfl rfl (by first | exact Rd.obj (k := 0) rfl rfl | exact Rd.obj (k := 1) rfl rfl | exact Rd.obj (k := 2) rfl rfl | exact Rd.obj (k := 3) rfl rfl | exact Rd.obj (k := 4) rfl rfl | exact Rd.imm (by assumption) | exact Rd.sl (k := 0) rfl (by assumption) | exact Rd.sl (k := 1) rfl (by assumption) | exact Rd.sl (k := 2) rfl (by assumption) | exact Rd.sl (k := 3) rfl (by assumption))) ?_
            refine PW.ex rfl rfl rfl rfl (Ex.geq rfl rfl (by first | exact decide_eq_true (by omega) | exact decide_eq_false (by omega) | rfl)) ?_
            refine PW.ex rfl rfl rfl rfl (Ex.move rfl) ?_
            refine PW.ex rfl rfl rfl rfl (Ex.move rfl) ?_
            refine PW.ex rfl rfl rfl rfl (Ex.move rfl) ?_
            refine PW.ex rfl rfl rfl rfl (Ex.indexSl Try.underlying71 ti3 rfl rfl rfl (by omega)) ?_
            refine PW.ex rfl rfl rfl rfl (Ex.load1 ti3 rfl rfl (by first | exact Rd.obj (k := 0) rfl rfl | exact Rd.obj (k := 1) rfl rfl | exact Rd.obj (k := 2) rfl rfl | exact Rd.obj (k := 3) rfl rfl | exact Rd.obj (k := 4) rfl rfl | exact Rd.imm (by assumption) | exact Rd.sl (k := 0) rfl (by assumption) | exact Rd.sl (k := 1) rfl (by assumption) | exact Rd.sl (k := 2) rfl (by assumption) | exact Rd.sl (k := 3) rfl (by assumption))) ?_
            refine PW.ex rfl rfl rfl rfl (Ex.move rfl) ?_
            refine PW.ex rfl rfl rfl rfl (Ex.move rfl) ?_
            refine PW.ex rfl rfl rfl rfl (Ex.indexSl Try.underlying71 ti3 rfl rfl rfl (by omega)) ?_
            refine PW.ex rfl rfl rfl rfl (Ex.load1 ti3 rfl rfl (by first | exact Rd.obj (k := 0) rfl rfl | exact Rd.obj (k := 1) rfl rfl | exact Rd.obj (k := 2) rfl rfl | exact Rd.obj (k := 3) rfl rfl | exact Rd.obj (k := 4) rfl rfl | exact Rd.imm (by assumption) | exact Rd.sl (k := 0) rfl (by assumption) | exact Rd.sl (k := 1) rfl (by assumption) | exact Rd.sl (k := 2) rfl (by assumption) | exact Rd.sl (k := 3) rfl (by assumption))) ?_
            refine PW.ex rfl rfl rfl rfl (Ex.lss rfl rfl (by first | exact decide_eq_true (by omega) | exact decide_eq_false (by omega) | rfl)) ?_
            refine PW.ex rfl rfl rfl rfl (Ex.move rfl) ?_
            refine PW.ex rfl rfl rfl rfl (Ex.move rfl) ?_
            refine PW.ex rfl rfl rfl rfl (Ex.move rfl) ?_
            refine PW.ex rfl rfl rfl rfl (Ex.indexSl Try.underlying71 ti3 rfl rfl rfl (by omega)) ?_
            refine PW.ex rfl rfl rfl rfl (Ex.load1 ti3 rfl rfl (by first | exact Rd.obj (k := 0) rfl rfl | exact Rd.obj (k := 1) rfl rfl | exact Rd.obj (k := 2) rfl rfl | exact Rd.obj (k := 3) rfl rfl | exact Rd.obj (k := 4) rfl rfl | exact Rd.imm (by assumption) | exact Rd.sl (k := 0) rfl (by assumption) | exact Rd.sl (k := 1) rfl (by assumption) | exact Rd.sl (k := 2) rfl (by assumption) | exact Rd.sl (k := 3) rfl (by assumption))) ?_
            refine PW.ex rfl rfl rfl rfl (Ex.move rfl) ?_
            refine PW.ex rfl rfl rfl rfl (Ex.move rfl) ?_
            refine PW.ex rfl rfl rfl rfl (Ex.indexSl Try.underlying71 ti3 rfl rfl rfl (by omega)) ?_
            refine PW.ex rfl rfl rfl rfl (Ex.load1 ti3 rfl rfl (by first | exact Rd.obj (k := 0) rfl rfl | exact Rd.obj (k := 1) rfl rfl | exact Rd.obj (k := 2) rfl rfl | exact Rd.obj (k := 3) rfl rfl | exact Rd.obj (k := 4) rfl rfl | exact Rd.imm (by assumption) | exact Rd.sl (k := 0) rfl (by assumption) | exact Rd.sl (k := 1) rfl (by assumption) | exact Rd.sl (k := 2) rfl (by assumption) | exact Rd.sl (k := 3) rfl (by assumption))) ?_
            refine PW.ex rfl rfl rfl rfl (Ex.eql rfl rfl (by first | exact decide_eq_true (by omega) | exact decide_eq_false (by omega) | rfl)) ?_
            refine PW.ex rfl rfl rfl rfl (Ex.move rfl) ?_
            refine PW.ex rfl rfl rfl rfl (Ex.move rfl) ?_
            refine PW.ex rfl rfl rfl rfl (Ex.move rfl) ?_
            refine PW.ex rfl rfl rfl rfl (Ex.lss rfl rfl (by first | exact decide_eq_true (by omega) | exact decide_eq_false (by omega) | rfl)) ?_
            refine PW.ex rfl rfl rfl rfl (by first | exact Ex.pick_yes rfl rfl | exact Ex.pick_no rfl rfl) ?_
            refine PW.ex rfl rfl rfl rfl (by first | exact Ex.pick_yes rfl rfl | exact Ex.pick_no rfl rfl) ?_
            refine PW.ex rfl rfl rfl rfl (by first | exact Ex.pick_yes rfl rfl | exact Ex.pick_no rfl rfl) ?_
            refine PW.nil ?_
            refine LW.nil fun aa ha => hK5 _ _ _ ?_ aa ha
            refine CW.no rfl (CW.skip fun aa ha => hKb _ _ _ ?_ aa ha)
            refine CW.region [0, 1, 2] rfl ?_
            refine LW.ex rfl rfl rfl rfl (Ex.move rfl) hS.rd ?_
            refine LW.ex rfl rfl rfl rfl (Ex.add rfl rfl (by first | exact inc64 (by omega) | exact addN (by omega) | exact w64 (by omega) (by omega))) hS.rd ?_
            refine LW.ex rfl rfl rfl rfl (Ex.assign rfl) hS.rd ?_
            refine LW.nil fun aa ha => ?_
            refine ⟨l.length - (i + 1), _, by omega, ⟨i + 1, n, by omega, rfl, rfl, hS, hno ?_, by omega⟩, ha.sub ⟨rfl, rfl, rfl, rfl, trivial⟩⟩
            simp [before, ei, ea, c3, c4]
        · skip
          refine CW.seq fun K5 hK5 => ?_
          have hS := hS.drew
          refine CW.draw 32 (.ex 0 <| .ex 1 <| .ex 2 <| .ex 3 <| .ex 4 <| .ex 5 <| .ex 6 <| .ex 7 <| .ex 8 <| .ex 9 <| .ex 10 <| .ex 11 <| .ex 12 <| .ex 13 <| .ex 14 <| .ex 15 <| .ex 16 <| .ex 17 <| .ex 18 <| .ex 19 <| .ex 20 <| .ex 21 <| .ex 22 <| .ex 23 <| .ex 24 <| .ex 25 <| .ex 26 <| .ex 27 <| .ex 28 <| .ex 29 <| .ex 30 <| .ex 31 <| .done) [] (Rd _ _) mixed (by kernel_rfl) rfl rfl hS.rd ?_
          refine PW.ex rfl rfl rfl rfl (Ex.move rfl) ?_
          refine PW.ex rfl rfl rfl rfl (Ex.move rfl) ?_
          refine PW.ex rfl rfl rfl rfl (Ex.indexSl Try.underlying71 ti3 rfl rfl rfl (by omega)) ?_
          refine PW.ex rfl rfl rfl rfl (Ex.load1 ti3 rfl rfl (by first | exact Rd.obj (k := 0) rfl rfl | exact Rd.obj (k := 1) rfl rfl | exact Rd.obj (k := 2) rfl rfl | exact Rd.obj (k := 3) rfl rfl | exact Rd.obj (k := 4) rfl rfl | exact Rd.imm (by assumption) | exact Rd.sl (k := 0) rfl (by assumption) | exact Rd.sl (k := 1) rfl (by assumption) | exact Rd.sl (k := 2) rfl (by assumption) | exact Rd.sl (k := 3) rfl (by assumption))) ?_
          refine PW.ex rfl rfl rfl rfl (Ex.geq rfl rfl (by first | exact decide_eq_true (by omega) | exact decide_eq_false (by omega) | rfl)) ?_
          refine PW.ex rfl rfl rfl rfl (Ex.move rfl) ?_
          refine PW.ex rfl rfl rfl rfl (Ex.move rfl) ?_
          refine PW.ex rfl rfl rfl rfl (Ex.move rfl) ?_
          refine PW.ex rfl rfl rfl rfl (Ex.indexSl Try.underlying71 ti3 rfl rfl rfl (by omega)) ?_
          refine PW.ex rfl rfl rfl rfl (Ex.load1 ti3 rfl rfl (by first | exact Rd.obj (k := 0) rfl rfl | exact Rd.obj (k := 1) rfl rfl | exact Rd.obj (k := 2) rfl rfl | exact Rd.obj (k := 3) rfl rfl | exact Rd.obj (k := 4) rfl rfl | exact Rd.imm (by assumption) | exact Rd.sl (k := 0) rfl (by assumption) | exact Rd.sl (k := 1) rfl (by assumption) | exact Rd.sl (k := 2) rfl (by assumption) | exact Rd.sl (k := 3) rfl (by assumption))) ?_
          refine PW.ex rfl rfl rfl rfl (Ex.move rfl) ?_
          refine PW.ex rfl rfl rfl rfl (Ex.move rfl) ?_
          refine PW.ex rfl rfl rfl rfl (Ex.indexSl Try.underlying71 ti3 rfl rfl rfl (by omega)) ?_
          refine PW.ex rfl rfl rfl rfl (Ex.load1 ti3 rfl rfl (by first | exact Rd.obj (k := 0) rfl rfl | exact Rd.obj (k := 1) rfl rfl | exact Rd.obj (k := 2) rfl rfl | exact Rd.obj (k := 3) rfl rfl | exact Rd.obj (k := 4) rfl rfl | exact Rd.imm (by assumption) | exact Rd.sl (k := 0) rfl (by assumption) | exact Rd.sl (k := 1) rfl (by assumption) | exact Rd.sl (k := 2) rfl (by assumption) | exact Rd.sl (k := 3) rfl (by assumption))) ?_
          refine PW.ex rfl rfl rfl rfl (Ex.lss rfl rfl (by first | exact decide_eq_true (by omega) | exact decide_eq_false (by omega) | rfl)) ?_
          refine PW.ex rfl rfl rfl rfl (Ex.move rfl) ?_
          refine PW.ex rfl rfl rfl rfl (Ex.move rfl) ?_
          refine PW.ex rfl rfl rfl rfl (Ex.move rfl) ?_
          refine PW.ex rfl rfl rfl rfl (Ex.indexSl Try.underlying71 ti3 rfl rfl rfl (by omega)) ?_
          refine PW.ex rfl rfl rfl rfl (Ex.load1 ti3 rfl rfl (by first | exact Rd.obj (k := 0) rfl rfl | exact Rd.obj (k := 1) rfl rfl | exact Rd.obj (k := 2) rfl rfl | exact Rd.obj (k := 3) rfl rfl | exact Rd.obj (k := 4) rfl rfl | exact Rd.imm (by assumption) | exact Rd.sl (k := 0) rfl (by assumption) | exact Rd.sl (k := 1) rfl (by assumption) | exact Rd.sl (k := 2) rfl (by assumption) | exact Rd.sl (k := 3) rfl (by assumption))) ?_
          refine PW.ex rfl rfl rfl rfl (Ex.move rfl) ?_
          refine PW.ex rfl rfl rfl rfl (Ex.move rfl) ?_
          refine PW.ex rfl rfl rfl rfl (Ex.indexSl Try.underlying71 ti3 rfl rfl rfl (by omega)) ?_
          refine PW.ex rfl rfl rfl rfl (Ex.load1 ti3 rfl rfl (by first | exact Rd.obj (k := 0) rfl rfl | exact Rd.obj (k := 1) rfl rfl | exact Rd.obj (k := 2) rfl rfl | exact Rd.obj (k := 3) rfl rfl | exact Rd.obj (k := 4) rfl rfl | exact Rd.imm (by assumption) | exact Rd.sl (k := 0) rfl (by assumption) | exact Rd.sl (k := 1) rfl (by assumption) | exact Rd.sl (k := 2) rfl (by assumption) | exact Rd.sl (k := 3) rfl (by assumption))) ?_
          refine PW.ex rfl rfl rfl rfl (Ex.eql rfl rfl (by first | exact decide_eq_true (by omega) | exact decide_eq_false (by omega) | rfl)) ?_
          refine PW.ex rfl rfl rfl rfl (Ex.move rfl) ?_
          refine PW.skip rfl rfl rfl rfl ?_
          refine PW.skip rfl rfl rfl rfl ?_
          refine PW.skip rfl rfl rfl rfl ?_
          refine PW.ex rfl rfl rfl rfl (by first | exact Ex.pick_yes rfl rfl | exact Ex.pick_no rfl rfl) ?_
          refine PW.ex rfl rfl rfl rfl (by first | exact Ex.pick_yes rfl rfl | exact Ex.pick_no rfl rfl) ?_
          refine PW.ex rfl rfl rfl rfl (by first | exact Ex.pick_yes rfl rfl | exact Ex.pick_no rfl rfl) ?_
          refine PW.nil ?_
          refine LW.nil fun aa ha => hK5 _ _ _ ?_ aa ha
          refine CW.no rfl (CW.skip fun aa ha => hKb _ _ _ ?_ aa ha)
          refine CW.region [0, 1, 2] rfl ?_
          refine LW.ex rfl rfl rfl rfl (Ex.move rfl) hS.rd ?_
          refine LW.ex rfl rfl rfl rfl (Ex.add rfl rfl (by first | exact inc64 (by omega) | exact addN (by omega) | exact w64 (by omega) (by omega))) hS.rd ?_
          refine LW.ex rfl rfl rfl rfl (Ex.assign rfl) hS.rd ?_
          refine LW.nil fun aa ha => ?_
          refine ⟨l.length - (i + 1), _, by omega, ⟨i + 1, n, by omega, rfl, rfl, hS, hno ?_, by omega⟩, ha.sub ⟨rfl, rfl, rfl, rfl, trivial⟩⟩
          simp [before, ei, ea, c2, c3]
    · skip
      refine CW.seq fun K5 hK5 => ?_
      have hS := hS.drew
      refine CW.draw 32 (.ex 0 <| .ex 1 <| .ex 2 <| .ex 3 <| .ex 4 <| .ex 5 <| .ex 6 <| .ex 7 <| .ex 8 <| .ex 9 <| .ex 10 <| .ex 11 <| .ex 12 <| .ex 13 <| .ex 14 <| .ex 15 <| .ex 16 <| .ex 17 <| .ex 18 <| .ex 19 <| .ex 20 <| .ex 21 <| .ex 22 <| .ex 23 <| .ex 24 <| .ex 25 <| .ex 26 <| .ex 27 <| .ex 28 <| .ex 29 <| .ex 30 <| .ex 31 <| .done) [] (Rd _ _) mixed (by kernel_rfl) rfl rfl hS.rd ?_
      refine PW.ex rfl rfl rfl rfl (Ex.move rfl) ?_
      refine PW.ex rfl rfl rfl rfl (Ex.move rfl) ?_
      refine PW.ex rfl rfl rfl rfl (Ex.indexSl Try.underlying71 ti3 rfl rfl rfl (by omega)) ?_
      refine PW.ex rfl rfl rfl rfl (Ex.load1 ti3 rfl rfl (by first | exact Rd.obj (k := 0) rfl rfl | exact Rd.obj (k := 1) rfl rfl | exact Rd.obj (k := 2) rfl rfl | exact Rd.obj (k := 3) rfl rfl | exact Rd.obj (k := 4) rfl rfl | exact Rd.imm (by assumption) | exact Rd.sl (k := 0) rfl (by assumption) | exact Rd.sl (k := 1) rfl (by assumption) | exact Rd.sl (k := 2) rfl (by assumption) | exact Rd.sl (k := 3) rfl (by assumption))) ?_
      refine PW.ex rfl rfl rfl rfl (Ex.geq rfl rfl (by first | exact decide_eq_true (by omega) | exact decide_eq_false (by omega) | rfl)) ?_
      refine PW.ex rfl rfl rfl rfl (Ex.move rfl) ?_
      refine PW.skip rfl rfl rfl rfl ?_
      refine PW.skip rfl rfl rfl rfl ?_
      refine PW.skip rfl rfl rfl rfl ?_
      refine PW.skip rfl rfl rfl rfl ?_
      refine PW.skip rfl rfl rfl rfl ?_
      refine PW.skip rfl rfl rfl rfl ?_
      refine PW.skip rfl rfl rfl rfl ?_
      refine PW.skip rfl rfl rfl rfl ?_
      refine PW.skip rfl rfl rfl rfl ?_
      refine PW.skip rfl rfl rfl rfl ?_
      refine PW.skip rfl rfl rfl rfl ?_
      refine PW.skip rfl rfl rfl rfl ?_
      refine PW.skip rfl rfl rfl rfl ?_
      refine PW.skip rfl rfl rfl rfl ?_
      refine PW.skip rfl rfl rfl rfl ?_
      refine PW.skip rfl rfl rfl rfl ?_
      refine PW.skip rfl rfl rfl rfl ?_
      refine PW.skip rfl rfl rfl rfl ?_
      refine PW.skip rfl rfl rfl rfl ?_
      refine PW.skip rfl rfl rfl rfl ?_
      refine PW.skip rfl rfl rfl rfl ?_
      refine PW.skip rfl rfl rfl rfl ?_
      refine PW.skip rfl rfl rfl rfl ?_
      refine PW.skip rfl rfl rfl rfl ?_
      refine PW.skip rfl rfl rfl rfl ?_
      refine PW.ex rfl rfl rfl rfl (by first | exact Ex.pick_yes rfl rfl | exact Ex.pick_no rfl rfl) ?_
      refine PW.nil ?_
      refine LW.nil fun aa ha => hK5 _ _ _ ?_ aa ha
      refine CW.no rfl (CW.skip fun aa ha => hKb _ _ _ ?_ aa ha)
      refine CW.region [0, 1, 2] rfl ?_
      refine LW.ex rfl rfl rfl rfl (Ex.move rfl) hS.rd ?_
      refine LW.ex rfl rfl rfl rfl (Ex.add rfl rfl (by first | exact inc64 (by omega) | exact addN (by omega) | exact w64 (by omega) (by omega))) hS.rd ?_
      refine LW.ex rfl rfl rfl rfl (Ex.assign rfl) hS.rd ?_
      refine LW.nil fun aa ha => ?_
      refine ⟨l.length - (i + 1), _, by omega, ⟨i + 1, n, by omega, rfl, rfl, hS, hno ?_, by omega⟩, ha.sub ⟨rfl, rfl, rfl, rfl, trivial⟩⟩
      simp [before, ei, c1]
  · skip
    refine CW.seq fun K3o hK3o => ?_
    refine CW.seq fun K3 hK3 => ?_
    refine CW.region [0, 1, 2, 3] rfl ?_
    refine LW.ex rfl rfl rfl rfl (Ex.move rfl) hS.rd ?_
    refine LW.ex rfl rfl rfl rfl (Ex.move rfl) hS.rd ?_
    refine LW.ex rfl rfl rfl rfl (Ex.lenSl rfl Try.underlying71 rfl) hS.rd ?_
    refine LW.ex rfl rfl rfl rfl (Ex.lss rfl rfl (by first | exact decide_eq_true (by omega) | exact decide_eq_false (by omega) | rfl)) hS.rd ?_
    refine LW.nil fun aa ha => hK3 _ _ _ ?_ aa ha
    refine CW.no rfl ?_
    refine CW.exit fun aa ha => hK2o _ _ _ ?_ aa ha
    refine CW.seq fun K7 hK7 => ?_
    refine CW.region [0, 1] rfl ?_
    refine LW.ex rfl rfl rfl rfl (Ex.move rfl) hS.rd ?_
    refine LW.ex rfl rfl rfl rfl (Ex.assign rfl) hS.rd ?_
    refine LW.nil fun aa ha => hK7 _ _ _ ?_ aa ha
    refine CW.ret fun aa ha => ?_
    refine ret_one ha Try.results30 rfl ?_
    have : i = l.length := by omega
    subst this
    rw [hn]; exact hS.retS
end Go.Proofs.Ythbglfjajifkoaa
