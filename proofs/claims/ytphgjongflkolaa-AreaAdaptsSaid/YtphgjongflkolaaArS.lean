/-
  Areas: the walks of Made, Taps and two.
-/
import Derived.Test.YtphgjongflkolaaArR
namespace Go.Proofs.Ytphgjongflkolaa
open Go.RowKit Sy Go.Sort

def C97 (i : Nat) : UInt8 := UInt8.ofNat (97 + i)
theorem C97_nat {i : Nat} (h : i < 100) : (C97 i).toNat = 97 + i := by unfold C97; rw [UInt8.toNat_ofNat']; omega
theorem c97 {i : Nat} (h : i < 100) : IntKind.u8.wrap (97 + (i : Int)) = ((C97 i).toNat : Int) := by rw [wu8 (by omega) (by omega), C97_nat h]; omega
theorem tmodN (a b : Nat) : (a : Int).tmod (b : Int) = ((a % b : Nat) : Int) := rfl
theorem tdivN (a b : Nat) : (a : Int).tdiv (b : Int) = ((a / b : Nat) : Int) := rfl

theorem tdivN' (a b : Nat) (h : a / b ≤ 9223372036854775807) : IntKind.i64.wrap ((a : Int).tdiv (b : Int)) = ((a / b : Nat) : Int) := by rw [tdivN]; generalize a / b = q at *; exact w64 (by omega) (by omega)
def bAt (l : List B2) (i : Nat) : B2 := l.getD i ⟨0, 0⟩
def wOf (b : B2) : Nat := b.a.toNat % 21
def hOf (b : B2) : Nat := b.b.toNat % 21
def stepOf (b : B2) : Nat := wOf b + 1 + b.a.toNat / 21 % 9
/-- Where the next area lies. -/
def madeX (l : List B2) : Nat → Nat
  | 0 => 0
  | i + 1 => if i % 5 = 4 then 0 else madeX l i + stepOf (bAt l i)
def madeY (i : Nat) : Nat := i / 5 * 22
def madeA (l : List B2) (i : Nat) : Area := ⟨C97 i, madeX l i, madeY i, (madeX l i : Int) + wOf (bAt l i), (madeY i : Int) + hOf (bAt l i)⟩
def made (l : List B2) : List Area := (List.range (min l.length 14)).map (madeA l)
def tplsM : List Tpl := [⟨97, [⟨0, 0⟩, ⟨20, 20⟩]⟩, ⟨98, [⟨20, 0⟩, ⟨0, 20⟩, ⟨20, 40⟩]⟩]
def chordsM : List ChordKey := [⟨⟨#[97, 98]⟩, 99⟩, ⟨⟨#[97, 98, 99]⟩, 97⟩]
def madeB (l : List B2) : Brd := ⟨made l, tplsM, chordsM⟩
def IsBoard (b : Brd) (μ : Mem) (v : Value) : Prop := ∃ a0 c0 a1 c1 a2 c2, v = .agg #[.slice a0 b.Areas.length c0, .slice a1 b.Templates.length c1, .slice a2 b.Chords.length c2] ∧ Sl μ a0 c0 b.Areas ∧ Sl μ a1 c1 b.Templates ∧ Sl μ a2 c2 b.Chords
theorem madeX_bound (l : List B2) : ∀ i, madeX l i ≤ i % 5 * 29
  | 0 => by simp [madeX]
  | i + 1 => by
    have ih := madeX_bound l i
    have h1 : stepOf (bAt l i) ≤ 29 := by unfold stepOf wOf; omega
    rw [madeX]; split <;> omega
theorem madeY_bound {i : Nat} (h : i ≤ 14) : madeY i ≤ 44 := by unfold madeY; omega

set_option maxRecDepth 100000 in
set_option maxHeartbeats 1000000 in
theorem madeM_c {l : List B2} {ad : Option Addr} {c : Nat} {μ : Mem} {w0 w : World} {L : List Own} (hS : St w0 w μ L) (hl : Sl μ ad c l) :
    Calls Try.prog 12 #[.slice ad l.length c] w (RetM fun v w' => ∃ ado co bT bQ bP bC, v = .agg #[.slice ado (made l).length co, .slice (some ⟨bT, 0, none⟩) 2 2, .slice (some ⟨bC, 0, none⟩) 2 2] ∧
      St w0 w' μ (Own.obj bT [.int .u8 97, .slice (some ⟨bP, 0, none⟩) 2 2, .int .u8 98, .slice (some ⟨bQ, 0, none⟩) 3 3] 55 :: Own.obj bQ (List.flatMap ptL [⟨20, 0⟩, ⟨0, 20⟩, ⟨20, 40⟩]) 36 :: Own.obj bP (List.flatMap ptL [⟨0, 0⟩, ⟨20, 20⟩]) 36 :: Own.sl ado (made l).length co 57 5 ((made l).flatMap areaL) :: Own.obj bC (chordsM.flatMap chordKeyL) 60 :: L)) := by
  have hll : l.length ≤ 9223372036854775807 := by have := hl.1; have := hl.2.1; simp only [maxLen] at this; omega
  refine calls_start 84 [.slice ad l.length c] Try.func12 rfl Try.ntmps12 rfl rfl ?_
  refine CW.seq fun K1 hK1 => ?_
  refine CW.region [0] rfl ?_
  refine LW.hv rfl rfl rfl rfl (Hv.alloc ti31 hS) fun v w2 ⟨b2, hv, hb2, hS⟩ => ?_
  subst hv
  refine LW.nil fun aa ha => hK1 _ _ _ ?_ aa ha
  refine CW.seq fun K2 hK2 => ?_
  refine CW.region [0, 1, 2, 3, 4, 5] rfl ?_
  refine LW.ex rfl rfl rfl rfl (Ex.buildS st60 rfl rfl rfl) hS.rd ?_
  refine LW.ex rfl rfl rfl rfl (Ex.buildS st60 rfl rfl rfl) hS.rd ?_
  refine LW.hv rfl rfl rfl rfl (Hv.buildSl hS Try.underlying29 ti60 rfl rfl rfl rfl rfl rfl) fun v w11 ⟨b11, hv, hb11, hS⟩ => ?_
  subst hv
  refine LW.ex rfl rfl rfl rfl (Ex.buildS st31 rfl rfl rfl) hS.rd ?_
  refine LW.hv rfl rfl rfl rfl (Hv.alloc ti31 hS) fun v w3 ⟨b3, hv, hb3, hS⟩ => ?_
  subst hv
  refine LW.hu rfl rfl rfl (Hv.storeN (k := 0) ti31 hS rfl rfl rfl rfl (by simp [Value.oneCell'])) fun _ w_5 hS => ?_
  dsimp only [List.set] at hS
  refine LW.nil fun aa ha => hK2 _ _ _ ?_ aa ha
  refine CW.seq fun K3 hK3 => ?_
  have hS := nil_sl 57 5 hS
  refine CW.region [0, 1] rfl ?_
  refine LW.ex rfl rfl rfl rfl (Ex.assign rfl) hS.rd ?_
  refine LW.ex rfl rfl rfl rfl (Ex.assign rfl) hS.rd ?_
  refine LW.nil fun aa ha => hK3 _ _ _ ?_ aa ha
  refine CW.seq fun K4 hK4 => ?_
  refine CW.seq fun K5 hK5 => ?_
  refine CW.region [0] rfl ?_
  refine LW.ex rfl rfl rfl rfl (Ex.assign rfl) hS.rd ?_
  refine LW.nil fun aa ha => hK5 _ _ _ ?_ aa ha
  refine CW.block ?_
  refine CW.loop (fun q m wl4 => ∃ (i n x y : Nat) (xs : List Area) (ado : Option Addr) (co : Nat), i ≤ l.length ∧ i ≤ 14 ∧ n = xs.length ∧ n = i ∧ q = l.length - i ∧ m = [(0, .slice ad l.length c), (2, .pointer (some ⟨b2, 0, none⟩)), (3, .pointer (some ⟨b3, 0, none⟩)), (4, .int .i64 x), (5, .int .i64 y), (6, .int .i64 i)] ∧ St w0 wl4 μ (Own.sl ado n co 57 5 (xs.flatMap areaL) :: Own.obj b3 [.slice ado n co, .slice none 0 0, .slice (some ⟨b11, 0, none⟩) 2 2] 31 :: Own.obj b11 [.string ⟨#[97, 98]⟩, .int .u8 99, .string ⟨#[97, 98, 99]⟩, .int .u8 97] 60 :: Own.obj b2 [.slice none 0 0, .slice none 0 0, .slice none 0 0] 31 :: L) ∧ (x = madeX l i) ∧ (y = madeY i) ∧ (xs = (List.range i).map (madeA l))) _ ⟨0, 0, 0, 0, [], none, 0, (by first | omega | (simp; done) | (simp; omega)), (by first | omega | (simp; done) | (simp; omega)), (by first | omega | (simp; done) | (simp; omega)), (by first | omega | (simp; done) | (simp; omega)), rfl, rfl, hS, rfl, rfl, rfl⟩ ⟨rfl, rfl, rfl, rfl, rfl, rfl, trivial⟩ ?_
  clear hS
  rintro q m wl4 ⟨i, n, x, y, xs, ado, co, hi, hi14, hn, hni, hq, rfl, hS, hxv, hyv, hxs⟩
  have hcap := hS.sl_cap 0 rfl
  have hxb := madeX_bound l i
  have hyb := madeY_bound hi14
  refine CW.seq fun K6 hK6 => ?_
  refine CW.seq fun K7 hK7 => ?_
  refine CW.region [0, 1, 2, 3, 4, 5, 6, 7] rfl ?_
  refine LW.ex rfl rfl rfl rfl (Ex.move rfl) hS.rd ?_
  refine LW.ex rfl rfl rfl rfl (Ex.move rfl) hS.rd ?_
  refine LW.ex rfl rfl rfl rfl (Ex.lenSl rfl Try.underlying22 rfl) hS.rd ?_
  refine LW.ex rfl rfl rfl rfl (Ex.lss rfl rfl rfl) hS.rd ?_
  refine LW.splitB (fun h4_3 => ?_) (fun h4_3 => ?_)
  · have h4_3 := of_decide_eq_true h4_3
    refine LW.ex rfl rfl rfl rfl (Ex.move rfl) hS.rd ?_
    refine LW.ex rfl rfl rfl rfl (Ex.move rfl) hS.rd ?_
    refine LW.ex rfl rfl rfl rfl (Ex.lss rfl rfl rfl) hS.rd ?_
    refine LW.splitB (fun h4_6 => ?_) (fun h4_6 => ?_)
    · have h4_6 := of_decide_eq_true h4_6
      refine LW.ex rfl rfl rfl rfl (by first | exact Ex.pick_yes rfl rfl | exact Ex.pick_no rfl rfl) hS.rd ?_
      refine LW.nil fun aa ha => hK7 _ _ _ ?_ aa ha
      refine CW.yes rfl ?_
      refine CW.skip fun aa ha => hK6 _ _ _ ?_ aa ha
      refine CW.seq fun K8 hK8 => ?_
      refine CW.block ?_
      refine CW.seq fun K9 hK9 => ?_
      have h1 : i < l.length := by omega
      have h14 : i < 14 := by omega
      obtain ⟨bl, ol, rfl, k0, k1⟩ := hl.at h1
      have hbi : l[i] = bAt l i := by unfold bAt; rw [List.getD_eq_getElem?_getD, List.getElem?_eq_getElem h1]; rfl
      rw [hbi] at k0 k1
      obtain ⟨bb, hbb⟩ : ∃ bb, bb = bAt l i := ⟨_, rfl⟩
      rw [← hbb] at k0 k1
      have hwl : wOf bb < 21 := by unfold wOf; omega
      have hhl : hOf bb < 21 := by unfold hOf; omega
      have ha8 : bb.a.toNat < 256 := bb.a.toNat_lt
      have hb8 : bb.b.toNat < 256 := bb.b.toNat_lt
      have hS := hS.drew
      refine CW.draw 16 (.ex 0 <| .ex 1 <| .ex 2 <| .ex 3 <| .ex 4 <| .ex 5 <| .ex 6 <| .ex 7 <| .ex 8 <| .ex 9 <| .ex 10 <| .ex 11 <| .ex 12 <| .ex 13 <| .ex 14 <| .ex 15 <| .done) [] (Rd _ _) mixed (by kernel_rfl) rfl rfl hS.rd ?_
      refine PW.ex rfl rfl rfl rfl (Ex.move rfl) ?_
      refine PW.ex rfl rfl rfl rfl (Ex.move rfl) ?_
      refine PW.ex rfl rfl rfl rfl (Ex.indexSl Try.underlying22 ti63 rfl rfl rfl (by omega)) ?_
      refine PW.ex rfl rfl rfl rfl (Ex.indexArr (j := 0) Try.underlying63 ti5 rfl rfl rfl (by omega)) ?_
      refine PW.ex rfl rfl rfl rfl (Ex.load1 ti5 rfl rfl (by first | exact Rd.obj (k := 0) rfl rfl | exact Rd.obj (k := 1) rfl rfl | exact Rd.obj (k := 2) rfl rfl | exact Rd.obj (k := 3) rfl rfl | exact Rd.obj (k := 4) rfl rfl | exact Rd.imm (by assumption) | exact Rd.sl (k := 0) rfl (by assumption) | exact Rd.sl (k := 1) rfl (by assumption) | exact Rd.sl (k := 2) rfl (by assumption) | exact Rd.sl (k := 3) rfl (by assumption))) ?_
      refine PW.ex rfl rfl rfl rfl (Ex.conv Try.underlying5 Try.underlying3 rfl (by first | exact w64 (by omega) (by omega) | exact wu8 (by omega) (by omega))) ?_
      refine PW.ex rfl rfl rfl rfl (Ex.rem rfl rfl (by omega) (show _ = ((wOf bb : Nat) : Int) from tmodN bb.a.toNat 21)) ?_
      refine PW.ex rfl rfl rfl rfl (Ex.move rfl) ?_
      refine PW.ex rfl rfl rfl rfl (Ex.move rfl) ?_
      refine PW.ex rfl rfl rfl rfl (Ex.indexSl Try.underlying22 ti63 rfl rfl rfl (by omega)) ?_
      refine PW.ex rfl rfl rfl rfl (Ex.indexArr (j := 1) Try.underlying63 ti5 rfl rfl rfl (by omega)) ?_
      refine PW.ex rfl rfl rfl rfl (Ex.load1 ti5 rfl rfl (by first | exact Rd.obj (k := 0) rfl rfl | exact Rd.obj (k := 1) rfl rfl | exact Rd.obj (k := 2) rfl rfl | exact Rd.obj (k := 3) rfl rfl | exact Rd.obj (k := 4) rfl rfl | exact Rd.imm (by assumption) | exact Rd.sl (k := 0) rfl (by assumption) | exact Rd.sl (k := 1) rfl (by assumption) | exact Rd.sl (k := 2) rfl (by assumption) | exact Rd.sl (k := 3) rfl (by assumption))) ?_
      refine PW.ex rfl rfl rfl rfl (Ex.conv Try.underlying5 Try.underlying3 rfl (by first | exact w64 (by omega) (by omega) | exact wu8 (by omega) (by omega))) ?_
      refine PW.ex rfl rfl rfl rfl (Ex.rem rfl rfl (by omega) (show _ = ((hOf bb : Nat) : Int) from tmodN bb.b.toNat 21)) ?_
      refine PW.ex rfl rfl rfl rfl (Ex.assign rfl) ?_
      refine PW.ex rfl rfl rfl rfl (Ex.assign rfl) ?_
      refine PW.nil ?_
      refine LW.nil fun aa ha => hK9 _ _ _ ?_ aa ha
      refine CW.seq fun K10 hK10 => ?_
      refine CW.region [0, 1, 2, 3, 4, 5, 6, 7, 8, 9, 10, 11, 12, 13, 14, 15, 16, 17] rfl ?_
      refine LW.ex rfl rfl rfl rfl (Ex.fieldO 0 Try.underlying31 rfl rfl ti27 rfl) hS.rd ?_
      refine LW.ex rfl rfl rfl rfl (Ex.load1 ti27 rfl rfl (by first | exact Rd.obj (k := 0) rfl rfl | exact Rd.obj (k := 1) rfl rfl | exact Rd.obj (k := 2) rfl rfl | exact Rd.obj (k := 3) rfl rfl | exact Rd.obj (k := 4) rfl rfl | exact Rd.imm (by assumption) | exact Rd.sl (k := 0) rfl (by assumption) | exact Rd.sl (k := 1) rfl (by assumption) | exact Rd.sl (k := 2) rfl (by assumption) | exact Rd.sl (k := 3) rfl (by assumption))) hS.rd ?_
      refine LW.ex rfl rfl rfl rfl (Ex.move rfl) hS.rd ?_
      refine LW.ex rfl rfl rfl rfl (Ex.add rfl rfl (w64 (by omega) (by omega))) hS.rd ?_
      refine LW.ex rfl rfl rfl rfl (Ex.conv Try.underlying3 Try.underlying5 rfl (c97 (by omega))) hS.rd ?_
      refine LW.ex rfl rfl rfl rfl (Ex.move rfl) hS.rd ?_
      refine LW.ex rfl rfl rfl rfl (Ex.move rfl) hS.rd ?_
      refine LW.ex rfl rfl rfl rfl (Ex.move rfl) hS.rd ?_
      refine LW.ex rfl rfl rfl rfl (Ex.move rfl) hS.rd ?_
      refine LW.ex rfl rfl rfl rfl (Ex.add rfl rfl (w64 (show (-9223372036854775808 : Int) ≤ (x : Int) + (wOf bb : Nat) by omega) (by omega))) hS.rd ?_
      refine LW.ex rfl rfl rfl rfl (Ex.move rfl) hS.rd ?_
      refine LW.ex rfl rfl rfl rfl (Ex.move rfl) hS.rd ?_
      refine LW.ex rfl rfl rfl rfl (Ex.add rfl rfl (w64 (show (-9223372036854775808 : Int) ≤ (y : Int) + (hOf bb : Nat) by omega) (by omega))) hS.rd ?_
      refine LW.ex rfl rfl rfl rfl (Ex.buildS st57 rfl rfl rfl) hS.rd ?_
      refine LW.hv rfl rfl rfl rfl (Hv.buildSl hS Try.underlying27 ti57 rfl rfl rfl rfl rfl rfl) fun v w51 ⟨b51, hv, hb51, hS⟩ => ?_
      subst hv
      refine LW.hv rfl rfl rfl rfl (Hv.append (k := 1) rfl Try.underlying27 ti57 rfl hS rfl rfl rfl rfl (Rd.objAll (k := 0) rfl hS.rd) (by simp [Value.oneCell']) (by unfold maxLen; omega) (by omega)) fun v w52 ⟨ad52, c52, hv, hS⟩ => ?_
      subst hv
      dsimp only [List.set] at hS
      have hS := hS.drop 0 rfl
      dsimp only [List.eraseIdx] at hS
      rw [show xs.flatMap areaL ++ [.int .u8 (C97 i).toNat, .int .i64 x, .int .i64 y, .int .i64 ((x : Int) + (wOf bb : Nat)), .int .i64 ((y : Int) + (hOf bb : Nat))] = (xs ++ [madeA l i]).flatMap areaL by rw [List.flatMap_append, hxv, hyv, hbb]; rfl] at hS
      refine LW.ex rfl rfl rfl rfl (Ex.fieldO 0 Try.underlying31 rfl rfl ti27 rfl) hS.rd ?_
      refine LW.hu rfl rfl rfl (Hv.storeObj (k := 1) ti27 hS rfl rfl rfl rfl (by first | (simp; done) | omega)) fun _ w_17 hS => ?_
      dsimp only [List.set] at hS
      refine LW.nil fun aa ha => hK10 _ _ _ ?_ aa ha
      refine CW.seq fun K11 hK11 => ?_
      refine CW.region [0, 1, 2, 3, 4, 5, 6, 7, 8, 9, 10, 11, 12, 13] rfl ?_
      refine LW.ex rfl rfl rfl rfl (Ex.move rfl) hS.rd ?_
      refine LW.ex rfl rfl rfl rfl (Ex.move rfl) hS.rd ?_
      refine LW.ex rfl rfl rfl rfl (Ex.add rfl rfl (inc64 (i := wOf bb) (by omega))) hS.rd ?_
      refine LW.ex rfl rfl rfl rfl (Ex.move rfl) hS.rd ?_
      refine LW.ex rfl rfl rfl rfl (Ex.move rfl) hS.rd ?_
      refine LW.ex rfl rfl rfl rfl (Ex.indexSl Try.underlying22 ti63 rfl rfl rfl (by omega)) hS.rd ?_
      refine LW.ex rfl rfl rfl rfl (Ex.indexArr (j := 0) Try.underlying63 ti5 rfl rfl rfl (by omega)) hS.rd ?_
      refine LW.ex rfl rfl rfl rfl (Ex.load1 ti5 rfl rfl (by first | exact Rd.obj (k := 0) rfl rfl | exact Rd.obj (k := 1) rfl rfl | exact Rd.obj (k := 2) rfl rfl | exact Rd.obj (k := 3) rfl rfl | exact Rd.obj (k := 4) rfl rfl | exact Rd.imm (by assumption) | exact Rd.sl (k := 0) rfl (by assumption) | exact Rd.sl (k := 1) rfl (by assumption) | exact Rd.sl (k := 2) rfl (by assumption) | exact Rd.sl (k := 3) rfl (by assumption))) hS.rd ?_
      refine LW.ex rfl rfl rfl rfl (Ex.conv Try.underlying5 Try.underlying3 rfl (by first | exact w64 (by omega) (by omega) | exact wu8 (by omega) (by omega))) hS.rd ?_
      refine LW.ex rfl rfl rfl rfl (Ex.quo rfl rfl (by omega) (tdivN' bb.a.toNat 21 (by omega))) hS.rd ?_
      refine LW.ex rfl rfl rfl rfl (Ex.rem rfl rfl (by omega) (tmodN (bb.a.toNat / 21) 9)) hS.rd ?_
      refine LW.ex rfl rfl rfl rfl (Ex.add rfl rfl (addN (i := wOf bb + 1) (j := bb.a.toNat / 21 % 9) (by omega))) hS.rd ?_
      refine LW.ex rfl rfl rfl rfl (Ex.add rfl rfl (addN (i := x) (j := wOf bb + 1 + bb.a.toNat / 21 % 9) (by omega))) hS.rd ?_
      refine LW.ex rfl rfl rfl rfl (Ex.assign rfl) hS.rd ?_
      refine LW.nil fun aa ha => hK11 _ _ _ ?_ aa ha
      refine CW.seq fun K12 hK12 => ?_
      refine CW.region [0, 1, 2] rfl ?_
      refine LW.ex rfl rfl rfl rfl (Ex.move rfl) hS.rd ?_
      refine LW.ex rfl rfl rfl rfl (Ex.rem rfl rfl (by omega) (tmodN i 5)) hS.rd ?_
      refine LW.ex rfl rfl rfl rfl (Ex.eql rfl rfl rfl) hS.rd ?_
      refine LW.splitB (fun h9_2 => ?_) (fun h9_2 => ?_)
      · have h9_2 := of_decide_eq_true h9_2
        refine LW.nil fun aa ha => hK12 _ _ _ ?_ aa ha
        refine CW.yes rfl ?_
        refine CW.region [0, 1, 2, 3] rfl ?_
        refine LW.ex rfl rfl rfl rfl (Ex.move rfl) hS.rd ?_
        refine LW.ex rfl rfl rfl rfl (Ex.add rfl rfl (addN (i := y) (j := 22) (by omega))) hS.rd ?_
        refine LW.ex rfl rfl rfl rfl (Ex.assign rfl) hS.rd ?_
        refine LW.ex rfl rfl rfl rfl (Ex.assign rfl) hS.rd ?_
        refine LW.nil fun aa ha => hK8 _ _ _ ?_ aa ha
        refine CW.region [0, 1, 2] rfl ?_
        refine LW.ex rfl rfl rfl rfl (Ex.move rfl) hS.rd ?_
        refine LW.ex rfl rfl rfl rfl (Ex.add rfl rfl (by first | exact inc64 (by omega) | exact addN (by omega) | exact w64 (by omega) (by omega))) hS.rd ?_
        refine LW.ex rfl rfl rfl rfl (Ex.assign rfl) hS.rd ?_
        refine LW.nil fun aa ha => ?_
        refine ⟨_, _, ?m4, ⟨i + 1, n + 1, 0, y + 22, xs ++ [madeA l i], _, _, (by first | omega | (simp; done) | (simp; omega)), (by first | omega | (simp; done) | (simp; omega)), (by first | omega | (simp; done) | (simp; omega)), (by first | omega | (simp; done) | (simp; omega)), rfl, rfl, hS, ?_, ?_, ?_⟩, ha.sub ⟨rfl, rfl, rfl, rfl, rfl, rfl, trivial⟩⟩
        case m4 => omega
        · rw [madeX, if_pos (by omega)]
        · rw [hyv]; unfold madeY; omega
        · rw [hxs, List.range_succ, List.map_append]; rfl
      · have h9_2 := of_decide_eq_false h9_2
        refine LW.nil fun aa ha => hK12 _ _ _ ?_ aa ha
        refine CW.no rfl ?_
        refine CW.skip fun aa ha => hK8 _ _ _ ?_ aa ha
        refine CW.region [0, 1, 2] rfl ?_
        refine LW.ex rfl rfl rfl rfl (Ex.move rfl) hS.rd ?_
        refine LW.ex rfl rfl rfl rfl (Ex.add rfl rfl (by first | exact inc64 (by omega) | exact addN (by omega) | exact w64 (by omega) (by omega))) hS.rd ?_
        refine LW.ex rfl rfl rfl rfl (Ex.assign rfl) hS.rd ?_
        refine LW.nil fun aa ha => ?_
        refine ⟨_, _, ?m4, ⟨i + 1, n + 1, x + (wOf bb + 1 + bb.a.toNat / 21 % 9), y, xs ++ [madeA l i], _, _, (by first | omega | (simp; done) | (simp; omega)), (by first | omega | (simp; done) | (simp; omega)), (by first | omega | (simp; done) | (simp; omega)), (by first | omega | (simp; done) | (simp; omega)), rfl, rfl, hS, ?_, ?_, ?_⟩, ha.sub ⟨rfl, rfl, rfl, rfl, rfl, rfl, trivial⟩⟩
        case m4 => omega
        · rw [madeX, if_neg (by omega), ← hxv, ← hbb]; rfl
        · rw [hyv]; unfold madeY; omega
        · rw [hxs, List.range_succ, List.map_append]; rfl
    · have h4_6 := of_decide_eq_false h4_6
      refine LW.ex rfl rfl rfl rfl (by first | exact Ex.pick_yes rfl rfl | exact Ex.pick_no rfl rfl) hS.rd ?_
      refine LW.nil fun aa ha => hK7 _ _ _ ?_ aa ha
      refine CW.no rfl ?_
      refine CW.exit fun aa ha => hK4 _ _ _ ?_ aa ha
      refine CW.seq fun K13 hK13 => ?_
      refine CW.region [0, 1, 2, 3, 4, 5, 6, 7, 8, 9, 10, 11] rfl ?_
      refine LW.ex rfl rfl rfl rfl (Ex.buildS st36 rfl rfl rfl) hS.rd ?_
      refine LW.ex rfl rfl rfl rfl (Ex.buildS st36 rfl rfl rfl) hS.rd ?_
      refine LW.hv rfl rfl rfl rfl (Hv.buildSl hS Try.underlying53 ti36 rfl rfl rfl rfl rfl rfl) fun v w74 ⟨b74, hv, hb74, hS⟩ => ?_
      subst hv
      refine LW.ex rfl rfl rfl rfl (Ex.buildS st55 rfl rfl rfl) hS.rd ?_
      refine LW.ex rfl rfl rfl rfl (Ex.buildS st36 rfl rfl rfl) hS.rd ?_
      refine LW.ex rfl rfl rfl rfl (Ex.buildS st36 rfl rfl rfl) hS.rd ?_
      refine LW.ex rfl rfl rfl rfl (Ex.buildS st36 rfl rfl rfl) hS.rd ?_
      refine LW.hv rfl rfl rfl rfl (Hv.buildSl hS Try.underlying53 ti36 rfl rfl rfl rfl rfl rfl) fun v w79 ⟨b79, hv, hb79, hS⟩ => ?_
      subst hv
      refine LW.ex rfl rfl rfl rfl (Ex.buildS st55 rfl rfl rfl) hS.rd ?_
      refine LW.hv rfl rfl rfl rfl (Hv.buildSl hS Try.underlying28 ti55 rfl rfl rfl rfl rfl rfl) fun v w81 ⟨b81, hv, hb81, hS⟩ => ?_
      subst hv
      refine LW.ex rfl rfl rfl rfl (Ex.fieldO 1 Try.underlying31 rfl rfl ti28 rfl) hS.rd ?_
      refine LW.hu rfl rfl rfl (Hv.storeObj (k := 4) ti28 hS rfl rfl rfl rfl (by first | (simp; done) | omega)) fun _ w_11 hS => ?_
      dsimp only [List.set] at hS
      refine LW.nil fun aa ha => hK13 _ _ _ ?_ aa ha
      refine CW.seq fun K14 hK14 => ?_
      refine CW.region [0, 1] rfl ?_
      refine LW.ex rfl rfl rfl rfl (Ex.load3c ti31 rfl rfl (by first | exact Rd.obj (k := 0) rfl rfl | exact Rd.obj (k := 1) rfl rfl | exact Rd.obj (k := 2) rfl rfl | exact Rd.obj (k := 3) rfl rfl | exact Rd.obj (k := 4) rfl rfl | exact Rd.imm (by assumption) | exact Rd.sl (k := 0) rfl (by assumption) | exact Rd.sl (k := 1) rfl (by assumption) | exact Rd.sl (k := 2) rfl (by assumption) | exact Rd.sl (k := 3) rfl (by assumption)) (by first | exact Rd.obj (k := 0) rfl rfl | exact Rd.obj (k := 1) rfl rfl | exact Rd.obj (k := 2) rfl rfl | exact Rd.obj (k := 3) rfl rfl | exact Rd.obj (k := 4) rfl rfl | exact Rd.imm (by assumption) | exact Rd.sl (k := 0) rfl (by assumption) | exact Rd.sl (k := 1) rfl (by assumption) | exact Rd.sl (k := 2) rfl (by assumption) | exact Rd.sl (k := 3) rfl (by assumption)) (by first | exact Rd.obj (k := 0) rfl rfl | exact Rd.obj (k := 1) rfl rfl | exact Rd.obj (k := 2) rfl rfl | exact Rd.obj (k := 3) rfl rfl | exact Rd.obj (k := 4) rfl rfl | exact Rd.imm (by assumption) | exact Rd.sl (k := 0) rfl (by assumption) | exact Rd.sl (k := 1) rfl (by assumption) | exact Rd.sl (k := 2) rfl (by assumption) | exact Rd.sl (k := 3) rfl (by assumption))) hS.rd ?_
      refine LW.hu rfl rfl rfl (Hv.storeN (k := 6) ti31 hS rfl rfl rfl rfl (by simp [Value.oneCell'])) fun _ w_1 hS => ?_
      dsimp only [List.set] at hS
      refine LW.nil fun aa ha => hK14 _ _ _ ?_ aa ha
      refine CW.ret fun aa ha => ?_
      refine ret_cell ha Try.results12 rfl ti31 rfl (fun j v hv => Rd.objAll (k := 6) rfl hS.rd j v hv) ?_
      have hxe : xs = made l := by rw [hxs]; unfold made; congr 2; omega
      rw [hn, hxe] at hS
      have hS := hS.drop 6 rfl
      dsimp only [List.eraseIdx] at hS
      have hS := hS.drop 4 rfl
      dsimp only [List.eraseIdx] at hS
      refine ⟨_, rfl, ado, co, _, _, _, _, ?_, hS⟩
      rw [← hxe, ← hn]
  · have h4_3 := of_decide_eq_false h4_3
    refine LW.ex rfl rfl rfl rfl (Ex.move rfl) hS.rd ?_
    refine LW.skip rfl rfl rfl rfl ?_
    refine LW.skip rfl rfl rfl rfl ?_
    refine LW.ex rfl rfl rfl rfl (by first | exact Ex.pick_yes rfl rfl | exact Ex.pick_no rfl rfl) hS.rd ?_
    refine LW.nil fun aa ha => hK7 _ _ _ ?_ aa ha
    refine CW.no rfl ?_
    refine CW.exit fun aa ha => hK4 _ _ _ ?_ aa ha
    refine CW.seq fun K15 hK15 => ?_
    refine CW.region [0, 1, 2, 3, 4, 5, 6, 7, 8, 9, 10, 11] rfl ?_
    refine LW.ex rfl rfl rfl rfl (Ex.buildS st36 rfl rfl rfl) hS.rd ?_
    refine LW.ex rfl rfl rfl rfl (Ex.buildS st36 rfl rfl rfl) hS.rd ?_
    refine LW.hv rfl rfl rfl rfl (Hv.buildSl hS Try.underlying53 ti36 rfl rfl rfl rfl rfl rfl) fun v w74 ⟨b74, hv, hb74, hS⟩ => ?_
    subst hv
    refine LW.ex rfl rfl rfl rfl (Ex.buildS st55 rfl rfl rfl) hS.rd ?_
    refine LW.ex rfl rfl rfl rfl (Ex.buildS st36 rfl rfl rfl) hS.rd ?_
    refine LW.ex rfl rfl rfl rfl (Ex.buildS st36 rfl rfl rfl) hS.rd ?_
    refine LW.ex rfl rfl rfl rfl (Ex.buildS st36 rfl rfl rfl) hS.rd ?_
    refine LW.hv rfl rfl rfl rfl (Hv.buildSl hS Try.underlying53 ti36 rfl rfl rfl rfl rfl rfl) fun v w79 ⟨b79, hv, hb79, hS⟩ => ?_
    subst hv
    refine LW.ex rfl rfl rfl rfl (Ex.buildS st55 rfl rfl rfl) hS.rd ?_
    refine LW.hv rfl rfl rfl rfl (Hv.buildSl hS Try.underlying28 ti55 rfl rfl rfl rfl rfl rfl) fun v w81 ⟨b81, hv, hb81, hS⟩ => ?_
    subst hv
    refine LW.ex rfl rfl rfl rfl (Ex.fieldO 1 Try.underlying31 rfl rfl ti28 rfl) hS.rd ?_
    refine LW.hu rfl rfl rfl (Hv.storeObj (k := 4) ti28 hS rfl rfl rfl rfl (by first | (simp; done) | omega)) fun _ w_11 hS => ?_
    dsimp only [List.set] at hS
    refine LW.nil fun aa ha => hK15 _ _ _ ?_ aa ha
    refine CW.seq fun K16 hK16 => ?_
    refine CW.region [0, 1] rfl ?_
    refine LW.ex rfl rfl rfl rfl (Ex.load3c ti31 rfl rfl (by first | exact Rd.obj (k := 0) rfl rfl | exact Rd.obj (k := 1) rfl rfl | exact Rd.obj (k := 2) rfl rfl | exact Rd.obj (k := 3) rfl rfl | exact Rd.obj (k := 4) rfl rfl | exact Rd.imm (by assumption) | exact Rd.sl (k := 0) rfl (by assumption) | exact Rd.sl (k := 1) rfl (by assumption) | exact Rd.sl (k := 2) rfl (by assumption) | exact Rd.sl (k := 3) rfl (by assumption)) (by first | exact Rd.obj (k := 0) rfl rfl | exact Rd.obj (k := 1) rfl rfl | exact Rd.obj (k := 2) rfl rfl | exact Rd.obj (k := 3) rfl rfl | exact Rd.obj (k := 4) rfl rfl | exact Rd.imm (by assumption) | exact Rd.sl (k := 0) rfl (by assumption) | exact Rd.sl (k := 1) rfl (by assumption) | exact Rd.sl (k := 2) rfl (by assumption) | exact Rd.sl (k := 3) rfl (by assumption)) (by first | exact Rd.obj (k := 0) rfl rfl | exact Rd.obj (k := 1) rfl rfl | exact Rd.obj (k := 2) rfl rfl | exact Rd.obj (k := 3) rfl rfl | exact Rd.obj (k := 4) rfl rfl | exact Rd.imm (by assumption) | exact Rd.sl (k := 0) rfl (by assumption) | exact Rd.sl (k := 1) rfl (by assumption) | exact Rd.sl (k := 2) rfl (by assumption) | exact Rd.sl (k := 3) rfl (by assumption))) hS.rd ?_
    refine LW.hu rfl rfl rfl (Hv.storeN (k := 6) ti31 hS rfl rfl rfl rfl (by simp [Value.oneCell'])) fun _ w_1 hS => ?_
    dsimp only [List.set] at hS
    refine LW.nil fun aa ha => hK16 _ _ _ ?_ aa ha
    refine CW.ret fun aa ha => ?_
    refine ret_cell ha Try.results12 rfl ti31 rfl (fun j v hv => Rd.objAll (k := 6) rfl hS.rd j v hv) ?_
    have hxe : xs = made l := by rw [hxs]; unfold made; congr 2; omega
    rw [hn, hxe] at hS
    have hS := hS.drop 6 rfl
    dsimp only [List.eraseIdx] at hS
    have hS := hS.drop 4 rfl
    dsimp only [List.eraseIdx] at hS
    refine ⟨_, rfl, ado, co, _, _, _, _, ?_, hS⟩
    rw [← hxe, ← hn]
theorem made_c (l : List B2) (ad : Option Addr) (c : Nat) (μ : Mem) (w : World) (hμ : Imm μ w) (hl : Sl μ ad c l) :
    Calls Try.prog 12 #[.slice ad l.length c] w (RetV w μ (IsBoard (madeB l))) := by
  refine (madeM_c (St.start w μ hμ) hl).mono fun e w' h => ?_
  obtain ⟨v, rfl, ado, co, bT, bQ, bP, bC, rfl, hS⟩ := h
  obtain ⟨bs, μ1, hm1, hS, hφ⟩ := hS.shut 3 rfl
  have hs0 : Sl μ1 ado co (made l) := Sl.of_own hφ (areaReps _ _) rfl
  obtain ⟨μ2, hm2, hS, hs2⟩ := hS.shutRow 1 rfl (ptReps μ1 [⟨20, 0⟩, ⟨0, 20⟩, ⟨20, 40⟩]) (by simp [maxLen])
  obtain ⟨μ3, hm3, hS, hs3⟩ := hS.shutRow 1 rfl (ptReps μ2 [⟨0, 0⟩, ⟨20, 20⟩]) (by simp [maxLen])
  have hrp : RepL μ3 [.int .u8 97, .slice (some ⟨bP, 0, none⟩) 2 2, .int .u8 98, .slice (some ⟨bQ, 0, none⟩) 3 3] tplsM := ((RepL.nil (α := Tpl) μ3).snoc (vs := [.int .u8 97, .slice (some ⟨bP, 0, none⟩) 2 2]) (x := (⟨97, [⟨0, 0⟩, ⟨20, 20⟩]⟩ : Tpl)) rfl ⟨rfl, _, _, rfl, hs3⟩).snoc (vs := [.int .u8 98, .slice (some ⟨bQ, 0, none⟩) 3 3]) (x := (⟨98, [⟨20, 0⟩, ⟨0, 20⟩, ⟨20, 40⟩]⟩ : Tpl)) rfl ⟨rfl, _, _, rfl, hs2.mono hm3⟩
  obtain ⟨μ4, hm4, hS, hs4⟩ := hS.shutRow 0 rfl hrp (by simp [maxLen, tplsM])
  obtain ⟨μ5, hm5, hS, hs5⟩ := hS.shutRow 0 rfl (chordKeyReps μ4 chordsM) (by simp [maxLen, chordsM])
  exact ⟨_, μ5, rfl, hS.below, (((hm1.trans hm2).trans hm3).trans hm4).trans hm5, hS.imm, ado, co, _, _, _, _, rfl, ((((hs0.mono hm2).mono hm3).mono hm4).mono hm5), hs4.mono hm5, hs5⟩

def uOf (c : Int) : Int := (c % 256) % 63
def tAt (l : List I3) (i : Nat) : I3 := l.getD i ⟨0, 0, 0⟩
def tapOf (l : List I3) (i : Nat) : Tap := ⟨C97 i, (tAt l i).a * 3, (tAt l i).b * 3, 1 + uOf (tAt l i).c⟩
def tapsM (l : List I3) : List Tap := (List.range (min l.length 6)).map (tapOf l)
def IsTaps (xs : List Tap) (μ : Mem) (v : Value) : Prop := ∃ ad c, v = .slice ad xs.length c ∧ Sl μ ad c xs
theorem wu8m (c : Int) : IntKind.u8.wrap c = c % 256 := IntKind.wrap_u8 c
theorem tmod_pos {a b : Int} (h : 0 ≤ a) : a.tmod b = a % b := Int.tmod_eq_emod_of_nonneg h
set_option maxRecDepth 100000 in
theorem taps_made_c (l : List I3) (ad : Option Addr) (c : Nat) (μ : Mem) (w : World) (hμ : Imm μ w) (hl : Sl μ ad c l) :
    Calls Try.prog 13 #[.slice ad l.length c] w (RetV w μ (IsTaps (tapsM l))) := by
  have hll : l.length ≤ 9223372036854775807 := by have := hl.1; have := hl.2.1; simp only [maxLen] at this; omega
  have hS := St.start w μ hμ
  refine calls_start 47 [.slice ad l.length c] Try.func13 rfl Try.ntmps13 rfl rfl ?_
  refine CW.seq fun K17 hK17 => ?_
  refine CW.region [0] rfl ?_
  refine LW.ex rfl rfl rfl rfl (Ex.assign rfl) hS.rd ?_
  refine LW.nil fun aa ha => hK17 _ _ _ ?_ aa ha
  refine CW.seq fun K18 hK18 => ?_
  refine CW.region [0, 1] rfl ?_
  refine LW.hv rfl rfl rfl rfl (Hv.buildSl hS Try.underlying33 ti82 rfl rfl rfl rfl rfl rfl) fun v w5 ⟨b5, hv, hb5, hS⟩ => ?_
  subst hv
  have hS : St w _ μ [Own.sl (some ⟨b5, 0, none⟩) 0 0 82 4 []] := hS.row_sl (k := 0) rfl 0 4 rfl (by simp [maxLen])
  refine LW.ex rfl rfl rfl rfl (Ex.assign rfl) hS.rd ?_
  refine LW.nil fun aa ha => hK18 _ _ _ ?_ aa ha
  refine CW.seq fun K19 hK19 => ?_
  refine CW.seq fun K20 hK20 => ?_
  refine CW.region [0] rfl ?_
  refine LW.ex rfl rfl rfl rfl (Ex.assign rfl) hS.rd ?_
  refine LW.nil fun aa ha => hK20 _ _ _ ?_ aa ha
  refine CW.block ?_
  refine CW.loop (fun q m wl3 => ∃ (i n : Nat) (xs : List Tap) (ado : Option Addr) (co : Nat), i ≤ l.length ∧ i ≤ 6 ∧ n = xs.length ∧ n = i ∧ q = l.length - i ∧ m = [(0, .slice ad l.length c), (3, .slice ado n co), (4, .int .i64 i)] ∧ St w wl3 μ [Own.sl ado n co 82 4 (xs.flatMap tapL)] ∧ (xs = (List.range i).map (tapOf l))) _ ⟨0, 0, [], _, _, (by first | omega | (simp; done) | (simp; omega)), (by first | omega | (simp; done) | (simp; omega)), (by first | omega | (simp; done) | (simp; omega)), (by first | omega | (simp; done) | (simp; omega)), rfl, rfl, hS, rfl⟩ ⟨rfl, rfl, rfl, trivial⟩ ?_
  clear hS
  rintro q m wl3 ⟨i, n, xs, ado, co, hi, hi6, hn, hni, hq, rfl, hS, hxs⟩
  have hcap := hS.sl_cap 0 rfl
  refine CW.seq fun K21 hK21 => ?_
  refine CW.seq fun K22 hK22 => ?_
  refine CW.region [0, 1, 2, 3, 4, 5, 6, 7] rfl ?_
  refine LW.ex rfl rfl rfl rfl (Ex.move rfl) hS.rd ?_
  refine LW.ex rfl rfl rfl rfl (Ex.move rfl) hS.rd ?_
  refine LW.ex rfl rfl rfl rfl (Ex.lenSl rfl Try.underlying23 rfl) hS.rd ?_
  refine LW.ex rfl rfl rfl rfl (Ex.lss rfl rfl rfl) hS.rd ?_
  refine LW.splitB (fun h3_3 => ?_) (fun h3_3 => ?_)
  · have h3_3 := of_decide_eq_true h3_3
    refine LW.ex rfl rfl rfl rfl (Ex.move rfl) hS.rd ?_
    refine LW.ex rfl rfl rfl rfl (Ex.move rfl) hS.rd ?_
    refine LW.ex rfl rfl rfl rfl (Ex.lss rfl rfl rfl) hS.rd ?_
    refine LW.splitB (fun h3_6 => ?_) (fun h3_6 => ?_)
    · have h3_6 := of_decide_eq_true h3_6
      refine LW.ex rfl rfl rfl rfl (by first | exact Ex.pick_yes rfl rfl | exact Ex.pick_no rfl rfl) hS.rd ?_
      refine LW.nil fun aa ha => hK22 _ _ _ ?_ aa ha
      refine CW.yes rfl ?_
      refine CW.skip fun aa ha => hK21 _ _ _ ?_ aa ha
      refine CW.seq fun K23 hK23 => ?_
      refine CW.block ?_
      have h1 : i < l.length := by omega
      obtain ⟨bl, ol, rfl, k0, k1, k2⟩ := hl.at h1
      have hbi : l[i] = tAt l i := by unfold tAt; rw [List.getD_eq_getElem?_getD, List.getElem?_eq_getElem h1]; rfl
      rw [hbi] at k0 k1 k2
      obtain ⟨k0, k0a, k0b⟩ := k0
      obtain ⟨k1, k1a, k1b⟩ := k1
      obtain ⟨k2, k2a, k2b⟩ := k2
      have hS := hS.drew
      refine CW.draw 29 (.ex 0 <| .ex 1 <| .ex 2 <| .ex 3 <| .ex 4 <| .ex 5 <| .ex 6 <| .ex 7 <| .ex 8 <| .ex 9 <| .ex 10 <| .ex 11 <| .ex 12 <| .ex 13 <| .ex 14 <| .ex 15 <| .ex 16 <| .ex 17 <| .ex 18 <| .ex 19 <| .ex 20 <| .ex 21 <| .ex 22 <| .ex 23 <| .ex 24 <| .ex 25 <| .ex 26 <| .ex 27 <| .one 28 <| .done) [29, 30] (Rd _ _) mixed (by kernel_rfl) rfl rfl hS.rd ?_
      refine PW.ex rfl rfl rfl rfl (Ex.move rfl) ?_
      refine PW.ex rfl rfl rfl rfl (Ex.move rfl) ?_
      refine PW.ex rfl rfl rfl rfl (Ex.add rfl rfl (w64 (by omega) (by omega))) ?_
      refine PW.ex rfl rfl rfl rfl (Ex.conv Try.underlying3 Try.underlying5 rfl (c97 (by omega))) ?_
      refine PW.ex rfl rfl rfl rfl (Ex.move rfl) ?_
      refine PW.ex rfl rfl rfl rfl (Ex.move rfl) ?_
      refine PW.ex rfl rfl rfl rfl (Ex.indexSl Try.underlying23 ti84 rfl rfl rfl (by omega)) ?_
      refine PW.ex rfl rfl rfl rfl (Ex.indexArr (j := 0) Try.underlying84 ti83 rfl rfl rfl (by omega)) ?_
      refine PW.ex rfl rfl rfl rfl (Ex.load1 ti83 rfl rfl (by first | exact Rd.obj (k := 0) rfl rfl | exact Rd.obj (k := 1) rfl rfl | exact Rd.obj (k := 2) rfl rfl | exact Rd.obj (k := 3) rfl rfl | exact Rd.obj (k := 4) rfl rfl | exact Rd.imm (by assumption) | exact Rd.sl (k := 0) rfl (by assumption) | exact Rd.sl (k := 1) rfl (by assumption) | exact Rd.sl (k := 2) rfl (by assumption) | exact Rd.sl (k := 3) rfl (by assumption))) ?_
      refine PW.ex rfl rfl rfl rfl (Ex.conv Try.underlying83 Try.underlying3 rfl (by first | exact w64 (by omega) (by omega) | exact wu8 (by omega) (by omega))) ?_
      refine PW.ex rfl rfl rfl rfl (Ex.mul rfl rfl (by first | exact w64 (by omega) (by omega))) ?_
      refine PW.ex rfl rfl rfl rfl (Ex.move rfl) ?_
      refine PW.ex rfl rfl rfl rfl (Ex.move rfl) ?_
      refine PW.ex rfl rfl rfl rfl (Ex.indexSl Try.underlying23 ti84 rfl rfl rfl (by omega)) ?_
      refine PW.ex rfl rfl rfl rfl (Ex.indexArr (j := 1) Try.underlying84 ti83 rfl rfl rfl (by omega)) ?_
      refine PW.ex rfl rfl rfl rfl (Ex.load1 ti83 rfl rfl (by first | exact Rd.obj (k := 0) rfl rfl | exact Rd.obj (k := 1) rfl rfl | exact Rd.obj (k := 2) rfl rfl | exact Rd.obj (k := 3) rfl rfl | exact Rd.obj (k := 4) rfl rfl | exact Rd.imm (by assumption) | exact Rd.sl (k := 0) rfl (by assumption) | exact Rd.sl (k := 1) rfl (by assumption) | exact Rd.sl (k := 2) rfl (by assumption) | exact Rd.sl (k := 3) rfl (by assumption))) ?_
      refine PW.ex rfl rfl rfl rfl (Ex.conv Try.underlying83 Try.underlying3 rfl (by first | exact w64 (by omega) (by omega) | exact wu8 (by omega) (by omega))) ?_
      refine PW.ex rfl rfl rfl rfl (Ex.mul rfl rfl (by first | exact w64 (by omega) (by omega))) ?_
      refine PW.ex rfl rfl rfl rfl (Ex.move rfl) ?_
      refine PW.ex rfl rfl rfl rfl (Ex.move rfl) ?_
      refine PW.ex rfl rfl rfl rfl (Ex.indexSl Try.underlying23 ti84 rfl rfl rfl (by omega)) ?_
      refine PW.ex rfl rfl rfl rfl (Ex.indexArr (j := 2) Try.underlying84 ti83 rfl rfl rfl (by omega)) ?_
      refine PW.ex rfl rfl rfl rfl (Ex.load1 ti83 rfl rfl (by first | exact Rd.obj (k := 0) rfl rfl | exact Rd.obj (k := 1) rfl rfl | exact Rd.obj (k := 2) rfl rfl | exact Rd.obj (k := 3) rfl rfl | exact Rd.obj (k := 4) rfl rfl | exact Rd.imm (by assumption) | exact Rd.sl (k := 0) rfl (by assumption) | exact Rd.sl (k := 1) rfl (by assumption) | exact Rd.sl (k := 2) rfl (by assumption) | exact Rd.sl (k := 3) rfl (by assumption))) ?_
      refine PW.ex rfl rfl rfl rfl (Ex.conv Try.underlying83 Try.underlying5 rfl (wu8m _)) ?_
      refine PW.ex rfl rfl rfl rfl (Ex.conv Try.underlying5 Try.underlying3 rfl (by first | exact w64 (by omega) (by omega) | exact wu8 (by omega) (by omega))) ?_
      refine PW.ex rfl rfl rfl rfl (Ex.rem rfl rfl (by omega) (show _ = uOf (tAt l i).c from tmod_pos (by omega))) ?_
      refine PW.ex rfl rfl rfl rfl (Ex.add rfl rfl (w64 (by unfold uOf; omega) (by unfold uOf; omega))) ?_
      refine PW.ex rfl rfl rfl rfl (Ex.buildS st82 rfl rfl rfl) ?_
      refine PW.hv rfl rfl rfl rfl (Hv.buildSl hS Try.underlying33 ti82 rfl rfl rfl rfl rfl rfl) (fun _ _ ⟨_, _, _, h⟩ => h.rd.tail) fun v w44 ⟨b44, hv, hb44, hS⟩ => ?_
      subst hv
      refine PW.nil ?_
      refine LW.hv rfl rfl rfl rfl (Hv.append (k := 1) rfl Try.underlying33 ti82 rfl hS rfl rfl rfl rfl (Rd.objAll (k := 0) rfl hS.rd) (by simp [Value.oneCell']) (by unfold maxLen; omega) (by omega)) fun v w45 ⟨ad45, c45, hv, hS⟩ => ?_
      subst hv
      dsimp only [List.set] at hS
      have hS := hS.drop 0 rfl
      dsimp only [List.eraseIdx] at hS
      rw [show xs.flatMap tapL ++ [.int .u8 (C97 i).toNat, .int .i64 ((tAt l i).a * 3), .int .i64 ((tAt l i).b * 3), .int .i64 (1 + uOf (tAt l i).c)] = (xs ++ [tapOf l i]).flatMap tapL by rw [List.flatMap_append]; rfl] at hS
      refine LW.ex rfl rfl rfl rfl (Ex.assign rfl) hS.rd ?_
      refine LW.nil fun aa ha => hK23 _ _ _ ?_ aa ha
      refine CW.region [0, 1, 2] rfl ?_
      refine LW.ex rfl rfl rfl rfl (Ex.move rfl) hS.rd ?_
      refine LW.ex rfl rfl rfl rfl (Ex.add rfl rfl (by first | exact inc64 (by omega) | exact addN (by omega) | exact w64 (by omega) (by omega))) hS.rd ?_
      refine LW.ex rfl rfl rfl rfl (Ex.assign rfl) hS.rd ?_
      refine LW.nil fun aa ha => ?_
      refine ⟨_, _, ?m3, ⟨i + 1, n + 1, xs ++ [tapOf l i], _, _, (by first | omega | (simp; done) | (simp; omega)), (by first | omega | (simp; done) | (simp; omega)), (by first | omega | (simp; done) | (simp; omega)), (by first | omega | (simp; done) | (simp; omega)), rfl, rfl, hS, ?_⟩, ha.sub ⟨rfl, rfl, rfl, trivial⟩⟩
      case m3 => omega
      rw [hxs, List.range_succ, List.map_append]; rfl
    · have h3_6 := of_decide_eq_false h3_6
      refine LW.ex rfl rfl rfl rfl (by first | exact Ex.pick_yes rfl rfl | exact Ex.pick_no rfl rfl) hS.rd ?_
      refine LW.nil fun aa ha => hK22 _ _ _ ?_ aa ha
      refine CW.no rfl ?_
      refine CW.exit fun aa ha => hK19 _ _ _ ?_ aa ha
      refine CW.seq fun K24 hK24 => ?_
      refine CW.region [0, 1] rfl ?_
      refine LW.ex rfl rfl rfl rfl (Ex.move rfl) hS.rd ?_
      refine LW.ex rfl rfl rfl rfl (Ex.assign rfl) hS.rd ?_
      refine LW.nil fun aa ha => hK24 _ _ _ ?_ aa ha
      refine CW.ret fun aa ha => ?_
      obtain ⟨bs, μ', hmm, hS, hφ⟩ := hS.shut 0 rfl
      have hxe : xs = tapsM l := by rw [hxs]; unfold tapsM; congr 2; omega
      refine ret_one ha Try.results13 rfl ?_
      refine ⟨_, μ', rfl, hS.below, hmm, hS.imm, ado, co, by rw [← hxe, ← hn], ?_⟩
      rw [← hxe]; exact Sl.of_own hφ (tapReps _ _) hn
  · have h3_3 := of_decide_eq_false h3_3
    refine LW.ex rfl rfl rfl rfl (Ex.move rfl) hS.rd ?_
    refine LW.skip rfl rfl rfl rfl ?_
    refine LW.skip rfl rfl rfl rfl ?_
    refine LW.ex rfl rfl rfl rfl (by first | exact Ex.pick_yes rfl rfl | exact Ex.pick_no rfl rfl) hS.rd ?_
    refine LW.nil fun aa ha => hK22 _ _ _ ?_ aa ha
    refine CW.no rfl ?_
    refine CW.exit fun aa ha => hK19 _ _ _ ?_ aa ha
    refine CW.seq fun K25 hK25 => ?_
    refine CW.region [0, 1] rfl ?_
    refine LW.ex rfl rfl rfl rfl (Ex.move rfl) hS.rd ?_
    refine LW.ex rfl rfl rfl rfl (Ex.assign rfl) hS.rd ?_
    refine LW.nil fun aa ha => hK25 _ _ _ ?_ aa ha
    refine CW.ret fun aa ha => ?_
    obtain ⟨bs, μ', hmm, hS, hφ⟩ := hS.shut 0 rfl
    have hxe : xs = tapsM l := by rw [hxs]; unfold tapsM; congr 2; omega
    refine ret_one ha Try.results13 rfl ?_
    refine ⟨_, μ', rfl, hS.below, hmm, hS.imm, ado, co, by rw [← hxe, ← hn], ?_⟩
    rw [← hxe]; exact Sl.of_own hφ (tapReps _ _) hn
def twoA : List Area := [⟨97, 0, 0, 9, 9⟩, ⟨98, 10, 0, 19, 9⟩]
def twoB : Brd := ⟨twoA, [], []⟩
theorem two_c (μ : Mem) (w : World) (hμ : Imm μ w) : Calls Try.prog 30 #[] w (RetV w μ (IsBoard twoB)) := by
  have hS := St.start w μ hμ
  refine calls_start 5 [] Try.func30 rfl Try.ntmps30 rfl rfl ?_
  refine CW.seq fun K26 hK26 => ?_
  refine CW.region [0] rfl ?_
  refine LW.hv rfl rfl rfl rfl (Hv.alloc ti31 hS) fun v w0 ⟨b0, hv, hb0, hS⟩ => ?_
  subst hv
  refine LW.nil fun aa ha => hK26 _ _ _ ?_ aa ha
  refine CW.seq fun K27 hK27 => ?_
  refine CW.region [0, 1, 2, 3, 4] rfl ?_
  refine LW.ex rfl rfl rfl rfl (Ex.buildS st57 rfl rfl rfl) hS.rd ?_
  refine LW.ex rfl rfl rfl rfl (Ex.buildS st57 rfl rfl rfl) hS.rd ?_
  refine LW.hv rfl rfl rfl rfl (Hv.buildSl hS Try.underlying27 ti57 rfl rfl rfl rfl rfl rfl) fun v w3 ⟨b3, hv, hb3, hS⟩ => ?_
  subst hv
  refine LW.ex rfl rfl rfl rfl (Ex.buildS st31 rfl rfl rfl) hS.rd ?_
  refine LW.hu rfl rfl rfl (Hv.storeN (k := 1) ti31 hS rfl rfl rfl rfl (by simp [Value.oneCell'])) fun _ w_4 hS => ?_
  dsimp only [List.set] at hS
  refine LW.nil fun aa ha => hK27 _ _ _ ?_ aa ha
  refine CW.ret fun aa ha => ?_
  refine ret_cell ha Try.results30 rfl ti31 rfl (fun j v hv => Rd.objAll (k := 1) rfl hS.rd j v hv) ?_
  obtain ⟨μ1, hm1, hS, hs1⟩ := hS.shutRow 0 rfl (areaReps μ twoA) (by simp [maxLen, twoA])
  exact ⟨_, μ1, rfl, hS.below, hm1, hS.imm, _, _, none, 0, none, 0, rfl, hs1, Sl.nil _ _ _ (by simp [maxLen]), Sl.nil _ _ _ (by simp [maxLen])⟩
end Go.Proofs.Ytphgjongflkolaa

