/-
  Strokes: data, plain functions, and the walks of the functions without loops.
-/
import Derived.Test.YthbglfjajifkoaaTypes
import Derived.Test.YthbglfjajifkoaaMore
namespace Go.Proofs.Ythbglfjajifkoaa
open Go.RowKit Sy

structure Pt where
  X : Int
  Y : Int
  deriving DecidableEq, Inhabited
instance : El Pt := ⟨2, fun _ f p => f 0 = some (.int .i64 p.X) ∧ f 1 = some (.int .i64 p.Y), fun _ hf h => ⟨hf _ _ h.1, hf _ _ h.2⟩⟩
/-- [2]uint8 -/
structure B2 where
  a : UInt8
  b : UInt8
instance : El B2 := ⟨2, fun _ f p => f 0 = some (.int .u8 p.a.toNat) ∧ f 1 = some (.int .u8 p.b.toNat), fun _ hf h => ⟨hf _ _ h.1, hf _ _ h.2⟩⟩

def ptOf (k : Int) (p : B2) : Pt := ⟨(k * p.a.toNat).tmod 1001, (k * p.b.toNat).tmod 1001⟩
def padTo : Nat → Int → List Pt → List Pt
  | 0, _, l => l
  | n + 1, k, l => if l.length < 2 then padTo n k (l ++ [⟨k * l.length, 1⟩]) else l
/-- syllabaryref22.Points -/
def points (l : List B2) (n : Nat) (k : Int) : List Pt := padTo 2 k ((l.take n).map (ptOf k))

theorem mul_le_c {k : Int} {x : Nat} (h0 : 0 ≤ k) (h1 : k ≤ 1000) (hx : x < 256) : 0 ≤ k * (x : Int) ∧ k * (x : Int) ≤ 255000 := by
  refine ⟨Int.mul_nonneg h0 (by omega), ?_⟩
  calc k * (x : Int) ≤ 1000 * (x : Int) := Int.mul_le_mul_of_nonneg_right h1 (by omega)
    _ ≤ 255000 := by omega

set_option maxRecDepth 100000 in
theorem points_c (l : List B2) (ad : Option Addr) (c n : Nat) (k : Int) (μ : Mem) (w : World) (hμ : Imm μ w) (hl : Sl μ ad c l) (hn : n ≤ 1000) (h0 : 0 ≤ k) (hk1 : k ≤ 1000) :
    Calls Try.prog 11 #[.slice ad l.length c, .int .i64 n, .int .i64 k] w (RetV w μ (IsSl (points l n k))) := by
  have hS := St.start w μ hμ
  have hlc : l.length ≤ 9223372036854775807 := by have := hl.1; have := hl.2.1; simp only [maxLen] at this; omega
  refine calls_start 55 [.slice ad l.length c, .int .i64 n, .int .i64 k] Try.func11 rfl Try.ntmps11 rfl rfl ?_
  refine CW.seq fun K0 hK0 => ?_
  refine CW.region [0] rfl ?_
  refine LW.ex rfl rfl rfl rfl (Ex.assign rfl) hS.rd ?_
  refine LW.nil fun aa ha => hK0 _ _ _ ?_ aa ha
  refine CW.seq fun K1 hK1 => ?_
  refine CW.region [0, 1] rfl ?_
  refine LW.hv rfl rfl rfl rfl (Hv.buildSl hS Try.underlying26 ti46 rfl rfl rfl rfl rfl rfl) fun v w9 ⟨b9, hv, hb9, hS⟩ => ?_
  subst hv
  refine LW.ex rfl rfl rfl rfl (Ex.assign rfl) hS.rd ?_
  refine LW.nil fun aa ha => hK1 _ _ _ ?_ aa ha
  refine CW.seq fun K2o hK2o => ?_
  refine CW.seq fun K2 hK2 => ?_
  refine CW.region [0] rfl ?_
  refine LW.ex rfl rfl rfl rfl (Ex.assign rfl) hS.rd ?_
  refine LW.nil fun aa ha => hK2 _ _ _ ?_ aa ha
  have hS : St w _ μ [Own.sl (some ⟨b9, 0, none⟩) 0 0 46 2 []] := hS.row_sl (k := 0) rfl 0 2 rfl (by simp [maxLen])
  have hrest : ∀ (i : Nat) (ado : Option Addr) (co : Nat) (us : List Value) (w1 : World), i ≤ 1000 → i = ((l.take n).map (ptOf k)).length → St w w1 μ [Own.sl ado i co 46 2 us] → RepL μ us ((l.take n).map (ptOf k)) →
      KW K2o 55 [(2, .int .i64 k), (7, .slice ado i co)] w1 := by
    intro i ado co us w1 hi1 hil hS hus
    refine hK2o _ _ _ ?_
    refine CW.seq fun Kb2 hKb2 => ?_
    refine CW.block ?_
    refine CW.loop (fun q m w1 => ∃ (i : Nat) (xs : List Pt) (ado : Option Addr) (co : Nat) (us : List Value), i = xs.length ∧ 2 ≤ q + i ∧ i ≤ 1000 ∧ m = [(2, .int .i64 k), (7, .slice ado i co)] ∧ St w w1 μ [Own.sl ado i co 46 2 us] ∧ RepL μ us xs ∧
      points l n k = padTo q k xs) 2 ⟨i, _, ado, co, us, hil, by omega, by omega, rfl, hS, hus, rfl⟩ ⟨rfl, rfl, trivial⟩ ?_
    clear hS hus
    rintro q m w1 ⟨i, xs, ado, co, us, hi, hq, hx1, rfl, hS, hus, hp⟩
    by_cases h2 : i < 2
    · skip
      refine CW.seq fun K6o hK6o => ?_
      refine CW.seq fun K6 hK6 => ?_
      refine CW.region [0, 1, 2] rfl ?_
      refine LW.ex rfl rfl rfl rfl (Ex.move rfl) hS.rd ?_
      refine LW.ex rfl rfl rfl rfl (Ex.lenSl rfl Try.underlying26 rfl) hS.rd ?_
      refine LW.ex rfl rfl rfl rfl (Ex.lss rfl rfl (by first | exact decide_eq_true (by omega) | exact decide_eq_false (by omega) | rfl)) hS.rd ?_
      refine LW.nil fun aa ha => hK6 _ _ _ ?_ aa ha
      refine CW.yes rfl ?_
      refine CW.skip fun aa ha => hK6o _ _ _ ?_ aa ha
      refine CW.block ?_
      have hb : 0 ≤ k * (i : Int) ∧ k * (i : Int) ≤ 1000 := by
        have : i = 0 ∨ i = 1 := by omega
        rcases this with h | h <;> rw [h] <;> omega
      refine CW.region [0, 1, 2, 3, 4, 5, 6, 7, 8] rfl ?_
      refine LW.ex rfl rfl rfl rfl (Ex.move rfl) hS.rd ?_
      refine LW.ex rfl rfl rfl rfl (Ex.move rfl) hS.rd ?_
      refine LW.ex rfl rfl rfl rfl (Ex.move rfl) hS.rd ?_
      refine LW.ex rfl rfl rfl rfl (Ex.lenSl rfl Try.underlying26 rfl) hS.rd ?_
      refine LW.ex rfl rfl rfl rfl (Ex.mul rfl rfl (by first | exact w64 (by omega) (by omega))) hS.rd ?_
      refine LW.ex rfl rfl rfl rfl (Ex.buildS st46 rfl rfl rfl) hS.rd ?_
      refine LW.hv rfl rfl rfl rfl (Hv.buildSl hS Try.underlying26 ti46 rfl rfl rfl rfl rfl rfl) fun v w52 ⟨b52, hv, hb52, hS⟩ => ?_
      subst hv
      refine LW.hv rfl rfl rfl rfl (Hv.append (k := 1) rfl Try.underlying26 ti46 rfl hS rfl rfl rfl rfl (Rd.objAll (k := 0) rfl hS.rd) (by simp [Value.oneCell']) (by unfold maxLen; omega) (by omega)) fun v w53 ⟨ad53, c53, hv, hS⟩ => ?_
      subst hv
      dsimp only [List.set] at hS
      have hS := hS.drop 0 rfl
      dsimp only [List.eraseIdx] at hS
      refine LW.ex rfl rfl rfl rfl (Ex.assign rfl) hS.rd ?_
      refine LW.nil fun aa ha => ?_
      obtain ⟨q, rfl⟩ : ∃ q', q = q' + 1 := ⟨q - 1, by omega⟩
      refine ⟨q, [(2, .int .i64 k), (7, .slice ad53 (i + 1) c53)], by omega, ⟨i + 1, xs ++ [⟨k * i, 1⟩], ad53, c53, _, by simp [hi], by omega, by omega, rfl, hS, hus.snoc rfl ⟨rfl, rfl⟩, ?_⟩, ha.sub ⟨rfl, rfl, trivial⟩⟩
      rw [hp, padTo, if_pos (by omega), hi]
    · skip
      refine CW.seq fun K6o hK6o => ?_
      refine CW.seq fun K6 hK6 => ?_
      refine CW.region [0, 1, 2] rfl ?_
      refine LW.ex rfl rfl rfl rfl (Ex.move rfl) hS.rd ?_
      refine LW.ex rfl rfl rfl rfl (Ex.lenSl rfl Try.underlying26 rfl) hS.rd ?_
      refine LW.ex rfl rfl rfl rfl (Ex.lss rfl rfl (by first | exact decide_eq_true (by omega) | exact decide_eq_false (by omega) | rfl)) hS.rd ?_
      refine LW.nil fun aa ha => hK6 _ _ _ ?_ aa ha
      refine CW.no rfl ?_
      refine CW.exit fun aa ha => hKb2 _ _ _ ?_ aa ha
      refine CW.seq fun K8 hK8 => ?_
      refine CW.region [0, 1] rfl ?_
      refine LW.ex rfl rfl rfl rfl (Ex.move rfl) hS.rd ?_
      refine LW.ex rfl rfl rfl rfl (Ex.assign rfl) hS.rd ?_
      refine LW.nil fun aa ha => hK8 _ _ _ ?_ aa ha
      refine CW.ret fun aa ha => ?_
      obtain ⟨bs, μ', hm, hS, hφ⟩ := hS.shut 0 rfl
      have he : points l n k = xs := by
        rw [hp]
        match q with
        | 0 => rfl
        | q + 1 => rw [padTo, if_neg (by omega)]
      refine ret_one ha Try.results11 rfl ⟨_, μ', rfl, hS.below, hm, hS.imm, ado, co, ?_, ?_⟩
      · rw [he, hi]
      · rw [he]; exact Sl.of_own hφ (hus.mono hm) hi
  refine CW.block ?_
  refine CW.loop (fun q m w1 => ∃ (i : Nat) (ado : Option Addr) (co : Nat) (us : List Value), i ≤ l.length ∧ i ≤ n ∧ q = l.length - i ∧
      m = [(0, .slice ad l.length c), (1, .int .i64 n), (2, .int .i64 k), (7, .slice ado i co), (8, .int .i64 i)] ∧ St w w1 μ [Own.sl ado i co 46 2 us] ∧ RepL μ us ((l.take i).map (ptOf k)))
      l.length ⟨0, _, _, _, by omega, by omega, by omega, rfl, hS, RepL.nil μ⟩ ⟨rfl, rfl, rfl, rfl, rfl, trivial⟩ ?_
  clear hS
  rintro q m w1 ⟨i, ado, co, us, hil, hin, hq, rfl, hS, hus⟩
  by_cases h1 : i < l.length
  · by_cases h2 : i < n
    · skip
      refine CW.seq fun K3o hK3o => ?_
      refine CW.seq fun K3 hK3 => ?_
      refine CW.region [0, 1, 2, 3, 4, 5, 6, 7, 8] rfl ?_
      refine LW.ex rfl rfl rfl rfl (Ex.move rfl) hS.rd ?_
      refine LW.ex rfl rfl rfl rfl (Ex.move rfl) hS.rd ?_
      refine LW.ex rfl rfl rfl rfl (Ex.lenSl rfl Try.underlying23 rfl) hS.rd ?_
      refine LW.ex rfl rfl rfl rfl (Ex.lss rfl rfl (by first | exact decide_eq_true (by omega) | exact decide_eq_false (by omega) | rfl)) hS.rd ?_
      refine LW.ex rfl rfl rfl rfl (Ex.move rfl) hS.rd ?_
      refine LW.ex rfl rfl rfl rfl (Ex.move rfl) hS.rd ?_
      refine LW.ex rfl rfl rfl rfl (Ex.move rfl) hS.rd ?_
      refine LW.ex rfl rfl rfl rfl (Ex.lss rfl rfl (by first | exact decide_eq_true (by omega) | exact decide_eq_false (by omega) | rfl)) hS.rd ?_
      refine LW.ex rfl rfl rfl rfl (by first | exact Ex.pick_yes rfl rfl | exact Ex.pick_no rfl rfl) hS.rd ?_
      refine LW.nil fun aa ha => hK3 _ _ _ ?_ aa ha
      refine CW.yes rfl ?_
      refine CW.skip fun aa ha => hK3o _ _ _ ?_ aa ha
      obtain ⟨bl, ol, rfl, hca, hcb⟩ := hl.at h1
      have ba := l[i].a.toNat_lt
      have bb := l[i].b.toNat_lt
      have ma := mul_le_c h0 hk1 ba
      have mb := mul_le_c h0 hk1 bb
      refine CW.seq fun Kb1 hKb1 => ?_
      refine CW.block ?_
      have hS := hS.drew
      refine CW.draw 21 (.ex 0 <| .ex 1 <| .ex 2 <| .ex 3 <| .ex 4 <| .ex 5 <| .ex 6 <| .ex 7 <| .ex 8 <| .ex 9 <| .ex 10 <| .ex 11 <| .ex 12 <| .ex 13 <| .ex 14 <| .ex 15 <| .ex 16 <| .ex 17 <| .ex 18 <| .ex 19 <| .one 20 <| .done) [21, 22] (Rd _ _) mixed (by kernel_rfl) rfl rfl hS.rd ?_
      refine PW.ex rfl rfl rfl rfl (Ex.move rfl) ?_
      refine PW.ex rfl rfl rfl rfl (Ex.move rfl) ?_
      refine PW.ex rfl rfl rfl rfl (Ex.move rfl) ?_
      refine PW.ex rfl rfl rfl rfl (Ex.move rfl) ?_
      refine PW.ex rfl rfl rfl rfl (Ex.indexSl Try.underlying23 ti48 rfl rfl rfl (by omega)) ?_
      refine PW.ex rfl rfl rfl rfl (Ex.indexArr (j := 0) Try.underlying48 ti5 rfl rfl rfl (by omega)) ?_
      refine PW.ex rfl rfl rfl rfl (Ex.load1 ti5 rfl rfl (by first | exact Rd.obj (k := 0) rfl rfl | exact Rd.obj (k := 1) rfl rfl | exact Rd.obj (k := 2) rfl rfl | exact Rd.obj (k := 3) rfl rfl | exact Rd.obj (k := 4) rfl rfl | exact Rd.imm (by assumption) | exact Rd.sl (k := 0) rfl (by assumption) | exact Rd.sl (k := 1) rfl (by assumption) | exact Rd.sl (k := 2) rfl (by assumption) | exact Rd.sl (k := 3) rfl (by assumption))) ?_
      refine PW.ex rfl rfl rfl rfl (Ex.conv Try.underlying5 Try.underlying3 rfl (by first | exact w64 (by omega) (by omega) | exact wu8 (by omega) (by omega))) ?_
      refine PW.ex rfl rfl rfl rfl (Ex.mul rfl rfl (by first | exact w64 (by omega) (by omega))) ?_
      refine PW.ex rfl rfl rfl rfl (Ex.rem rfl rfl (by omega) rfl) ?_
      refine PW.ex rfl rfl rfl rfl (Ex.move rfl) ?_
      refine PW.ex rfl rfl rfl rfl (Ex.move rfl) ?_
      refine PW.ex rfl rfl rfl rfl (Ex.move rfl) ?_
      refine PW.ex rfl rfl rfl rfl (Ex.indexSl Try.underlying23 ti48 rfl rfl rfl (by omega)) ?_
      refine PW.ex rfl rfl rfl rfl (Ex.indexArr (j := 1) Try.underlying48 ti5 rfl rfl rfl (by omega)) ?_
      refine PW.ex rfl rfl rfl rfl (Ex.load1 ti5 rfl rfl (by first | exact Rd.obj (k := 0) rfl rfl | exact Rd.obj (k := 1) rfl rfl | exact Rd.obj (k := 2) rfl rfl | exact Rd.obj (k := 3) rfl rfl | exact Rd.obj (k := 4) rfl rfl | exact Rd.imm (by assumption) | exact Rd.sl (k := 0) rfl (by assumption) | exact Rd.sl (k := 1) rfl (by assumption) | exact Rd.sl (k := 2) rfl (by assumption) | exact Rd.sl (k := 3) rfl (by assumption))) ?_
      refine PW.ex rfl rfl rfl rfl (Ex.conv Try.underlying5 Try.underlying3 rfl (by first | exact w64 (by omega) (by omega) | exact wu8 (by omega) (by omega))) ?_
      refine PW.ex rfl rfl rfl rfl (Ex.mul rfl rfl (by first | exact w64 (by omega) (by omega))) ?_
      refine PW.ex rfl rfl rfl rfl (Ex.rem rfl rfl (by omega) rfl) ?_
      refine PW.ex rfl rfl rfl rfl (Ex.buildS st46 rfl rfl rfl) ?_
      refine PW.hv rfl rfl rfl rfl (Hv.buildSl hS Try.underlying26 ti46 rfl rfl rfl rfl rfl rfl) (fun _ _ ⟨_, _, _, h⟩ => h.rd.tail) fun v w41 ⟨b41, hv, hb41, hS⟩ => ?_
      subst hv
      refine PW.nil ?_
      refine LW.hv rfl rfl rfl rfl (Hv.append (k := 1) rfl Try.underlying26 ti46 rfl hS rfl rfl rfl rfl (Rd.objAll (k := 0) rfl hS.rd) (by simp [Value.oneCell']) (by unfold maxLen; omega) (by omega)) fun v w42 ⟨ad42, c42, hv, hS⟩ => ?_
      subst hv
      dsimp only [List.set] at hS
      have hS := hS.drop 0 rfl
      dsimp only [List.eraseIdx] at hS
      refine LW.ex rfl rfl rfl rfl (Ex.assign rfl) hS.rd ?_
      refine LW.nil fun aa ha => hKb1 _ _ _ ?_ aa ha
      refine CW.region [0, 1, 2] rfl ?_
      refine LW.ex rfl rfl rfl rfl (Ex.move rfl) hS.rd ?_
      refine LW.ex rfl rfl rfl rfl (Ex.add rfl rfl (by first | exact inc64 (by omega) | exact addN (by omega) | exact w64 (by omega) (by omega))) hS.rd ?_
      refine LW.ex rfl rfl rfl rfl (Ex.assign rfl) hS.rd ?_
      refine LW.nil fun aa ha => ?_
      refine ⟨l.length - (i + 1), _, by omega, ⟨i + 1, ad42, c42, _, by omega, by omega, rfl, rfl, hS, ?_⟩, ha.sub ⟨rfl, rfl, rfl, rfl, rfl, trivial⟩⟩
      rw [List.take_succ_eq_append_getElem h1, List.map_append]
      exact hus.snoc rfl ⟨rfl, rfl⟩
    · skip
      refine CW.seq fun K3o hK3o => ?_
      refine CW.seq fun K3 hK3 => ?_
      refine CW.region [0, 1, 2, 3, 4, 5, 6, 7, 8] rfl ?_
      refine LW.ex rfl rfl rfl rfl (Ex.move rfl) hS.rd ?_
      refine LW.ex rfl rfl rfl rfl (Ex.move rfl) hS.rd ?_
      refine LW.ex rfl rfl rfl rfl (Ex.lenSl rfl Try.underlying23 rfl) hS.rd ?_
      refine LW.ex rfl rfl rfl rfl (Ex.lss rfl rfl (by first | exact decide_eq_true (by omega) | exact decide_eq_false (by omega) | rfl)) hS.rd ?_
      refine LW.ex rfl rfl rfl rfl (Ex.move rfl) hS.rd ?_
      refine LW.ex rfl rfl rfl rfl (Ex.move rfl) hS.rd ?_
      refine LW.ex rfl rfl rfl rfl (Ex.move rfl) hS.rd ?_
      refine LW.ex rfl rfl rfl rfl (Ex.lss rfl rfl (by first | exact decide_eq_true (by omega) | exact decide_eq_false (by omega) | rfl)) hS.rd ?_
      refine LW.ex rfl rfl rfl rfl (by first | exact Ex.pick_yes rfl rfl | exact Ex.pick_no rfl rfl) hS.rd ?_
      refine LW.nil fun aa ha => hK3 _ _ _ ?_ aa ha
      refine CW.no rfl ?_
      refine CW.exit fun aa ha => ?_
      have hin' : i = n := by omega
      refine (hrest i ado co us _ (by omega) (by simp; omega) hS (by rw [← hin']; exact hus)) aa (ha.sub ⟨rfl, rfl, trivial⟩)
  · skip
    refine CW.seq fun K3o hK3o => ?_
    refine CW.seq fun K3 hK3 => ?_
    refine CW.region [0, 1, 2, 3, 4, 5, 6, 7, 8] rfl ?_
    refine LW.ex rfl rfl rfl rfl (Ex.move rfl) hS.rd ?_
    refine LW.ex rfl rfl rfl rfl (Ex.move rfl) hS.rd ?_
    refine LW.ex rfl rfl rfl rfl (Ex.lenSl rfl Try.underlying23 rfl) hS.rd ?_
    refine LW.ex rfl rfl rfl rfl (Ex.lss rfl rfl (by first | exact decide_eq_true (by omega) | exact decide_eq_false (by omega) | rfl)) hS.rd ?_
    refine LW.ex rfl rfl rfl rfl (Ex.move rfl) hS.rd ?_
    refine LW.skip rfl rfl rfl rfl ?_
    refine LW.skip rfl rfl rfl rfl ?_
    refine LW.skip rfl rfl rfl rfl ?_
    refine LW.ex rfl rfl rfl rfl (by first | exact Ex.pick_yes rfl rfl | exact Ex.pick_no rfl rfl) hS.rd ?_
    refine LW.nil fun aa ha => hK3 _ _ _ ?_ aa ha
    refine CW.no rfl ?_
    refine CW.exit fun aa ha => ?_
    have hin' : l.take i = l.take n := by rw [List.take_of_length_le (by omega), List.take_of_length_le (by omega)]
    refine (hrest i ado co us _ (by omega) (by rw [← hin']; simp; omega) hS (by rw [← hin']; exact hus)) aa (ha.sub ⟨rfl, rfl, trivial⟩)
end Go.Proofs.Ythbglfjajifkoaa
