import Derived.Test.YtgnpjhellmfhoaaW10
import Derived.Lib.Overlaps
import Derived.Laws.CopyRow
import Derived.Lib.SliceRun

/-
  Rows of the call's own with their spare places; copy, append of zeros, overlaps; slices of slices.
-/
namespace Go.Proofs.Ytgnpjhellmfhoaa.Sy
open Go.RowKit

section
variable {w0 w : World} {μ : Mem} {L : List Own} {g l c sz : Nat} {E : TypeId} {us cs : List Value}

/-- A slice of the call's own, with its spare places. -/
theorem St.open_sl (h : St w0 w μ L) (k : Nat) (hk : L[k]? = some (Own.sl (some ⟨g, 0, none⟩) l c E sz us)) : ∃ rest : List Value, rest.length = (c - l) * sz ∧ St w0 w μ (L.set k (Own.obj g (us ++ rest) E)) := by
  obtain ⟨bs, ⟨hlen, hb⟩, hn, _, hstep⟩ := h.turn hk
  rcases hb with ⟨hb, _⟩ | ⟨g', cur, hg, rfl, hh, hlc, hcm, hcs, htake⟩
  · cases hb
  cases hg
  refine ⟨cur.toList.drop (l * sz), ?_, ?_⟩
  · rw [List.length_drop, Array.length_toList, hcs, Nat.sub_mul]
  · refine hstep w _ [g] rfl rfl rfl (Nat.le_refl _) (Nat.le_refl _) (fun _ _ _ => rfl) ⟨rfl, ?_⟩ hn (fun x hx => .inl hx)
    rw [← htake, List.take_append_drop]; exact hh
theorem St.close_sl (h : St w0 w μ L) (k : Nat) (hk : L[k]? = some (Own.obj g cs E)) (l c sz : Nat) (hl : l ≤ c) (hc : c ≤ maxLen) (hcs : cs.length = c * sz) : St w0 w μ (L.set k (Own.sl (some ⟨g, 0, none⟩) l c E sz (cs.take (l * sz)))) := by
  obtain ⟨bs, ⟨rfl, hb⟩, hn, _, hstep⟩ := h.turn hk
  refine hstep w _ [g] rfl rfl rfl (Nat.le_refl _) (Nat.le_refl _) (fun _ _ _ => rfl) ⟨?_, .inr ⟨g, cs.toArray, rfl, rfl, hb, hl, hc, by simpa using hcs, rfl⟩⟩ hn (fun x hx => .inl hx)
  rw [List.length_take, hcs, Nat.min_eq_left (Nat.mul_le_mul_right _ hl)]

end

namespace Hv
variable {P : Program} {m : List (Nat × Value)} {t t2 E E' : TypeId} {x y : Operand} {w0 w : World} {μ : Mem} {L : List Own}
end Hv

namespace Ex
variable {P : Program} {S : World → Prop} {m : List (Nat × Value)} {t t' : TypeId} {x y : Operand} {d : TypeDesc} {z : Value} {by_ sz : Nat}
end Ex
end Go.Proofs.Ytgnpjhellmfhoaa.Sy

/-
  Context: the walk of slices.Compact.
-/
namespace Go.Proofs.Ytgnpjhellmfhoaa
open Go.RowKit Sy

/-- Without what is equal to what stands before it. -/
def dd : List I2 → List I2
  | a :: b :: r => if a = b then dd (b :: r) else a :: dd (b :: r)
  | l => l
theorem dd_snoc : ∀ (l : List I2) (y x : I2), dd (l ++ [y] ++ [x]) = if y = x then dd (l ++ [y]) else dd (l ++ [y]) ++ [x]
  | [], y, x => by simp only [List.nil_append, List.cons_append, dd]; split <;> simp_all
  | [a], y, x => by
    have := dd_snoc [] y x
    simp only [List.nil_append, List.cons_append] at this ⊢
    rw [dd, this, dd]
    by_cases h : y = x <;> by_cases h2 : a = y <;> simp [h, h2]
  | a :: b :: l, y, x => by
    have := dd_snoc (b :: l) y x
    simp only [List.cons_append] at this ⊢
    rw [dd, this, dd]
    by_cases h : y = x <;> by_cases h2 : a = b <;> simp [h, h2]
theorem dd_take {xs : List I2} {i : Nat} (h0 : 1 ≤ i) (h : i < xs.length) : dd (xs.take (i + 1)) = if xs[i - 1] = xs[i] then dd (xs.take i) else dd (xs.take i) ++ [xs[i]] := by
  obtain ⟨j, rfl⟩ : ∃ j, i = j + 1 := ⟨i - 1, by omega⟩
  rw [List.take_succ_eq_append_getElem h, List.take_succ_eq_append_getElem (show j < xs.length by omega)]
  exact dd_snoc _ _ _
theorem dd_short {xs : List I2} (h : xs.length < 2) : dd xs = xs := by
  match xs, h with
  | [], _ => rfl
  | [a], _ => rfl
theorem dd_len (xs : List I2) : (dd xs).length ≤ xs.length := by
  match xs with
  | [] => simp [dd]
  | [a] => simp [dd]
  | a :: b :: r =>
    have := dd_len (b :: r)
    rw [dd]
    split <;> simp at * <;> omega
theorem i2_ext {x y : I2} (h1 : x.a = y.a) (h2 : x.b = y.b) : x = y := by cases x; cases y; simp_all
theorem i2Eq (x y : I2) (w : World) : (Op.equal 125 (.agg #[.int .i64 x.a, .int .i64 x.b]) (.agg #[.int .i64 y.a, .int .i64 y.b])).run Try.prog w = .ok (decide (x = y)) w := by
  rw [eqArr2 Try.underlying125 ti3 (by kernel_rfl)]
  congr 1
  exact decide_eq_decide.2 ⟨fun h => i2_ext h.1 h.2, fun h => by rw [h]; exact ⟨rfl, rfl⟩⟩
theorem zeroCells_one {n : Nat} : ∀ v ∈ (Builtin.zeroCells #[.int .i64 0, .int .i64 0] n).toList, v.oneCell' = true := by
  intro v hv
  unfold Builtin.zeroCells at hv
  simp only [Array.toList_map, List.mem_map] at hv
  obtain ⟨i, _, rfl⟩ := hv
  have : i % 2 = 0 ∨ i % 2 = 1 := by omega
  have e : (#[Value.int .i64 0, .int .i64 0] : Array Value).size = 2 := rfl
  rw [e]
  rcases this with h | h <;> rw [h] <;> rfl
set_option maxRecDepth 100000 in
set_option maxHeartbeats 1000000 in
theorem compact_c {w0 w : World} {μ : Mem} {L : List Own} {ad : Option Addr} {n c : Nat} {xs : List I2} (hS : St w0 w μ (Own.sl ad n c 125 2 (xs.flatMap i2L) :: L)) (hn : n = xs.length) :
    Calls Try.prog 75 #[.slice ad n c] w (RetM fun v w' => v = .slice ad (dd xs).length c ∧ St w0 w' μ (Own.sl ad (dd xs).length c 125 2 ((dd xs).flatMap i2L) :: L)) := by
  have hcap := hS.sl_cap 0 rfl
  obtain ⟨hcap1, hcap2⟩ := hcap
  simp only [maxLen] at hcap2
  have hkl : ∀ x, (i2L x).length = 2 := fun _ => rfl
  refine calls_start 61 [.slice ad n c] Try.func75 rfl Try.ntmps75 rfl rfl ?_
  refine CW.seq fun K1 hK1 => ?_
  refine CW.region [0] rfl ?_
  refine LW.ex rfl rfl rfl rfl (Ex.assign rfl) hS.rd ?_
  refine LW.nil fun aa ha => hK1 _ _ _ ?_ aa ha
  refine CW.seq fun K2 hK2 => ?_
  refine CW.seq fun K3 hK3 => ?_
  refine CW.region [0, 1, 2] rfl ?_
  refine LW.ex rfl rfl rfl rfl (Ex.move rfl) hS.rd ?_
  refine LW.ex rfl rfl rfl rfl (Ex.lenSl rfl Try.underlying120 rfl) hS.rd ?_
  refine LW.ex rfl rfl rfl rfl (Ex.lss rfl rfl rfl) hS.rd ?_
  refine LW.splitB (fun h1_2 => ?_) (fun h1_2 => ?_)
  · have h1_2 := of_decide_eq_true h1_2
    refine LW.nil fun aa ha => hK3 _ _ _ ?_ aa ha
    refine CW.yes rfl ?_
    refine CW.seq fun K4 hK4 => ?_
    refine CW.region [0, 1] rfl ?_
    refine LW.ex rfl rfl rfl rfl (Ex.move rfl) hS.rd ?_
    refine LW.ex rfl rfl rfl rfl (Ex.assign rfl) hS.rd ?_
    refine LW.nil fun aa ha => hK4 _ _ _ ?_ aa ha
    refine CW.ret fun aa ha => ?_
    refine ret_one ha Try.results75 rfl ?_
    refine ⟨_, rfl, ?_, ?_⟩
    · rw [dd_short (by omega), hn]
    · rw [dd_short (by omega), ← hn]; exact hS
  · have h1_2 := of_decide_eq_false h1_2
    refine LW.nil fun aa ha => hK3 _ _ _ ?_ aa ha
    refine CW.no rfl ?_
    refine CW.skip fun aa ha => hK2 _ _ _ ?_ aa ha
    refine CW.seq fun K5 hK5 => ?_
    refine CW.seq fun K6 hK6 => ?_
    refine CW.region [0] rfl ?_
    refine LW.ex rfl rfl rfl rfl (Ex.assign rfl) hS.rd ?_
    refine LW.nil fun aa ha => hK6 _ _ _ ?_ aa ha
    refine CW.block ?_
    obtain ⟨g, rfl⟩ := hS.sl_some 0 rfl (by omega)
    refine CW.loop (fun qq frm wl4 => ∃ (k : Nat), 1 ≤ k ∧ k ≤ n ∧ qq = n - k ∧ frm = [(0, .slice (some ⟨g, 0, none⟩) n c), (3, .int .i64 k)] ∧ St w0 wl4 μ (Own.sl (some ⟨g, 0, none⟩) n c 125 2 (xs.flatMap i2L) :: L) ∧ (dd (xs.take k) = xs.take k)) _ ⟨1, (by first | omega | (simp; done) | (simp; omega)), (by first | omega | (simp; done) | (simp; omega)), rfl, rfl, hS, dd_short (by rw [List.length_take]; omega)⟩ ⟨rfl, rfl, trivial⟩ ?_
    clear hS
    rintro qq frm wl4 ⟨k, hk1, hk, hq, rfl, hS, hd⟩
    refine CW.seq fun K7 hK7 => ?_
    refine CW.seq fun K8 hK8 => ?_
    refine CW.region [0, 1, 2, 3] rfl ?_
    refine LW.ex rfl rfl rfl rfl (Ex.move rfl) hS.rd ?_
    refine LW.ex rfl rfl rfl rfl (Ex.move rfl) hS.rd ?_
    refine LW.ex rfl rfl rfl rfl (Ex.lenSl rfl Try.underlying120 rfl) hS.rd ?_
    refine LW.ex rfl rfl rfl rfl (Ex.lss rfl rfl rfl) hS.rd ?_
    refine LW.splitB (fun h4_3 => ?_) (fun h4_3 => ?_)
    · have h4_3 := of_decide_eq_true h4_3
      refine LW.nil fun aa ha => hK8 _ _ _ ?_ aa ha
      refine CW.yes rfl ?_
      refine CW.skip fun aa ha => hK7 _ _ _ ?_ aa ha
      refine CW.seq fun K9 hK9 => ?_
      refine CW.block ?_
      refine CW.seq fun K10 hK10 => ?_
      have hk2 : k < xs.length := by omega
      have hk3 : k - 1 < xs.length := by omega
      have f0 := flat2 hkl xs k 0 hk2 (by omega) (v := .int .i64 xs[k].a) rfl
      have f1 := flat2 hkl xs k 1 hk2 (by omega) (v := .int .i64 xs[k].b) rfl
      have e0 := flat2 hkl xs (k - 1) 0 hk3 (by omega) (v := .int .i64 xs[k - 1].a) rfl
      have e1 := flat2 hkl xs (k - 1) 1 hk3 (by omega) (v := .int .i64 xs[k - 1].b) rfl
      have hdt := dd_take hk1 hk2
      have hS := hS.drew
      refine CW.draw 10 (.ex 0 <| .ex 1 <| .ex 2 <| .ex 3 <| .ex 4 <| .ex 5 <| .ex 6 <| .ex 7 <| .ex 8 <| .ex 9 <| .done) [] (Rd _ _) mixed (by kernel_rfl) rfl rfl hS.rd ?_
      refine PW.ex rfl rfl rfl rfl (Ex.move rfl) ?_
      refine PW.ex rfl rfl rfl rfl (Ex.move rfl) ?_
      refine PW.ex rfl rfl rfl rfl (Ex.indexSl Try.underlying120 ti125 rfl rfl rfl (by omega)) ?_
      refine PW.ex rfl rfl rfl rfl (Ex.load2c ti125 rfl rfl (slT (v := .int .i64 xs[k].a) (by rw [Nat.zero_add]; exact f0)) (slT (v := .int .i64 xs[k].b) (by rw [Nat.zero_add]; exact f1))) ?_
      refine PW.ex rfl rfl rfl rfl (Ex.move rfl) ?_
      refine PW.ex rfl rfl rfl rfl (Ex.move rfl) ?_
      refine PW.ex rfl rfl rfl rfl (Ex.sub rfl rfl (by first | exact dec64 (by omega) (by omega) | exact subN (by omega) (by omega) | exact w64 (by omega) (by omega))) ?_
      refine PW.ex rfl rfl rfl rfl (Ex.indexSl Try.underlying120 ti125 rfl rfl rfl (by omega)) ?_
      refine PW.ex rfl rfl rfl rfl (Ex.load2c ti125 rfl rfl (slT (v := .int .i64 xs[k - 1].a) (by rw [Nat.zero_add]; exact e0)) (slT (v := .int .i64 xs[k - 1].b) (by rw [Nat.zero_add]; exact e1))) ?_
      refine PW.ex rfl rfl rfl rfl (Ex.eqlSt (by kernel_rfl) rfl rfl (i2Eq xs[k] xs[k - 1])) ?_
      refine PW.splitB (fun h6_9 => ?_) (fun h6_9 => ?_)
      · have h6_9 := of_decide_eq_true h6_9
        refine PW.nil ?_
        refine LW.nil fun aa ha => hK10 _ _ _ ?_ aa ha
        refine CW.yes rfl ?_
        refine CW.seq fun K11 hK11 => ?_
        refine CW.region [0, 1, 2, 3] rfl ?_
        refine LW.ex rfl rfl rfl rfl (Ex.move rfl) hS.rd ?_
        refine LW.ex rfl rfl rfl rfl (Ex.move rfl) hS.rd ?_
        refine LW.ex rfl rfl rfl rfl (Ex.sliceFrom Try.underlying120 ti125 rfl rfl rfl (by omega) (by omega)) hS.rd ?_
        refine LW.ex rfl rfl rfl rfl (Ex.assign rfl) hS.rd ?_
        refine LW.nil fun aa ha => hK11 _ _ _ ?_ aa ha
        refine CW.seq fun K12 hK12 => ?_
        refine CW.seq fun K13 hK13 => ?_
        rw [if_pos h6_9.symm, hd] at hdt
        refine CW.region [0] rfl ?_
        refine LW.ex rfl rfl rfl rfl (Ex.assign rfl) hS.rd ?_
        refine LW.nil fun aa ha => hK13 _ _ _ ?_ aa ha
        refine CW.block ?_
        refine CW.loop (fun qq frm wl9 => ∃ (k2 : Nat) (q : Nat) (ys : List I2), 1 ≤ k2 ∧ k2 ≤ n - k ∧ k ≤ q ∧ q ≤ k + k2 - 1 ∧ ys.length = n ∧ qq = n - k - k2 ∧ frm = [(0, .slice (some ⟨g, 0, none⟩) n c), (3, .int .i64 q), (4, .slice (some ⟨g, 0 + k * 2, none⟩) (n - k) (c - k)), (5, .int .i64 k2)] ∧ St w0 wl9 μ (Own.sl (some ⟨g, 0, none⟩) n c 125 2 (ys.flatMap i2L) :: L) ∧ (ys.take q = dd (xs.take (k + k2))) ∧ (∀ j (h : j < ys.length) (h' : j < xs.length), k + k2 - 1 ≤ j → ys[j] = xs[j])) _ ⟨1, k, xs, (by first | omega | (simp; done) | (simp; omega)), (by first | omega | (simp; done) | (simp; omega)), (by first | omega | (simp; done) | (simp; omega)), (by first | omega | (simp; done) | (simp; omega)), (by first | omega | (simp; done) | (simp; omega)), rfl, rfl, hS, hdt.symm, fun j _ _ _ => rfl⟩ ⟨rfl, rfl, rfl, rfl, trivial⟩ ?_
        clear hS
        rintro qq frm wl9 ⟨k2, q, ys, hk21, hk22, hq1, hq2, hyl, hq, rfl, hS, hdq, hr⟩
        refine CW.seq fun K14 hK14 => ?_
        refine CW.seq fun K15 hK15 => ?_
        refine CW.region [0, 1, 2, 3] rfl ?_
        refine LW.ex rfl rfl rfl rfl (Ex.move rfl) hS.rd ?_
        refine LW.ex rfl rfl rfl rfl (Ex.move rfl) hS.rd ?_
        refine LW.ex rfl rfl rfl rfl (Ex.lenSl rfl Try.underlying120 rfl) hS.rd ?_
        refine LW.ex rfl rfl rfl rfl (Ex.lss rfl rfl rfl) hS.rd ?_
        refine LW.splitB (fun h9_3 => ?_) (fun h9_3 => ?_)
        · have h9_3 := of_decide_eq_true h9_3
          refine LW.nil fun aa ha => hK15 _ _ _ ?_ aa ha
          refine CW.yes rfl ?_
          refine CW.skip fun aa ha => hK14 _ _ _ ?_ aa ha
          refine CW.seq fun K16 hK16 => ?_
          refine CW.block ?_
          refine CW.seq fun K17 hK17 => ?_
          have hi2 : k + k2 < xs.length := by omega
          have hi3 : k + k2 - 1 < xs.length := by omega
          have hi4 : k + k2 < ys.length := by omega
          have hi5 : k + (k2 - 1) < ys.length := by omega
          have f0 := flat2 hkl ys (k + k2) 0 hi4 (by omega) (v := .int .i64 ys[k + k2].a) rfl
          have f1 := flat2 hkl ys (k + k2) 1 hi4 (by omega) (v := .int .i64 ys[k + k2].b) rfl
          have e0 := flat2 hkl ys (k + (k2 - 1)) 0 hi5 (by omega) (v := .int .i64 ys[k + (k2 - 1)].a) rfl
          have e1 := flat2 hkl ys (k + (k2 - 1)) 1 hi5 (by omega) (v := .int .i64 ys[k + (k2 - 1)].b) rfl
          have g1 := hr (k + k2) hi4 hi2 (by omega)
          have g2 := hr (k + (k2 - 1)) hi5 (by omega) (by omega)
          have hdt := dd_take (xs := xs) (i := k + k2) (by omega) hi2
          have hix : xs[k + (k2 - 1)]'(by omega) = xs[k + k2 - 1]'(by omega) := by congr 1; omega
          have hS := hS.drew
          refine CW.draw 10 (.ex 0 <| .ex 1 <| .ex 2 <| .ex 3 <| .ex 4 <| .ex 5 <| .ex 6 <| .ex 7 <| .ex 8 <| .ex 9 <| .done) [] (Rd _ _) mixed (by kernel_rfl) rfl rfl hS.rd ?_
          refine PW.ex rfl rfl rfl rfl (Ex.move rfl) ?_
          refine PW.ex rfl rfl rfl rfl (Ex.move rfl) ?_
          refine PW.ex rfl rfl rfl rfl (Ex.indexSl Try.underlying120 ti125 rfl rfl rfl (by omega)) ?_
          refine PW.ex rfl rfl rfl rfl (Ex.load2c ti125 rfl rfl (slT (v := .int .i64 ys[k + k2].a) (by rw [show 0 + k * 2 + k2 * 2 = (k + k2) * 2 + 0 by omega]; exact f0)) (slT (v := .int .i64 ys[k + k2].b) (by rw [show 0 + k * 2 + k2 * 2 + 1 = (k + k2) * 2 + 1 by omega]; exact f1))) ?_
          refine PW.ex rfl rfl rfl rfl (Ex.move rfl) ?_
          refine PW.ex rfl rfl rfl rfl (Ex.move rfl) ?_
          refine PW.ex rfl rfl rfl rfl (Ex.sub rfl rfl (by first | exact dec64 (by omega) (by omega) | exact subN (by omega) (by omega) | exact w64 (by omega) (by omega))) ?_
          refine PW.ex rfl rfl rfl rfl (Ex.indexSl Try.underlying120 ti125 rfl rfl rfl (by omega)) ?_
          refine PW.ex rfl rfl rfl rfl (Ex.load2c ti125 rfl rfl (slT (v := .int .i64 ys[k + (k2 - 1)].a) (by rw [show 0 + k * 2 + (k2 - 1) * 2 = (k + (k2 - 1)) * 2 + 0 by omega]; exact e0)) (slT (v := .int .i64 ys[k + (k2 - 1)].b) (by rw [show 0 + k * 2 + (k2 - 1) * 2 + 1 = (k + (k2 - 1)) * 2 + 1 by omega]; exact e1))) ?_
          refine PW.ex rfl rfl rfl rfl (Ex.neqSt (by kernel_rfl) rfl rfl (i2Eq ys[k + k2] ys[k + (k2 - 1)])) ?_
          refine PW.splitB (fun h11_9 => ?_) (fun h11_9 => ?_)
          · have h11_9 : ys[k + k2] ≠ ys[k + (k2 - 1)] := by simpa using h11_9
            have hne : xs[k + k2 - 1] ≠ xs[k + k2] := fun e => h11_9 (by rw [g1, g2, hix]; exact e.symm)
            rw [if_neg hne, ← hdq] at hdt
            refine PW.nil ?_
            refine LW.nil fun aa ha => hK17 _ _ _ ?_ aa ha
            refine CW.yes rfl ?_
            refine CW.seq fun K18 hK18 => ?_
            refine CW.region [0, 1, 2, 3, 4, 5, 6, 7] rfl ?_
            refine LW.ex rfl rfl rfl rfl (Ex.move rfl) hS.rd ?_
            refine LW.ex rfl rfl rfl rfl (Ex.move rfl) hS.rd ?_
            refine LW.ex rfl rfl rfl rfl (Ex.move rfl) hS.rd ?_
            refine LW.ex rfl rfl rfl rfl (Ex.move rfl) hS.rd ?_
            refine LW.ex rfl rfl rfl rfl (Ex.indexSl Try.underlying120 ti125 rfl rfl rfl (by omega)) hS.rd ?_
            refine LW.ex rfl rfl rfl rfl (Ex.load2c ti125 rfl rfl (slT (v := .int .i64 ys[k + k2].a) (by rw [show 0 + k * 2 + k2 * 2 = (k + k2) * 2 + 0 by omega]; exact f0)) (slT (v := .int .i64 ys[k + k2].b) (by rw [show 0 + k * 2 + k2 * 2 + 1 = (k + k2) * 2 + 1 by omega]; exact f1))) hS.rd ?_
            refine LW.ex rfl rfl rfl rfl (Ex.indexSl Try.underlying120 ti125 rfl rfl rfl (by omega)) hS.rd ?_
            refine LW.hu rfl rfl rfl (Hv.storeSlN (k := 0) (vs := i2L ys[k + k2]) ti125 hS rfl rfl rfl (by rw [flatMap_len hkl, hkl]; omega) (i2One _)) fun _ w_7 hS => ?_
            dsimp only [List.set] at hS
            rw [show 0 + q * 2 = q * 2 by omega, hkl, flatMap_set hkl ys q _ (by omega)] at hS
            refine LW.nil fun aa ha => hK18 _ _ _ ?_ aa ha
            refine CW.region [0, 1, 2] rfl ?_
            refine LW.ex rfl rfl rfl rfl (Ex.move rfl) hS.rd ?_
            refine LW.ex rfl rfl rfl rfl (Ex.add rfl rfl (by first | exact inc64 (by omega) | exact addN (by omega) | exact w64 (by omega) (by omega))) hS.rd ?_
            refine LW.ex rfl rfl rfl rfl (Ex.assign rfl) hS.rd ?_
            refine LW.nil fun aa ha => hK16 _ _ _ ?_ aa ha
            refine CW.region [0, 1, 2] rfl ?_
            refine LW.ex rfl rfl rfl rfl (Ex.move rfl) hS.rd ?_
            refine LW.ex rfl rfl rfl rfl (Ex.add rfl rfl (by first | exact inc64 (by omega) | exact addN (by omega) | exact w64 (by omega) (by omega))) hS.rd ?_
            refine LW.ex rfl rfl rfl rfl (Ex.assign rfl) hS.rd ?_
            refine LW.nil fun aa ha => ?_
            refine ⟨_, _, ?m9, ⟨k2 + 1, q + 1, ys.set q ys[k + k2], (by first | omega | (simp; done) | (simp; omega)), (by first | omega | (simp; done) | (simp; omega)), (by first | omega | (simp; done) | (simp; omega)), (by first | omega | (simp; done) | (simp; omega)), (by first | omega | (simp; done) | (simp; omega)), rfl, rfl, hS, by rw [← Nat.add_assoc, hdt, List.take_succ_eq_append_getElem (by rw [List.length_set]; omega), List.getElem_set_self, List.take_set_of_le (Nat.le_refl _), g1], fun j h h' hj => by rw [List.getElem_set_ne (by omega)]; exact hr j _ h' (by omega)⟩, ha.sub ⟨rfl, rfl, rfl, rfl, trivial⟩⟩
            case m9 => omega
          · have h11_9 : ys[k + k2] = ys[k + (k2 - 1)] := by simpa using h11_9
            have hne : xs[k + k2 - 1] = xs[k + k2] := by rw [g1, g2, hix] at h11_9; exact h11_9.symm
            rw [if_pos hne, ← hdq] at hdt
            refine PW.nil ?_
            refine LW.nil fun aa ha => hK17 _ _ _ ?_ aa ha
            refine CW.no rfl ?_
            refine CW.skip fun aa ha => hK16 _ _ _ ?_ aa ha
            refine CW.region [0, 1, 2] rfl ?_
            refine LW.ex rfl rfl rfl rfl (Ex.move rfl) hS.rd ?_
            refine LW.ex rfl rfl rfl rfl (Ex.add rfl rfl (by first | exact inc64 (by omega) | exact addN (by omega) | exact w64 (by omega) (by omega))) hS.rd ?_
            refine LW.ex rfl rfl rfl rfl (Ex.assign rfl) hS.rd ?_
            refine LW.nil fun aa ha => ?_
            refine ⟨_, _, ?m9, ⟨k2 + 1, q, ys, (by first | omega | (simp; done) | (simp; omega)), (by first | omega | (simp; done) | (simp; omega)), (by first | omega | (simp; done) | (simp; omega)), (by first | omega | (simp; done) | (simp; omega)), (by first | omega | (simp; done) | (simp; omega)), rfl, rfl, hS, by rw [← Nat.add_assoc, hdt], fun j h h' hj => hr j h h' (by omega)⟩, ha.sub ⟨rfl, rfl, rfl, rfl, trivial⟩⟩
            case m9 => omega
        · have h9_3 := of_decide_eq_false h9_3
          refine LW.nil fun aa ha => hK15 _ _ _ ?_ aa ha
          refine CW.no rfl ?_
          refine CW.exit fun aa ha => hK12 _ _ _ ?_ aa ha
          refine CW.seq fun K19 hK19 => ?_
          have hke : k + k2 = xs.length := by omega
          rw [hke, List.take_length] at hdq
          have hql : q < n := by omega
          have hqe : q = (dd xs).length := by rw [← hdq, List.length_take]; omega
          obtain ⟨rest, hrl, hS⟩ := hS.open_sl 0 rfl
          dsimp only [List.set] at hS
          refine CW.region [0, 1, 2, 3] rfl ?_
          refine LW.ex rfl rfl rfl rfl (Ex.move rfl) hS.rd ?_
          refine LW.ex rfl rfl rfl rfl (Ex.move rfl) hS.rd ?_
          refine LW.ex rfl rfl rfl rfl (Ex.sliceFrom Try.underlying120 ti125 rfl rfl rfl (by omega) (by omega)) hS.rd ?_
          obtain ⟨Z, hZ⟩ : ∃ Z, (Builtin.zeroCells (Value.cells (.agg #[.int .i64 0, .int .i64 0])) (n - q)).toList = Z := ⟨_, rfl⟩
          have hZl : Z.length = (n - q) * 2 := by rw [← hZ, Array.length_toList, size_zeroCells]; rfl
          have hZ1 : ∀ v ∈ Z, v.oneCell' = true := by rw [← hZ]; exact zeroCells_one
          have hzl : 0 + q * 2 + Z.length ≤ (ys.flatMap i2L ++ rest).length := by rw [hZl, List.length_append, flatMap_len hkl]; omega
          refine LW.hu rfl rfl rfl (Hv.clearObj (k := 0) rfl Try.underlying120 ti125 hZ hzl hZ1 (by omega) hS rfl rfl) fun _ w_3 hS => ?_
          replace hS := hS.2
          dsimp only [List.set] at hS
          refine LW.nil fun aa ha => hK19 _ _ _ ?_ aa ha
          refine CW.seq fun K20 hK20 => ?_
          have hS := hS.close_sl 0 rfl q c 2 (by omega) hcap2 (by simp only [List.length_append, List.length_take, List.length_drop, flatMap_len hkl, hZl, hrl]; omega)
          dsimp only [List.set] at hS
          have hcells : ((ys.flatMap i2L ++ rest).take (0 + q * 2) ++ Z ++ (ys.flatMap i2L ++ rest).drop (0 + q * 2 + Z.length)).take (q * 2) = (dd xs).flatMap i2L := by
            rw [List.append_assoc, List.take_append_of_le_length (by rw [List.length_take, List.length_append, flatMap_len hkl]; omega), Nat.zero_add, List.take_take, Nat.min_self, List.take_append_of_le_length (by rw [flatMap_len hkl]; omega), flatMap_take hkl, hdq]
          rw [hcells] at hS
          refine CW.region [0, 1, 2, 3] rfl ?_
          refine LW.ex rfl rfl rfl rfl (Ex.move rfl) hS.rd ?_
          refine LW.ex rfl rfl rfl rfl (Ex.move rfl) hS.rd ?_
          refine LW.ex rfl rfl rfl rfl (Ex.sliceTo Try.underlying120 ti125 rfl rfl rfl (by omega)) hS.rd ?_
          refine LW.ex rfl rfl rfl rfl (Ex.assign rfl) hS.rd ?_
          refine LW.nil fun aa ha => hK20 _ _ _ ?_ aa ha
          refine CW.ret fun aa ha => ?_
          refine ret_one ha Try.results75 rfl ?_
          exact ⟨_, rfl, by rw [hqe], by rw [← hqe]; exact hS⟩
      · have h6_9 := of_decide_eq_false h6_9
        refine PW.nil ?_
        refine LW.nil fun aa ha => hK10 _ _ _ ?_ aa ha
        refine CW.no rfl ?_
        refine CW.skip fun aa ha => hK9 _ _ _ ?_ aa ha
        refine CW.region [0, 1, 2] rfl ?_
        refine LW.ex rfl rfl rfl rfl (Ex.move rfl) hS.rd ?_
        refine LW.ex rfl rfl rfl rfl (Ex.add rfl rfl (by first | exact inc64 (by omega) | exact addN (by omega) | exact w64 (by omega) (by omega))) hS.rd ?_
        refine LW.ex rfl rfl rfl rfl (Ex.assign rfl) hS.rd ?_
        refine LW.nil fun aa ha => ?_
        refine ⟨_, _, ?m4, ⟨k + 1, (by first | omega | (simp; done) | (simp; omega)), (by first | omega | (simp; done) | (simp; omega)), rfl, rfl, hS, by rw [hdt, if_neg (fun e => h6_9 e.symm), hd, List.take_succ_eq_append_getElem hk2]⟩, ha.sub ⟨rfl, rfl, trivial⟩⟩
        case m4 => omega
    · have h4_3 := of_decide_eq_false h4_3
      refine LW.nil fun aa ha => hK8 _ _ _ ?_ aa ha
      refine CW.no rfl ?_
      refine CW.exit fun aa ha => hK5 _ _ _ ?_ aa ha
      refine CW.seq fun K21 hK21 => ?_
      refine CW.region [0, 1] rfl ?_
      refine LW.ex rfl rfl rfl rfl (Ex.move rfl) hS.rd ?_
      refine LW.ex rfl rfl rfl rfl (Ex.assign rfl) hS.rd ?_
      refine LW.nil fun aa ha => hK21 _ _ _ ?_ aa ha
      refine CW.ret fun aa ha => ?_
      refine ret_one ha Try.results75 rfl ?_
      have hke : k = xs.length := by omega
      rw [hke, List.take_length] at hd
      exact ⟨_, rfl, by rw [hd, hn], by rw [hd, ← hn]; exact hS⟩
end Go.Proofs.Ytgnpjhellmfhoaa

/-
  Context: the nodes, in plain Lean and in the program.
-/
namespace Go.Proofs.Ytgnpjhellmfhoaa
open Go.RowKit Sy Go.Sort

theorem ndLt_irr (x : I2) : ¬ ndLt x x := by unfold ndLt; omega
theorem ndLt_asym (x y : I2) : ndLt x y → ¬ ndLt y x := by unfold ndLt; omega
theorem ndLt_trans {x y z : I2} : ndLt x y → ndLt y z → ndLt x z := by unfold ndLt; omega
theorem ndLt_tot {x y : I2} (h : ¬ ndLt y x) : x = y ∨ ndLt x y := by
  by_cases h1 : x = y
  · exact .inl h1
  · right
    have : ¬ (x.a = y.a ∧ x.b = y.b) := fun e => h1 (i2_ext e.1 e.2)
    unfold ndLt at *; omega
theorem dd_mem (z : I2) : ∀ xs : List I2, z ∈ dd xs ↔ z ∈ xs
  | [] => by simp [dd]
  | [a] => by simp [dd]
  | a :: b :: r => by
    have ih := dd_mem z (b :: r)
    rw [dd]
    split
    · rename_i h; subst h; rw [ih]; simp
    · rw [List.mem_cons, ih, List.mem_cons]; simp
theorem dd_strict : ∀ xs : List I2, xs.Pairwise (fun x y => ¬ ndLt y x) → (dd xs).Pairwise ndLt
  | [], _ => by simp [dd]
  | [a], _ => by simp [dd]
  | a :: b :: r, h => by
    have h' := List.pairwise_cons.1 h
    have ih := dd_strict (b :: r) h'.2
    rw [dd]
    split
    · exact ih
    · rename_i hne
      refine List.pairwise_cons.2 ⟨fun y hy => ?_, ih⟩
      rw [dd_mem] at hy
      have hab : ndLt a b := (ndLt_tot (h'.1 b (List.mem_cons_self ..))).resolve_left hne
      rcases List.mem_cons.1 hy with rfl | hy
      · exact hab
      · rcases ndLt_tot ((List.pairwise_cons.1 h'.2).1 y hy) with rfl | h2
        · exact hab
        · exact ndLt_trans hab h2
def endsL (x : Lat) : List I2 := (x.Edges.filter fun e => decide (e.To < x.N)).map fun e => ⟨e.To, e.Word⟩
def endsAt (x : Lat) (p w : Nat) : Bool := x.Edges.any fun e => decide (e.To = p ∧ e.Word = w)
/-- The nodes between the first and the last one. -/
def midR (x : Lat) (n : Nat) : List I2 := (List.range' 1 (x.N.toNat - 1)).flatMap fun p => ((List.range n).filter fun w => endsAt x p w).map fun (w : Nat) => (⟨p, w⟩ : I2)
theorem midR_mem {x : Lat} {n : Nat} {z : I2} : z ∈ midR x n ↔ ∃ p w : Nat, 1 ≤ p ∧ p < x.N.toNat ∧ w < n ∧ endsAt x p w = true ∧ z = ⟨p, w⟩ := by
  unfold midR
  simp only [List.mem_flatMap, List.mem_range'_1, List.mem_map, List.mem_filter, List.mem_range]
  constructor
  · rintro ⟨p, hp, w, ⟨h1, h2⟩, rfl⟩; exact ⟨p, w, by omega, by omega, h1, h2, rfl⟩
  · rintro ⟨p, w, h1, h2, h3, h4, rfl⟩; exact ⟨p, by omega, w, ⟨h3, h4⟩, rfl⟩
theorem midR_strict (x : Lat) (n : Nat) : (midR x n).Pairwise ndLt := by
  unfold midR
  rw [List.pairwise_flatMap]
  refine ⟨fun p _ => ?_, ?_⟩
  · rw [List.pairwise_map]
    refine (List.Pairwise.filter _ List.pairwise_lt_range).imp fun {a b} h => ?_
    exact .inr ⟨rfl, Int.ofNat_lt.2 h⟩
  · refine (List.pairwise_lt_range' 1 (by omega)).imp fun {p q} h => fun y hy z hz => ?_
    obtain ⟨w, _, rfl⟩ := List.mem_map.1 hy
    obtain ⟨w', _, rfl⟩ := List.mem_map.1 hz
    unfold ndLt; simp only; omega
theorem okX_edges {x : Lat} (h : okX x = true) : (0 ≤ x.N ∧ x.N ≤ 40 ∧ x.Edges.length ≤ 20000) ∧ (∀ e ∈ x.Edges, 0 ≤ e.From ∧ e.From < e.To ∧ e.To ≤ x.N ∧ 0 ≤ e.Word ∧ e.Word ≤ 199 ∧ 0 ≤ e.Cost ∧ e.Cost ≤ 1000000) ∧ x.Edges.Pairwise fun a b => edLess a b = true := by
  unfold okX at h
  rw [Bool.and_eq_true, decide_eq_true_eq] at h
  refine ⟨h.1, fun e he => edIn_iff.1 (rises_all h.2 e he), (rises_pair (fun a b c h1 h2 => ?_) h.2).1⟩
  rw [edLess_iff] at *; omega
theorem mid_of {x : Lat} {n : Nat} (hx : okX x = true) (hw : wordsIn x n = true) {ys : List I2} (hp : ys.Perm (endsL x)) (hs : ys.Pairwise fun a b => ¬ ndLt b a) : dd ys = midR x n := by
  obtain ⟨h1, h2, _⟩ := okX_edges hx
  unfold wordsIn at hw
  rw [List.all_eq_true] at hw
  refine strict_ext ndLt_irr ndLt_asym (dd_strict ys hs) (midR_strict x n) fun z => ?_
  rw [dd_mem, hp.mem_iff, midR_mem]
  unfold endsL endsAt
  simp only [List.mem_map, List.mem_filter, decide_eq_true_eq, List.any_eq_true]
  constructor
  · rintro ⟨e, ⟨he, hN⟩, rfl⟩
    have h3 := h2 e he
    have h4 := of_decide_eq_true (hw e he)
    exact ⟨e.To.toNat, e.Word.toNat, by omega, by omega, by omega, ⟨e, he, by omega, by omega⟩, by congr 1 <;> omega⟩
  · rintro ⟨p, w, h3, h4, h5, ⟨e, he, h6, h7⟩, rfl⟩
    exact ⟨e, ⟨he, by omega⟩, by rw [h6, h7]⟩
def nodesL (x : Lat) (n : Nat) (p : Int) : List I2 := ⟨0, p⟩ :: (midR x n ++ if 0 < x.N then [⟨x.N, -1⟩] else [])
theorem nodesL_strict {x : Lat} (hx : okX x = true) (n : Nat) (p : Int) : (nodesL x n p).Pairwise ndLt := by
  obtain ⟨h1, h2, _⟩ := okX_edges hx
  unfold nodesL
  refine List.pairwise_cons.2 ⟨fun z hz => ?_, List.pairwise_append.2 ⟨midR_strict x n, ?_, fun y hy z hz => ?_⟩⟩
  · rcases List.mem_append.1 hz with hz | hz
    · obtain ⟨q, w, h3, h4, _, _, rfl⟩ := midR_mem.1 hz
      unfold ndLt; simp only; omega
    · split at hz
      · obtain rfl := List.mem_singleton.1 hz
        unfold ndLt; simp only; omega
      · cases hz
  · split <;> simp
  · obtain ⟨q, w, h3, h4, _, _, rfl⟩ := midR_mem.1 hy
    split at hz
    · obtain rfl := List.mem_singleton.1 hz
      unfold ndLt; simp only; omega
    · cases hz
theorem endsL_len (x : Lat) : (endsL x).length ≤ x.Edges.length := by unfold endsL; rw [List.length_map]; exact List.length_filter_le _ _
theorem endsL_take {x : Lat} {i : Nat} (h : i < x.Edges.length) : endsL ⟨x.N, x.Edges.take (i + 1)⟩ = endsL ⟨x.N, x.Edges.take i⟩ ++ if x.Edges[i].To < x.N then [⟨x.Edges[i].To, x.Edges[i].Word⟩] else [] := by
  unfold endsL
  rw [List.take_succ_eq_append_getElem h, List.filter_append, List.map_append]
  congr 1
  by_cases h1 : x.Edges[i].To < x.N
  · simp [h1]
  · simp [h1]

/-! ### The walk -/
theorem nodupI {l : List I2} (h : l.Pairwise ndLt) {i j : Nat} (hi : i < l.length) (hj : j < l.length) (he : l[i] = l[j]) : i = j := by
  rcases Nat.lt_trichotomy i j with h1 | h1 | h1
  · have := List.pairwise_iff_getElem.1 h i j hi hj h1; rw [he] at this; exact absurd this (ndLt_irr _)
  · exact h1
  · have := List.pairwise_iff_getElem.1 h j i hj hi h1; rw [he] at this; exact absurd this (ndLt_irr _)
theorem nodesL_small {x : Lat} {n : Nat} {p : Int} (hp : -1 ≤ p ∧ p < n) (hn : n ≤ 200) (hx : okX x = true) : ∀ z ∈ nodesL x n p, (0 ≤ z.a ∧ z.a ≤ 40) ∧ (-1 ≤ z.b ∧ z.b ≤ 200) := by
  obtain ⟨h1, h2, _⟩ := okX_edges hx
  intro z hz
  unfold nodesL at hz
  rcases List.mem_cons.1 hz with rfl | hz
  · simp only; omega
  · rcases List.mem_append.1 hz with hz | hz
    · obtain ⟨q, w, h3, h4, h5, _, rfl⟩ := midR_mem.1 hz
      simp only; omega
    · split at hz
      · obtain rfl := List.mem_singleton.1 hz
        simp only; omega
      · cases hz
theorem laidK : laidOutB Try.prog = true := by kernel_rfl
theorem encNd : EncK Try.prog 125 KPair.val := encK2 laidK (of_decide_eq_true (by kernel_rfl)) (by kernel_rfl) (by kernel_rfl) Try.underlying125 Try.underlying3 (by kernel_rfl) (by kernel_rfl)
  (fun a b => by simp [Value.formed, Try.underlying125, show Try.prog.cellsOf 125 = 2 by kernel_rfl]) ⟨Try.prog.types.size - 1, by kernel_rfl⟩
def keyN (z : I2) (h : (0 ≤ z.a ∧ z.a ≤ 40) ∧ (-1 ≤ z.b ∧ z.b ≤ 200)) : KPair := ⟨(z.a, z.b), by simp only; omega⟩
set_option maxRecDepth 100000 in
set_option maxHeartbeats 1000000 in
theorem nodes_c {w0 w : World} {μ : Mem} {L : List Own} (x : Lat) (n : Nat) (p : Int) (hx : okX x = true) (hn : n ≤ 200) (hw : wordsIn x n = true) (hp : -1 ≤ p ∧ p < n) (a3 : Option Addr) (c3 : Nat) (hS : St w0 w μ L) (hl : Sl μ a3 c3 x.Edges) :
    Calls Try.prog 55 #[.agg #[.int .i64 x.N, .slice a3 x.Edges.length c3], .int .i64 p] w (RetM fun v w' => ∃ ad c mb kv, v = .tuple #[.slice ad (nodesL x n p).length c, .map (some mb)] ∧
      St w0 w' μ (Own.mp KPair.val (fun (i : Nat) => .int .i64 i) mb kv :: Own.sl ad (nodesL x n p).length c 125 2 ((nodesL x n p).flatMap i2L) :: L) ∧
      ∀ i (h : i < (nodesL x n p).length) (k : KPair), 0 < i → k.1 = ((nodesL x n p)[i].a, (nodesL x n p)[i].b) → aget kv k = some i) := by
  obtain ⟨⟨hN0, hN1, hE⟩, hed, _⟩ := okX_edges hx
  have hkl : ∀ x, (i2L x).length = 2 := fun _ => rfl
  have hn1 : nodesL x n p = ⟨0, p⟩ :: (midR x n ++ if 0 < x.N then [⟨x.N, -1⟩] else []) := rfl
  have hsm := nodesL_small hp hn hx
  have hst := nodesL_strict hx n p
  refine calls_start 76 [.agg #[.int .i64 x.N, .slice a3 x.Edges.length c3], .int .i64 p] Try.func55 rfl Try.ntmps55 rfl rfl ?_
  refine CW.seq fun K1 hK1 => ?_
  refine CW.region [0, 1, 2] rfl ?_
  refine LW.hv rfl rfl rfl rfl (Hv.boxS hS rfl rfl) fun v w2 ⟨b2, hv, hb2, hS⟩ => ?_
  subst hv
  refine LW.ex rfl rfl rfl rfl (Ex.assign rfl) hS.rd ?_
  refine LW.ex rfl rfl rfl rfl (Ex.assign rfl) hS.rd ?_
  refine LW.nil fun aa ha => hK1 _ _ _ ?_ aa ha
  refine CW.seq fun K2 hK2 => ?_
  have hJr1 : ∀ (wj : World) (b6 : Nat) (b7 : Nat), St w0 wj μ (Own.obj b7 [.int .i64 x.N, .int .i64 (-1)] 125 :: Own.obj b6 [.int .i64 0, .int .i64 p] 125 :: Own.obj b2 [.int .i64 x.N, .slice a3 x.Edges.length c3] 38 :: L) → KW K2 76 [(2, .pointer (some ⟨b2, 0, none⟩)), (6, .pointer (some ⟨b6, 0, none⟩)), (7, .pointer (some ⟨b7, 0, none⟩))] wj := by
    intro wj b6 b7 hS 
    refine hK2 _ _ _ ?_
    refine CW.seq fun K3 hK3 => ?_
    refine CW.region [0, 1] rfl ?_
    refine LW.hv rfl rfl rfl rfl (Hv.buildSl hS Try.underlying120 ti125 rfl rfl rfl rfl rfl rfl) fun v w19 ⟨b19, hv, hb19, hS⟩ => ?_
    subst hv
    have hS := hS.row_sl (k := 0) rfl 0 2 rfl (by simp [maxLen])
    dsimp only [List.set] at hS
    refine LW.ex rfl rfl rfl rfl (Ex.assign rfl) hS.rd ?_
    refine LW.nil fun aa ha => hK3 _ _ _ ?_ aa ha
    refine CW.seq fun K4 hK4 => ?_
    refine CW.seq fun K5 hK5 => ?_
    refine CW.region [0, 1, 2, 3] rfl ?_
    refine LW.ex rfl rfl rfl rfl (Ex.fieldO 1 Try.underlying38 rfl rfl ti36 rfl) hS.rd ?_
    refine LW.ex rfl rfl rfl rfl (Ex.load1 ti36 rfl rfl (by first | exact obT rfl | exact Rd.imm ‹_› | exact slT ‹_›)) hS.rd ?_
    refine LW.ex rfl rfl rfl rfl (Ex.lenSl rfl Try.underlying36 rfl) hS.rd ?_
    refine LW.ex rfl rfl rfl rfl (Ex.move rfl) hS.rd ?_
    refine LW.nil fun aa ha => hK5 _ _ _ ?_ aa ha
    refine CW.block ?_
    refine CW.loop (fun qq frm wl4 => ∃ (i : Nat) (g : Nat) (c : Nat) (l : Nat) (ls : List I2), i ≤ x.Edges.length ∧ l = ls.length ∧ qq = x.Edges.length - i ∧ frm = [(2, .pointer (some ⟨b2, 0, none⟩)), (6, .pointer (some ⟨b6, 0, none⟩)), (7, .pointer (some ⟨b7, 0, none⟩)), (8, .slice (some ⟨g, 0, none⟩) l c), (21, .slice a3 x.Edges.length c3), (22, .int .i64 x.Edges.length), (23, .int .i64 i)] ∧ St w0 wl4 μ (Own.sl (some ⟨g, 0, none⟩) l c 125 2 (ls.flatMap i2L) :: Own.obj b7 [.int .i64 x.N, .int .i64 (-1)] 125 :: Own.obj b6 [.int .i64 0, .int .i64 p] 125 :: Own.obj b2 [.int .i64 x.N, .slice a3 x.Edges.length c3] 38 :: L) ∧ (ls = endsL ⟨x.N, x.Edges.take i⟩)) _ ⟨0, b19, 0, 0, [], (by first | omega | (simp; done) | (simp; omega)), (by first | omega | (simp; done) | (simp; omega)), rfl, rfl, hS, rfl⟩ ⟨rfl, rfl, rfl, rfl, rfl, rfl, rfl, trivial⟩ ?_
    clear hS
    rintro qq frm wl4 ⟨i, g, c, l, ls, hi, hll, hq, rfl, hS, hls⟩
    refine CW.seq fun K6 hK6 => ?_
    refine CW.region [0] rfl ?_
    refine LW.ex rfl rfl rfl rfl (Ex.lss rfl rfl rfl) hS.rd ?_
    refine LW.splitB (fun h4_0 => ?_) (fun h4_0 => ?_)
    · have h4_0 := of_decide_eq_true h4_0
      refine LW.nil fun aa ha => hK6 _ _ _ ?_ aa ha
      refine CW.seq fun K7 hK7 => ?_
      refine CW.yes rfl ?_
      refine CW.skip fun aa ha => hK7 _ _ _ ?_ aa ha
      refine CW.seq fun K8 hK8 => ?_
      refine CW.block ?_
      refine CW.seq fun K9 hK9 => ?_
      have hi2 : i < x.Edges.length := by omega
      obtain ⟨bl, ol, rfl, k0, k1, k2, k3⟩ := hl.at hi2
      have hle := endsL_take hi2
      have hll2 : ls.length ≤ i := by rw [hls]; exact Nat.le_trans (endsL_len _) (by rw [List.length_take]; omega)
      refine CW.region [0, 1, 2, 3] rfl ?_
      refine LW.ex rfl rfl rfl rfl (Ex.indexSl Try.underlying36 ti43 rfl rfl rfl (by omega)) hS.rd ?_
      refine LW.ex rfl rfl rfl rfl (Ex.load4c ti43 rfl rfl (by first | exact obT rfl | exact Rd.imm ‹_› | exact slT ‹_›) (by first | exact obT rfl | exact Rd.imm ‹_› | exact slT ‹_›) (by first | exact obT rfl | exact Rd.imm ‹_› | exact slT ‹_›) (by first | exact obT rfl | exact Rd.imm ‹_› | exact slT ‹_›)) hS.rd ?_
      refine LW.hv rfl rfl rfl rfl (Hv.alloc ti43 hS) fun v w10 ⟨b10, hv, hb10, hS⟩ => ?_
      subst hv
      refine LW.hu rfl rfl rfl (Hv.storeN (k := 0) ti43 hS rfl rfl rfl rfl (by simp [Value.oneCell'])) fun _ w_3 hS => ?_
      dsimp only [List.set] at hS
      refine LW.nil fun aa ha => hK9 _ _ _ ?_ aa ha
      refine CW.seq fun K10 hK10 => ?_
      refine CW.region [0, 1, 2, 3, 4] rfl ?_
      refine LW.ex rfl rfl rfl rfl (Ex.fieldO 1 Try.underlying43 rfl rfl ti3 rfl) hS.rd ?_
      refine LW.ex rfl rfl rfl rfl (Ex.load1 ti3 rfl rfl (by first | exact obT rfl | exact Rd.imm ‹_› | exact slT ‹_›)) hS.rd ?_
      refine LW.ex rfl rfl rfl rfl (Ex.fieldO 0 Try.underlying38 rfl rfl ti3 rfl) hS.rd ?_
      refine LW.ex rfl rfl rfl rfl (Ex.load1 ti3 rfl rfl (by first | exact obT rfl | exact Rd.imm ‹_› | exact slT ‹_›)) hS.rd ?_
      refine LW.ex rfl rfl rfl rfl (Ex.lss rfl rfl rfl) hS.rd ?_
      refine LW.splitB (fun h6_4 => ?_) (fun h6_4 => ?_)
      · have h6_4 := of_decide_eq_true h6_4
        refine LW.nil fun aa ha => hK10 _ _ _ ?_ aa ha
        refine CW.yes rfl ?_
        refine CW.region [0, 1, 2, 3, 4, 5, 6, 7, 8] rfl ?_
        refine LW.ex rfl rfl rfl rfl (Ex.move rfl) hS.rd ?_
        refine LW.ex rfl rfl rfl rfl (Ex.fieldO 1 Try.underlying43 rfl rfl ti3 rfl) hS.rd ?_
        refine LW.ex rfl rfl rfl rfl (Ex.load1 ti3 rfl rfl (by first | exact obT rfl | exact Rd.imm ‹_› | exact slT ‹_›)) hS.rd ?_
        refine LW.ex rfl rfl rfl rfl (Ex.fieldO 2 Try.underlying43 rfl rfl ti3 rfl) hS.rd ?_
        refine LW.ex rfl rfl rfl rfl (Ex.load1 ti3 rfl rfl (by first | exact obT rfl | exact Rd.imm ‹_› | exact slT ‹_›)) hS.rd ?_
        refine LW.ex rfl rfl rfl rfl (Ex.buildA ti125 ti3 rfl rfl rfl) hS.rd ?_
        refine LW.hv rfl rfl rfl rfl (Hv.buildSl hS Try.underlying120 ti125 rfl rfl rfl rfl rfl rfl) fun v w38 ⟨b38, hv, hb38, hS⟩ => ?_
        subst hv
        refine LW.hv rfl rfl rfl rfl (Hv.append (k := 2) rfl Try.underlying120 ti125 rfl hS rfl rfl rfl rfl (Rd.objAll (k := 0) rfl hS.rd) (by simp [Value.oneCell']) (by unfold maxLen; omega) (by omega)) fun v w39 ⟨ad39, c39, hv, hS⟩ => ?_
        subst hv
        dsimp only [List.set] at hS
        have hS := hS.drop 0 rfl
        dsimp only [List.eraseIdx] at hS
        rw [show ls.flatMap i2L ++ [Value.int .i64 x.Edges[i].To, .int .i64 x.Edges[i].Word] = (ls ++ [(⟨x.Edges[i].To, x.Edges[i].Word⟩ : I2)]).flatMap i2L by rw [List.flatMap_append]; rfl] at hS
        refine LW.ex rfl rfl rfl rfl (Ex.assign rfl) hS.rd ?_
        refine LW.nil fun aa ha => hK8 _ _ _ ?_ aa ha
        refine CW.region [0, 1] rfl ?_
        refine LW.ex rfl rfl rfl rfl (Ex.add rfl rfl (by first | exact inc64 (by omega) | exact addN (by omega) | exact w64 (by omega) (by omega))) hS.rd ?_
        refine LW.ex rfl rfl rfl rfl (Ex.move rfl) hS.rd ?_
        refine LW.nil fun aa ha => ?_
        have hS := hS.drop 0 rfl
        dsimp only [List.eraseIdx] at hS
        obtain ⟨g39, rfl⟩ := hS.sl_some 0 rfl (by omega)
        rw [if_pos h6_4] at hle
        refine ⟨_, _, ?m4, ⟨i + 1, g39, c39, l + 1, ls ++ [⟨x.Edges[i].To, x.Edges[i].Word⟩], (by first | omega | (simp; done) | (simp; omega)), (by first | omega | (simp; done) | (simp; omega)), rfl, rfl, hS, by rw [hle, ← hls]⟩, ha.sub ⟨rfl, rfl, rfl, rfl, rfl, rfl, rfl, trivial⟩⟩
        case m4 => omega
      · have h6_4 := of_decide_eq_false h6_4
        refine LW.nil fun aa ha => hK10 _ _ _ ?_ aa ha
        refine CW.no rfl ?_
        refine CW.skip fun aa ha => hK8 _ _ _ ?_ aa ha
        refine CW.region [0, 1] rfl ?_
        refine LW.ex rfl rfl rfl rfl (Ex.add rfl rfl (by first | exact inc64 (by omega) | exact addN (by omega) | exact w64 (by omega) (by omega))) hS.rd ?_
        refine LW.ex rfl rfl rfl rfl (Ex.move rfl) hS.rd ?_
        refine LW.nil fun aa ha => ?_
        have hS := hS.drop 0 rfl
        dsimp only [List.eraseIdx] at hS
        rw [if_neg h6_4] at hle
        refine ⟨_, _, ?m4, ⟨i + 1, g, c, l, ls, (by first | omega | (simp; done) | (simp; omega)), (by first | omega | (simp; done) | (simp; omega)), rfl, rfl, hS, by rw [hle, ← hls, List.append_nil]⟩, ha.sub ⟨rfl, rfl, rfl, rfl, rfl, rfl, rfl, trivial⟩⟩
        case m4 => omega
    · have h4_0 := of_decide_eq_false h4_0
      refine LW.nil fun aa ha => hK6 _ _ _ ?_ aa ha
      refine CW.seq fun K11 hK11 => ?_
      refine CW.no rfl ?_
      refine CW.exit fun aa ha => hK4 _ _ _ ?_ aa ha
      refine CW.seq fun K12 hK12 => ?_
      have hie : i = x.Edges.length := by omega
      rw [hie, List.take_length] at hls
      have hlb := endsL_len x
      subst hll
      have hlsl : ls.length ≤ 20000 := by rw [hls]; exact Nat.le_trans (endsL_len x) hE
      refine CW.region [0, 1] rfl ?_
      refine LW.ex rfl rfl rfl rfl (Ex.move rfl) hS.rd ?_
      refine LW.hv rfl rfl rfl rfl (Hv.sortBy (enc := i2L) (k := 2) (xs := ls) 0 hS rfl hkl (by omega) rfl rfl rfl rfl rfl cb73 (fun hH hg => sortNd_c g c ls.toArray _ hH hg (by simp; omega))) fun v w42 ⟨hv42, ys, hyp, hyw, hS⟩ => ?_
      subst hv42
      dsimp only [List.set] at hS
      refine LW.nil fun aa ha => hK12 _ _ _ ?_ aa ha
      refine CW.seq fun K13 hK13 => ?_
      have hyl := hyp.length_eq
      have hmid : dd ys = midR x n := mid_of hx hw (by rw [hls] at hyp; exact hyp) (hyw.imp fun {a b} h => by rw [ndLtOf] at h; exact of_decide_eq_false h)
      have hdl := dd_len ys
      have hS := hS.drew
      refine CW.draw 4 (.ex 0 <| .ex 2 <| .two 1 (.one 3 <| .done) 3 (.one 1 <| .done)) [4, 5] (Rd _ _) mixed (by kernel_rfl) rfl rfl (by have h := hS.rd.erase 0; dsimp only [List.eraseIdx] at h; exact h) ?_
      refine PW.ex rfl rfl rfl rfl (Ex.load2c ti125 rfl rfl (by first | exact obT rfl | exact Rd.imm ‹_› | exact slT ‹_›) (by first | exact obT rfl | exact Rd.imm ‹_› | exact slT ‹_›)) ?_
      refine PW.ex rfl rfl rfl rfl (Ex.move rfl) ?_
      refine PW.two rfl rfl rfl rfl rfl rfl rfl rfl (Hv.buildSl hS Try.underlying120 ti125 rfl rfl rfl rfl rfl rfl) (fun _ _ ⟨_, _, _, h⟩ => ((h.rd.tail).erase 0)) (Hv.callM rfl rfl rfl cb75 (compact_c (L := _ :: _ :: _ :: _) hS hyl.symm)) (fun _ _ h => h.2.rd.erase 0) (fun v w44 ⟨b44, hv, hb44, hS⟩ => ?gA14) (fun v w46 ⟨hv, hS⟩ => ?gB14)
      case gA14 =>
        skip
        subst hv
        have hS := hS.swap
        refine PW.hv rfl rfl rfl rfl (Hv.callM rfl rfl rfl cb75 (compact_c (L := _ :: _ :: _ :: _) hS hyl.symm)) (fun _ _ h => (h.2.rd.erase 0).tail) fun v w46 ⟨hv, hS⟩ => ?_
        subst hv
        have hS := hS.swap
        refine PW.nil ?_
        have hS := hS.row_sl (k := 0) rfl 1 2 rfl (by simp [maxLen])
        dsimp only [List.set] at hS
        refine LW.hv rfl rfl rfl rfl (Hv.append (k := 0) (vs := (dd ys).flatMap i2L) rfl Try.underlying120 ti125 rfl hS rfl rfl rfl (flatMap_len hkl _) (fun j u hu => by rw [Nat.zero_add]; exact Rd.sl (k := 1) rfl hu _ hS.rd) (i2Ones _) (by unfold maxLen; omega) (by omega)) fun v w47 ⟨ad47, c47, hv, hS⟩ => ?_
        subst hv
        dsimp only [List.set] at hS
        have hS := hS.drop 1 rfl
        dsimp only [List.eraseIdx] at hS
        refine LW.ex rfl rfl rfl rfl (Ex.assign rfl) hS.rd ?_
        refine LW.nil fun aa ha => hK13 _ _ _ ?_ aa ha
        refine CW.seq fun K15 hK15 => ?_
        have hJ11 : ∀ (wj : World) (g : Nat) (c : Nat), St w0 wj μ (Own.sl (some ⟨g, 0, none⟩) (nodesL x n p).length c 125 2 ((nodesL x n p).flatMap i2L) :: Own.obj b7 [.int .i64 x.N, .int .i64 (-1)] 125 :: Own.obj b6 [.int .i64 0, .int .i64 p] 125 :: Own.obj b2 [.int .i64 x.N, .slice a3 x.Edges.length c3] 38 :: L) → KW K15 76 [(6, .pointer (some ⟨b6, 0, none⟩)), (8, .slice (some ⟨g, 0, none⟩) (nodesL x n p).length c)] wj := by
          intro wj g c hS 
          refine hK15 _ _ _ ?_
          have hcap := hS.sl_cap 0 rfl
          obtain ⟨hcap1, hcap2⟩ := hcap
          simp only [maxLen] at hcap2
          have hnl1 : 1 ≤ (nodesL x n p).length := by rw [hn1]; simp
          refine CW.seq fun K16 hK16 => ?_
          refine CW.region [0, 1] rfl ?_
          refine LW.hv rfl rfl rfl rfl (Hv.makeMap KPair.val (fun (i : Nat) => .int .i64 i) hS) fun v w55 ⟨b55, hv, hb55, hS⟩ => ?_
          subst hv
          refine LW.ex rfl rfl rfl rfl (Ex.assign rfl) hS.rd ?_
          refine LW.nil fun aa ha => hK16 _ _ _ ?_ aa ha
          refine CW.seq fun K17 hK17 => ?_
          refine CW.seq fun K18 hK18 => ?_
          refine CW.region [0, 1, 2] rfl ?_
          refine LW.ex rfl rfl rfl rfl (Ex.move rfl) hS.rd ?_
          refine LW.ex rfl rfl rfl rfl (Ex.lenSl rfl Try.underlying120 rfl) hS.rd ?_
          refine LW.ex rfl rfl rfl rfl (Ex.move rfl) hS.rd ?_
          refine LW.nil fun aa ha => hK18 _ _ _ ?_ aa ha
          refine CW.block ?_
          refine CW.loop (fun qq frm wl15 => ∃ (i : Nat) (kv : List (KPair × Nat)), i ≤ (nodesL x n p).length ∧ qq = (nodesL x n p).length - i ∧ frm = [(6, .pointer (some ⟨b6, 0, none⟩)), (8, .slice (some ⟨g, 0, none⟩) (nodesL x n p).length c), (11, .map (some b55)), (56, .slice (some ⟨g, 0, none⟩) (nodesL x n p).length c), (57, .int .i64 (((nodesL x n p).length : Nat) : Int)), (58, .int .i64 i)] ∧ St w0 wl15 μ (Own.mp KPair.val (fun (i : Nat) => .int .i64 i) b55 kv :: Own.sl (some ⟨g, 0, none⟩) (nodesL x n p).length c 125 2 ((nodesL x n p).flatMap i2L) :: Own.obj b7 [.int .i64 x.N, .int .i64 (-1)] 125 :: Own.obj b6 [.int .i64 0, .int .i64 p] 125 :: Own.obj b2 [.int .i64 x.N, .slice a3 x.Edges.length c3] 38 :: L) ∧ (∀ j (h : j < (nodesL x n p).length) (k : KPair), 0 < j → j < i → k.1 = ((nodesL x n p)[j].a, (nodesL x n p)[j].b) → aget kv k = some j)) _ ⟨0, [], (by first | omega | (simp; done) | (simp; omega)), rfl, rfl, hS, fun j h k h0 hj => by omega⟩ ⟨rfl, rfl, rfl, rfl, rfl, rfl, trivial⟩ ?_
          clear hS
          rintro qq frm wl15 ⟨i, kv, hi, hq, rfl, hS, hkv⟩
          refine CW.seq fun K19 hK19 => ?_
          refine CW.region [0] rfl ?_
          refine LW.ex rfl rfl rfl rfl (Ex.lss rfl rfl rfl) hS.rd ?_
          refine LW.splitB (fun h15_0 => ?_) (fun h15_0 => ?_)
          · have h15_0 := of_decide_eq_true h15_0
            refine LW.nil fun aa ha => hK19 _ _ _ ?_ aa ha
            refine CW.seq fun K20 hK20 => ?_
            refine CW.yes rfl ?_
            refine CW.skip fun aa ha => hK20 _ _ _ ?_ aa ha
            refine CW.seq fun K21 hK21 => ?_
            refine CW.block ?_
            refine CW.seq fun K22 hK22 => ?_
            have hi2 : i < (nodesL x n p).length := by omega
            have f0 := flat2 hkl (nodesL x n p) i 0 hi2 (by omega) (v := .int .i64 (nodesL x n p)[i].a) rfl
            have f1 := flat2 hkl (nodesL x n p) i 1 hi2 (by omega) (v := .int .i64 (nodesL x n p)[i].b) rfl
            have hsi := hsm _ (List.getElem_mem hi2)
            refine CW.region [0, 1, 2, 3, 4, 5] rfl ?_
            refine LW.ex rfl rfl rfl rfl (Ex.move rfl) hS.rd ?_
            refine LW.ex rfl rfl rfl rfl (Ex.indexSl Try.underlying120 ti125 rfl rfl rfl (by omega)) hS.rd ?_
            refine LW.ex rfl rfl rfl rfl (Ex.load2c ti125 rfl rfl (slT (v := .int .i64 (nodesL x n p)[i].a) (by rw [Nat.zero_add]; exact f0)) (slT (v := .int .i64 (nodesL x n p)[i].b) (by rw [Nat.zero_add]; exact f1))) hS.rd ?_
            refine LW.hv rfl rfl rfl rfl (Hv.alloc ti125 hS) fun v w13 ⟨b13, hv, hb13, hS⟩ => ?_
            subst hv
            refine LW.ex rfl rfl rfl rfl (Ex.assign rfl) hS.rd ?_
            refine LW.hu rfl rfl rfl (Hv.storeN (k := 0) ti125 hS rfl rfl rfl rfl (by simp [Value.oneCell'])) fun _ w_5 hS => ?_
            dsimp only [List.set] at hS
            refine LW.nil fun aa ha => hK22 _ _ _ ?_ aa ha
            refine CW.seq fun K23 hK23 => ?_
            refine CW.region [0, 1, 2, 3, 4, 5, 6] rfl ?_
            refine LW.ex rfl rfl rfl rfl (Ex.move rfl) hS.rd ?_
            refine LW.ex rfl rfl rfl rfl (Ex.gtr rfl rfl rfl) hS.rd ?_
            refine LW.splitB (fun h17_1 => ?_) (fun h17_1 => ?_)
            · have h17_1 := of_decide_eq_true h17_1
              refine LW.ex rfl rfl rfl rfl (Ex.move rfl) hS.rd ?_
              refine LW.skip rfl rfl rfl rfl ?_
              refine LW.skip rfl rfl rfl rfl ?_
              refine LW.skip rfl rfl rfl rfl ?_
              refine LW.ex rfl rfl rfl rfl (by first | exact Ex.pick_yes rfl rfl | exact Ex.pick_no rfl rfl) hS.rd ?_
              refine LW.nil fun aa ha => hK23 _ _ _ ?_ aa ha
              refine CW.yes rfl ?_
              refine CW.region [0, 1, 2, 3] rfl ?_
              refine LW.ex rfl rfl rfl rfl (Ex.move rfl) hS.rd ?_
              refine LW.ex rfl rfl rfl rfl (Ex.load2c ti125 rfl rfl (by first | exact obT rfl | exact Rd.imm ‹_› | exact slT ‹_›) (by first | exact obT rfl | exact Rd.imm ‹_› | exact slT ‹_›)) hS.rd ?_
              refine LW.ex rfl rfl rfl rfl (Ex.move rfl) hS.rd ?_
              refine LW.hu rfl rfl rfl (Hv.mapUpdate (a := keyN (nodesL x n p)[i] hsi) (c := i) Try.underlying121 encNd 1 hS rfl rfl rfl rfl) fun _ w_3 hS => ?_
              dsimp only [List.set] at hS
              refine LW.nil fun aa ha => hK21 _ _ _ ?_ aa ha
              refine CW.region [0, 1] rfl ?_
              refine LW.ex rfl rfl rfl rfl (Ex.add rfl rfl (by first | exact inc64 (by omega) | exact addN (by omega) | exact w64 (by omega) (by omega))) hS.rd ?_
              refine LW.ex rfl rfl rfl rfl (Ex.move rfl) hS.rd ?_
              refine LW.nil fun aa ha => ?_
              have hS := hS.drop 0 rfl
              dsimp only [List.eraseIdx] at hS
              refine ⟨_, _, ?m15, ⟨i + 1, aset kv (keyN (nodesL x n p)[i] hsi) i, (by first | omega | (simp; done) | (simp; omega)), rfl, rfl, hS, ?_⟩, ha.sub ⟨rfl, rfl, rfl, rfl, rfl, rfl, trivial⟩⟩
              case m15 => omega
              intro j h k h0 hji hk
              rw [aget_aset]
              split
              · rename_i he
                congr 1
                subst he
                have he1 : ((nodesL x n p)[i].a, (nodesL x n p)[i].b) = ((nodesL x n p)[j].a, (nodesL x n p)[j].b) := hk
                exact nodupI hst hi2 h (i2_ext (congrArg Prod.fst he1) (congrArg Prod.snd he1))
              · rename_i he
                refine hkv j h k h0 ?_ hk
                rcases Nat.lt_or_eq_of_le (Nat.le_of_lt_succ hji) with h2 | h2
                · exact h2
                · subst h2; exact absurd (Subtype.ext hk.symm) he
            · have h17_1 := of_decide_eq_false h17_1
              refine LW.ex rfl rfl rfl rfl (Ex.move rfl) hS.rd ?_
              refine LW.ex rfl rfl rfl rfl (Ex.load2c ti125 rfl rfl (by first | exact obT rfl | exact Rd.imm ‹_› | exact slT ‹_›) (by first | exact obT rfl | exact Rd.imm ‹_› | exact slT ‹_›)) hS.rd ?_
              refine LW.ex rfl rfl rfl rfl (Ex.load2c ti125 rfl rfl (by first | exact obT rfl | exact Rd.imm ‹_› | exact slT ‹_›) (by first | exact obT rfl | exact Rd.imm ‹_› | exact slT ‹_›)) hS.rd ?_
              refine LW.ex rfl rfl rfl rfl (Ex.neqSt (by kernel_rfl) rfl rfl (i2Eq (nodesL x n p)[i] ⟨0, p⟩)) hS.rd ?_
              refine LW.splitB (fun h17_5 => ?_) (fun h17_5 => ?_)
              · exfalso
                have h0 : i = 0 := by omega
                subst h0
                simp only [Bool.not_eq_true', decide_eq_false_iff_not] at h17_5
                exact h17_5 rfl
              · skip
                refine LW.ex rfl rfl rfl rfl (by first | exact Ex.pick_yes rfl rfl | exact Ex.pick_no rfl rfl) hS.rd ?_
                refine LW.nil fun aa ha => hK23 _ _ _ ?_ aa ha
                refine CW.no rfl ?_
                refine CW.skip fun aa ha => hK21 _ _ _ ?_ aa ha
                refine CW.region [0, 1] rfl ?_
                refine LW.ex rfl rfl rfl rfl (Ex.add rfl rfl (by first | exact inc64 (by omega) | exact addN (by omega) | exact w64 (by omega) (by omega))) hS.rd ?_
                refine LW.ex rfl rfl rfl rfl (Ex.move rfl) hS.rd ?_
                refine LW.nil fun aa ha => ?_
                have hS := hS.drop 0 rfl
                dsimp only [List.eraseIdx] at hS
                refine ⟨_, _, ?m15, ⟨i + 1, kv, (by first | omega | (simp; done) | (simp; omega)), rfl, rfl, hS, ?_⟩, ha.sub ⟨rfl, rfl, rfl, rfl, rfl, rfl, trivial⟩⟩
                case m15 => omega
                intro j h k h0 hji hk
                exact hkv j h k h0 (by omega) hk
          · have h15_0 := of_decide_eq_false h15_0
            refine LW.nil fun aa ha => hK19 _ _ _ ?_ aa ha
            refine CW.seq fun K24 hK24 => ?_
            refine CW.no rfl ?_
            refine CW.exit fun aa ha => hK17 _ _ _ ?_ aa ha
            refine CW.seq fun K25 hK25 => ?_
            refine CW.region [0, 1, 2, 3] rfl ?_
            refine LW.ex rfl rfl rfl rfl (Ex.move rfl) hS.rd ?_
            refine LW.ex rfl rfl rfl rfl (Ex.move rfl) hS.rd ?_
            refine LW.ex rfl rfl rfl rfl (Ex.assign rfl) hS.rd ?_
            refine LW.ex rfl rfl rfl rfl (Ex.assign rfl) hS.rd ?_
            refine LW.nil fun aa ha => hK25 _ _ _ ?_ aa ha
            refine CW.ret fun aa ha => ?_
            refine ret_two ha Try.results55 rfl rfl ?_
            have hS := ((hS.drop 2 rfl).drop 2 rfl).drop 2 rfl
            dsimp only [List.eraseIdx] at hS
            exact ⟨_, rfl, _, _, _, _, rfl, hS, fun j h k h0 hk => hkv j h k h0 (by omega) hk⟩
        refine CW.seq fun K26 hK26 => ?_
        refine CW.region [0, 1, 2] rfl ?_
        refine LW.ex rfl rfl rfl rfl (Ex.fieldO 0 Try.underlying38 rfl rfl ti3 rfl) hS.rd ?_
        refine LW.ex rfl rfl rfl rfl (Ex.load1 ti3 rfl rfl (by first | exact obT rfl | exact Rd.imm ‹_› | exact slT ‹_›)) hS.rd ?_
        refine LW.ex rfl rfl rfl rfl (Ex.gtr rfl rfl rfl) hS.rd ?_
        refine LW.splitB (fun h11_2 => ?_) (fun h11_2 => ?_)
        · have h11_2 := of_decide_eq_true h11_2
          refine LW.nil fun aa ha => hK26 _ _ _ ?_ aa ha
          refine CW.yes rfl ?_
          rw [if_pos h11_2] at hn1
          refine CW.region [0, 1, 2, 3, 4] rfl ?_
          refine LW.ex rfl rfl rfl rfl (Ex.move rfl) hS.rd ?_
          refine LW.ex rfl rfl rfl rfl (Ex.load2c ti125 rfl rfl (by first | exact obT rfl | exact Rd.imm ‹_› | exact slT ‹_›) (by first | exact obT rfl | exact Rd.imm ‹_› | exact slT ‹_›)) hS.rd ?_
          refine LW.hv rfl rfl rfl rfl (Hv.buildSl hS Try.underlying120 ti125 rfl rfl rfl rfl rfl rfl) fun v w53 ⟨b53, hv, hb53, hS⟩ => ?_
          subst hv
          refine LW.hv rfl rfl rfl rfl (Hv.append (k := 1) rfl Try.underlying120 ti125 rfl hS rfl rfl rfl rfl (Rd.objAll (k := 0) rfl hS.rd) (by simp [Value.oneCell']) (by unfold maxLen; omega) (by omega)) fun v w54 ⟨ad54, c54, hv, hS⟩ => ?_
          subst hv
          dsimp only [List.set] at hS
          have hS := hS.drop 0 rfl
          dsimp only [List.eraseIdx] at hS
          refine LW.ex rfl rfl rfl rfl (Ex.assign rfl) hS.rd ?_
          refine LW.nil fun aa ha => ?_
          have hnl : 1 + (dd ys).length + 1 = (nodesL x n p).length := by rw [hn1, hmid]; simp; omega
          rw [hnl] at hS ha
          have hcl : [Value.int .i64 0, Value.int .i64 p] ++ (dd ys).flatMap i2L ++ [Value.int .i64 x.N, Value.int .i64 (-1)] = (nodesL x n p).flatMap i2L := by rw [hn1, hmid, List.flatMap_cons, List.flatMap_append]; rfl
          rw [hcl] at hS
          obtain ⟨g54, rfl⟩ := hS.sl_some 0 rfl (by omega)
          refine hJ11 _ (g54) (c54) hS  aa (ha.sub ⟨rfl, rfl, trivial⟩)
        · have h11_2 := of_decide_eq_false h11_2
          refine LW.nil fun aa ha => hK26 _ _ _ ?_ aa ha
          refine CW.no rfl ?_
          refine CW.skip fun aa ha => ?_
          rw [if_neg h11_2] at hn1
          have hnl : 1 + (dd ys).length = (nodesL x n p).length := by rw [hn1, hmid]; simp; omega
          rw [hnl] at hS ha
          have hcl : [Value.int .i64 0, Value.int .i64 p] ++ (dd ys).flatMap i2L = (nodesL x n p).flatMap i2L := by rw [hn1, hmid, List.append_nil, List.flatMap_cons]; rfl
          rw [hcl] at hS
          obtain ⟨g47, rfl⟩ := hS.sl_some 0 rfl (by omega)
          refine hJ11 _ (g47) (c47) hS  aa (ha.sub ⟨rfl, rfl, trivial⟩)
      case gB14 =>
        skip
        subst hv
        refine PW.hv rfl rfl rfl rfl (Hv.buildSl hS Try.underlying120 ti125 rfl rfl rfl rfl rfl rfl) (fun _ _ ⟨_, _, _, h⟩ => ((h.rd.tail).erase 0)) fun v w44 ⟨b44, hv, hb44, hS⟩ => ?_
        subst hv
        refine PW.nil ?_
        have hS := hS.row_sl (k := 0) rfl 1 2 rfl (by simp [maxLen])
        dsimp only [List.set] at hS
        refine LW.hv rfl rfl rfl rfl (Hv.append (k := 0) (vs := (dd ys).flatMap i2L) rfl Try.underlying120 ti125 rfl hS rfl rfl rfl (flatMap_len hkl _) (fun j u hu => by rw [Nat.zero_add]; exact Rd.sl (k := 1) rfl hu _ hS.rd) (i2Ones _) (by unfold maxLen; omega) (by omega)) fun v w47 ⟨ad47, c47, hv, hS⟩ => ?_
        subst hv
        dsimp only [List.set] at hS
        have hS := hS.drop 1 rfl
        dsimp only [List.eraseIdx] at hS
        refine LW.ex rfl rfl rfl rfl (Ex.assign rfl) hS.rd ?_
        refine LW.nil fun aa ha => hK13 _ _ _ ?_ aa ha
        refine CW.seq fun K27 hK27 => ?_
        have hJ11 : ∀ (wj : World) (g : Nat) (c : Nat), St w0 wj μ (Own.sl (some ⟨g, 0, none⟩) (nodesL x n p).length c 125 2 ((nodesL x n p).flatMap i2L) :: Own.obj b7 [.int .i64 x.N, .int .i64 (-1)] 125 :: Own.obj b6 [.int .i64 0, .int .i64 p] 125 :: Own.obj b2 [.int .i64 x.N, .slice a3 x.Edges.length c3] 38 :: L) → KW K27 76 [(6, .pointer (some ⟨b6, 0, none⟩)), (8, .slice (some ⟨g, 0, none⟩) (nodesL x n p).length c)] wj := by
          intro wj g c hS 
          refine hK27 _ _ _ ?_
          have hcap := hS.sl_cap 0 rfl
          obtain ⟨hcap1, hcap2⟩ := hcap
          simp only [maxLen] at hcap2
          have hnl1 : 1 ≤ (nodesL x n p).length := by rw [hn1]; simp
          refine CW.seq fun K28 hK28 => ?_
          refine CW.region [0, 1] rfl ?_
          refine LW.hv rfl rfl rfl rfl (Hv.makeMap KPair.val (fun (i : Nat) => .int .i64 i) hS) fun v w55 ⟨b55, hv, hb55, hS⟩ => ?_
          subst hv
          refine LW.ex rfl rfl rfl rfl (Ex.assign rfl) hS.rd ?_
          refine LW.nil fun aa ha => hK28 _ _ _ ?_ aa ha
          refine CW.seq fun K29 hK29 => ?_
          refine CW.seq fun K30 hK30 => ?_
          refine CW.region [0, 1, 2] rfl ?_
          refine LW.ex rfl rfl rfl rfl (Ex.move rfl) hS.rd ?_
          refine LW.ex rfl rfl rfl rfl (Ex.lenSl rfl Try.underlying120 rfl) hS.rd ?_
          refine LW.ex rfl rfl rfl rfl (Ex.move rfl) hS.rd ?_
          refine LW.nil fun aa ha => hK30 _ _ _ ?_ aa ha
          refine CW.block ?_
          refine CW.loop (fun qq frm wl15 => ∃ (i : Nat) (kv : List (KPair × Nat)), i ≤ (nodesL x n p).length ∧ qq = (nodesL x n p).length - i ∧ frm = [(6, .pointer (some ⟨b6, 0, none⟩)), (8, .slice (some ⟨g, 0, none⟩) (nodesL x n p).length c), (11, .map (some b55)), (56, .slice (some ⟨g, 0, none⟩) (nodesL x n p).length c), (57, .int .i64 (((nodesL x n p).length : Nat) : Int)), (58, .int .i64 i)] ∧ St w0 wl15 μ (Own.mp KPair.val (fun (i : Nat) => .int .i64 i) b55 kv :: Own.sl (some ⟨g, 0, none⟩) (nodesL x n p).length c 125 2 ((nodesL x n p).flatMap i2L) :: Own.obj b7 [.int .i64 x.N, .int .i64 (-1)] 125 :: Own.obj b6 [.int .i64 0, .int .i64 p] 125 :: Own.obj b2 [.int .i64 x.N, .slice a3 x.Edges.length c3] 38 :: L) ∧ (∀ j (h : j < (nodesL x n p).length) (k : KPair), 0 < j → j < i → k.1 = ((nodesL x n p)[j].a, (nodesL x n p)[j].b) → aget kv k = some j)) _ ⟨0, [], (by first | omega | (simp; done) | (simp; omega)), rfl, rfl, hS, fun j h k h0 hj => by omega⟩ ⟨rfl, rfl, rfl, rfl, rfl, rfl, trivial⟩ ?_
          clear hS
          rintro qq frm wl15 ⟨i, kv, hi, hq, rfl, hS, hkv⟩
          refine CW.seq fun K31 hK31 => ?_
          refine CW.region [0] rfl ?_
          refine LW.ex rfl rfl rfl rfl (Ex.lss rfl rfl rfl) hS.rd ?_
          refine LW.splitB (fun h15_0 => ?_) (fun h15_0 => ?_)
          · have h15_0 := of_decide_eq_true h15_0
            refine LW.nil fun aa ha => hK31 _ _ _ ?_ aa ha
            refine CW.seq fun K32 hK32 => ?_
            refine CW.yes rfl ?_
            refine CW.skip fun aa ha => hK32 _ _ _ ?_ aa ha
            refine CW.seq fun K33 hK33 => ?_
            refine CW.block ?_
            refine CW.seq fun K34 hK34 => ?_
            have hi2 : i < (nodesL x n p).length := by omega
            have f0 := flat2 hkl (nodesL x n p) i 0 hi2 (by omega) (v := .int .i64 (nodesL x n p)[i].a) rfl
            have f1 := flat2 hkl (nodesL x n p) i 1 hi2 (by omega) (v := .int .i64 (nodesL x n p)[i].b) rfl
            have hsi := hsm _ (List.getElem_mem hi2)
            refine CW.region [0, 1, 2, 3, 4, 5] rfl ?_
            refine LW.ex rfl rfl rfl rfl (Ex.move rfl) hS.rd ?_
            refine LW.ex rfl rfl rfl rfl (Ex.indexSl Try.underlying120 ti125 rfl rfl rfl (by omega)) hS.rd ?_
            refine LW.ex rfl rfl rfl rfl (Ex.load2c ti125 rfl rfl (slT (v := .int .i64 (nodesL x n p)[i].a) (by rw [Nat.zero_add]; exact f0)) (slT (v := .int .i64 (nodesL x n p)[i].b) (by rw [Nat.zero_add]; exact f1))) hS.rd ?_
            refine LW.hv rfl rfl rfl rfl (Hv.alloc ti125 hS) fun v w13 ⟨b13, hv, hb13, hS⟩ => ?_
            subst hv
            refine LW.ex rfl rfl rfl rfl (Ex.assign rfl) hS.rd ?_
            refine LW.hu rfl rfl rfl (Hv.storeN (k := 0) ti125 hS rfl rfl rfl rfl (by simp [Value.oneCell'])) fun _ w_5 hS => ?_
            dsimp only [List.set] at hS
            refine LW.nil fun aa ha => hK34 _ _ _ ?_ aa ha
            refine CW.seq fun K35 hK35 => ?_
            refine CW.region [0, 1, 2, 3, 4, 5, 6] rfl ?_
            refine LW.ex rfl rfl rfl rfl (Ex.move rfl) hS.rd ?_
            refine LW.ex rfl rfl rfl rfl (Ex.gtr rfl rfl rfl) hS.rd ?_
            refine LW.splitB (fun h17_1 => ?_) (fun h17_1 => ?_)
            · have h17_1 := of_decide_eq_true h17_1
              refine LW.ex rfl rfl rfl rfl (Ex.move rfl) hS.rd ?_
              refine LW.skip rfl rfl rfl rfl ?_
              refine LW.skip rfl rfl rfl rfl ?_
              refine LW.skip rfl rfl rfl rfl ?_
              refine LW.ex rfl rfl rfl rfl (by first | exact Ex.pick_yes rfl rfl | exact Ex.pick_no rfl rfl) hS.rd ?_
              refine LW.nil fun aa ha => hK35 _ _ _ ?_ aa ha
              refine CW.yes rfl ?_
              refine CW.region [0, 1, 2, 3] rfl ?_
              refine LW.ex rfl rfl rfl rfl (Ex.move rfl) hS.rd ?_
              refine LW.ex rfl rfl rfl rfl (Ex.load2c ti125 rfl rfl (by first | exact obT rfl | exact Rd.imm ‹_› | exact slT ‹_›) (by first | exact obT rfl | exact Rd.imm ‹_› | exact slT ‹_›)) hS.rd ?_
              refine LW.ex rfl rfl rfl rfl (Ex.move rfl) hS.rd ?_
              refine LW.hu rfl rfl rfl (Hv.mapUpdate (a := keyN (nodesL x n p)[i] hsi) (c := i) Try.underlying121 encNd 1 hS rfl rfl rfl rfl) fun _ w_3 hS => ?_
              dsimp only [List.set] at hS
              refine LW.nil fun aa ha => hK33 _ _ _ ?_ aa ha
              refine CW.region [0, 1] rfl ?_
              refine LW.ex rfl rfl rfl rfl (Ex.add rfl rfl (by first | exact inc64 (by omega) | exact addN (by omega) | exact w64 (by omega) (by omega))) hS.rd ?_
              refine LW.ex rfl rfl rfl rfl (Ex.move rfl) hS.rd ?_
              refine LW.nil fun aa ha => ?_
              have hS := hS.drop 0 rfl
              dsimp only [List.eraseIdx] at hS
              refine ⟨_, _, ?m15, ⟨i + 1, aset kv (keyN (nodesL x n p)[i] hsi) i, (by first | omega | (simp; done) | (simp; omega)), rfl, rfl, hS, ?_⟩, ha.sub ⟨rfl, rfl, rfl, rfl, rfl, rfl, trivial⟩⟩
              case m15 => omega
              intro j h k h0 hji hk
              rw [aget_aset]
              split
              · rename_i he
                congr 1
                subst he
                have he1 : ((nodesL x n p)[i].a, (nodesL x n p)[i].b) = ((nodesL x n p)[j].a, (nodesL x n p)[j].b) := hk
                exact nodupI hst hi2 h (i2_ext (congrArg Prod.fst he1) (congrArg Prod.snd he1))
              · rename_i he
                refine hkv j h k h0 ?_ hk
                rcases Nat.lt_or_eq_of_le (Nat.le_of_lt_succ hji) with h2 | h2
                · exact h2
                · subst h2; exact absurd (Subtype.ext hk.symm) he
            · have h17_1 := of_decide_eq_false h17_1
              refine LW.ex rfl rfl rfl rfl (Ex.move rfl) hS.rd ?_
              refine LW.ex rfl rfl rfl rfl (Ex.load2c ti125 rfl rfl (by first | exact obT rfl | exact Rd.imm ‹_› | exact slT ‹_›) (by first | exact obT rfl | exact Rd.imm ‹_› | exact slT ‹_›)) hS.rd ?_
              refine LW.ex rfl rfl rfl rfl (Ex.load2c ti125 rfl rfl (by first | exact obT rfl | exact Rd.imm ‹_› | exact slT ‹_›) (by first | exact obT rfl | exact Rd.imm ‹_› | exact slT ‹_›)) hS.rd ?_
              refine LW.ex rfl rfl rfl rfl (Ex.neqSt (by kernel_rfl) rfl rfl (i2Eq (nodesL x n p)[i] ⟨0, p⟩)) hS.rd ?_
              refine LW.splitB (fun h17_5 => ?_) (fun h17_5 => ?_)
              · exfalso
                have h0 : i = 0 := by omega
                subst h0
                simp only [Bool.not_eq_true', decide_eq_false_iff_not] at h17_5
                exact h17_5 rfl
              · skip
                refine LW.ex rfl rfl rfl rfl (by first | exact Ex.pick_yes rfl rfl | exact Ex.pick_no rfl rfl) hS.rd ?_
                refine LW.nil fun aa ha => hK35 _ _ _ ?_ aa ha
                refine CW.no rfl ?_
                refine CW.skip fun aa ha => hK33 _ _ _ ?_ aa ha
                refine CW.region [0, 1] rfl ?_
                refine LW.ex rfl rfl rfl rfl (Ex.add rfl rfl (by first | exact inc64 (by omega) | exact addN (by omega) | exact w64 (by omega) (by omega))) hS.rd ?_
                refine LW.ex rfl rfl rfl rfl (Ex.move rfl) hS.rd ?_
                refine LW.nil fun aa ha => ?_
                have hS := hS.drop 0 rfl
                dsimp only [List.eraseIdx] at hS
                refine ⟨_, _, ?m15, ⟨i + 1, kv, (by first | omega | (simp; done) | (simp; omega)), rfl, rfl, hS, ?_⟩, ha.sub ⟨rfl, rfl, rfl, rfl, rfl, rfl, trivial⟩⟩
                case m15 => omega
                intro j h k h0 hji hk
                exact hkv j h k h0 (by omega) hk
          · have h15_0 := of_decide_eq_false h15_0
            refine LW.nil fun aa ha => hK31 _ _ _ ?_ aa ha
            refine CW.seq fun K36 hK36 => ?_
            refine CW.no rfl ?_
            refine CW.exit fun aa ha => hK29 _ _ _ ?_ aa ha
            refine CW.seq fun K37 hK37 => ?_
            refine CW.region [0, 1, 2, 3] rfl ?_
            refine LW.ex rfl rfl rfl rfl (Ex.move rfl) hS.rd ?_
            refine LW.ex rfl rfl rfl rfl (Ex.move rfl) hS.rd ?_
            refine LW.ex rfl rfl rfl rfl (Ex.assign rfl) hS.rd ?_
            refine LW.ex rfl rfl rfl rfl (Ex.assign rfl) hS.rd ?_
            refine LW.nil fun aa ha => hK37 _ _ _ ?_ aa ha
            refine CW.ret fun aa ha => ?_
            refine ret_two ha Try.results55 rfl rfl ?_
            have hS := ((hS.drop 2 rfl).drop 2 rfl).drop 2 rfl
            dsimp only [List.eraseIdx] at hS
            exact ⟨_, rfl, _, _, _, _, rfl, hS, fun j h k h0 hk => hkv j h k h0 (by omega) hk⟩
        refine CW.seq fun K38 hK38 => ?_
        refine CW.region [0, 1, 2] rfl ?_
        refine LW.ex rfl rfl rfl rfl (Ex.fieldO 0 Try.underlying38 rfl rfl ti3 rfl) hS.rd ?_
        refine LW.ex rfl rfl rfl rfl (Ex.load1 ti3 rfl rfl (by first | exact obT rfl | exact Rd.imm ‹_› | exact slT ‹_›)) hS.rd ?_
        refine LW.ex rfl rfl rfl rfl (Ex.gtr rfl rfl rfl) hS.rd ?_
        refine LW.splitB (fun h11_2 => ?_) (fun h11_2 => ?_)
        · have h11_2 := of_decide_eq_true h11_2
          refine LW.nil fun aa ha => hK38 _ _ _ ?_ aa ha
          refine CW.yes rfl ?_
          rw [if_pos h11_2] at hn1
          refine CW.region [0, 1, 2, 3, 4] rfl ?_
          refine LW.ex rfl rfl rfl rfl (Ex.move rfl) hS.rd ?_
          refine LW.ex rfl rfl rfl rfl (Ex.load2c ti125 rfl rfl (by first | exact obT rfl | exact Rd.imm ‹_› | exact slT ‹_›) (by first | exact obT rfl | exact Rd.imm ‹_› | exact slT ‹_›)) hS.rd ?_
          refine LW.hv rfl rfl rfl rfl (Hv.buildSl hS Try.underlying120 ti125 rfl rfl rfl rfl rfl rfl) fun v w53 ⟨b53, hv, hb53, hS⟩ => ?_
          subst hv
          refine LW.hv rfl rfl rfl rfl (Hv.append (k := 1) rfl Try.underlying120 ti125 rfl hS rfl rfl rfl rfl (Rd.objAll (k := 0) rfl hS.rd) (by simp [Value.oneCell']) (by unfold maxLen; omega) (by omega)) fun v w54 ⟨ad54, c54, hv, hS⟩ => ?_
          subst hv
          dsimp only [List.set] at hS
          have hS := hS.drop 0 rfl
          dsimp only [List.eraseIdx] at hS
          refine LW.ex rfl rfl rfl rfl (Ex.assign rfl) hS.rd ?_
          refine LW.nil fun aa ha => ?_
          have hnl : 1 + (dd ys).length + 1 = (nodesL x n p).length := by rw [hn1, hmid]; simp; omega
          rw [hnl] at hS ha
          have hcl : [Value.int .i64 0, Value.int .i64 p] ++ (dd ys).flatMap i2L ++ [Value.int .i64 x.N, Value.int .i64 (-1)] = (nodesL x n p).flatMap i2L := by rw [hn1, hmid, List.flatMap_cons, List.flatMap_append]; rfl
          rw [hcl] at hS
          obtain ⟨g54, rfl⟩ := hS.sl_some 0 rfl (by omega)
          refine hJ11 _ (g54) (c54) hS  aa (ha.sub ⟨rfl, rfl, trivial⟩)
        · have h11_2 := of_decide_eq_false h11_2
          refine LW.nil fun aa ha => hK38 _ _ _ ?_ aa ha
          refine CW.no rfl ?_
          refine CW.skip fun aa ha => ?_
          rw [if_neg h11_2] at hn1
          have hnl : 1 + (dd ys).length = (nodesL x n p).length := by rw [hn1, hmid]; simp; omega
          rw [hnl] at hS ha
          have hcl : [Value.int .i64 0, Value.int .i64 p] ++ (dd ys).flatMap i2L = (nodesL x n p).flatMap i2L := by rw [hn1, hmid, List.append_nil, List.flatMap_cons]; rfl
          rw [hcl] at hS
          obtain ⟨g47, rfl⟩ := hS.sl_some 0 rfl (by omega)
          refine hJ11 _ (g47) (c47) hS  aa (ha.sub ⟨rfl, rfl, trivial⟩)
  have hS := hS.drew
  refine CW.drawP 7 [2, 3, 4] (.ex 0 <| .ex 1 <| .pu 2 <| .pu 3 <| .pu 4 <| .two 5 (.one 6 <| .done) 6 (.one 5 <| .done)) [7, 8] (Rd _ _) (Rd _ _) mixed (by kernel_rfl) rfl rfl hS.rd hS.rd ?_
  refine QW.ex rfl rfl rfl rfl (Ex.move rfl) ?_
  refine QW.ex rfl rfl rfl rfl (Ex.buildA ti125 ti3 rfl rfl rfl) ?_
  refine QW.pu rfl rfl rfl rfl (Ex.fieldO 0 Try.underlying38 rfl rfl ti3 rfl) ?_
  refine QW.pu rfl rfl rfl rfl (Ex.load1 ti3 rfl rfl (by first | exact obT rfl | exact Rd.imm ‹_› | exact slT ‹_›)) ?_
  refine QW.pu rfl rfl rfl rfl (Ex.buildA ti125 ti3 rfl rfl rfl) ?_
  refine QW.two rfl rfl rfl rfl rfl rfl rfl rfl (Hv.alloc ti125 hS) (fun _ _ ⟨_, _, _, h⟩ => h.rd.tail) (fun _ _ ⟨_, _, _, h⟩ => h.rd.tail) (Hv.alloc ti125 hS) (fun _ _ ⟨_, _, _, h⟩ => h.rd.tail) (fun _ _ ⟨_, _, _, h⟩ => h.rd.tail) (fun v w6 ⟨b6, hv, hb6, hS⟩ => ?gA39) (fun v w7 ⟨b7, hv, hb7, hS⟩ => ?gB39)
  case gA39 =>
    skip
    subst hv
    refine QW.hv rfl rfl rfl rfl (Hv.alloc ti125 hS) (fun _ _ ⟨_, _, _, h⟩ => h.rd.tail.tail) (fun _ _ ⟨_, _, _, h⟩ => h.rd.tail.tail) fun v w7 ⟨b7, hv, hb7, hS⟩ => ?_
    subst hv
    refine QW.nil ?_
    refine TW.hu rfl rfl rfl (Hv.storeN (k := 1) ti125 hS rfl rfl rfl rfl (by simp [Value.oneCell'])) (fun _ _ h => (h.rd.erase 1).tail) fun _ w_7 hS => ?_
    dsimp only [List.set] at hS
    refine TW.hu rfl rfl rfl (Hv.storeN (k := 0) ti125 hS rfl rfl rfl rfl (by simp [Value.oneCell'])) (fun _ _ h => (h.rd.erase 0).tail) fun _ w_8 hS => ?_
    dsimp only [List.set] at hS
    refine TW.nil fun aa ha => ?_
    refine hJr1 _ (b6) (b7) hS  aa (ha.sub ⟨rfl, rfl, rfl, trivial⟩)
  case gB39 =>
    skip
    subst hv
    refine QW.hv rfl rfl rfl rfl (Hv.alloc ti125 hS) (fun _ _ ⟨_, _, _, h⟩ => h.rd.tail.tail) (fun _ _ ⟨_, _, _, h⟩ => h.rd.tail.tail) fun v w6 ⟨b6, hv, hb6, hS⟩ => ?_
    subst hv
    refine QW.nil ?_
    refine TW.hu rfl rfl rfl (Hv.storeN (k := 0) ti125 hS rfl rfl rfl rfl (by simp [Value.oneCell'])) (fun _ _ h => (h.rd.erase 1).tail) fun _ w_7 hS => ?_
    dsimp only [List.set] at hS
    refine TW.hu rfl rfl rfl (Hv.storeN (k := 1) ti125 hS rfl rfl rfl rfl (by simp [Value.oneCell'])) (fun _ _ h => (h.rd.erase 0).tail) fun _ w_8 hS => ?_
    dsimp only [List.set] at hS
    refine TW.nil fun aa ha => ?_
    have hS := hS.swap
    refine hJr1 _ (b6) (b7) hS  aa (ha.sub ⟨rfl, rfl, rfl, trivial⟩)
end Go.Proofs.Ytgnpjhellmfhoaa

/-
  Context: the edges that begin at a place; the links of a graph, in plain Lean.
-/
namespace Go.Proofs.Ytgnpjhellmfhoaa
open Go.RowKit Sy

def frCmp (p : Int) (e : Edge) : Int := e.From - p
theorem frCmp_mono {l : List Edge} (h : l.Pairwise fun a b => edLess a b = true) (p : Int) : l.Pairwise fun a b => 0 ≤ frCmp p a → 0 ≤ frCmp p b := h.imp fun {a b} h => by
  rw [edLess_iff] at h; unfold frCmp; omega
def lo (x : Lat) (p : Int) : Nat := lbL (frCmp p) x.Edges
theorem lo_le (x : Lat) (p : Int) : lo x p ≤ x.Edges.length := lbL_le _ _
theorem from11_c (e : Edge) (p : Int) (h : 0 ≤ e.From ∧ e.From ≤ 40) (hp : 0 ≤ p ∧ p ≤ 41) (w : World) : Calls Try.prog 78 #[edgeV e, .int .i64 p] w (RetS w (.int .i64 (frCmp p e))) := by
  have hS := St.start w (fun _ => none) (fun _ _ h => by cases h)
  refine calls_start 9 [edgeV e, .int .i64 p] Try.func78 rfl Try.ntmps78 rfl rfl ?_
  refine CW.seq fun K1 hK1 => ?_
  refine CW.region [0, 1] rfl ?_
  refine LW.hv rfl rfl rfl rfl (Hv.boxS hS rfl rfl) fun v w2 ⟨b2, hv, hb2, hS⟩ => ?_
  subst hv
  refine LW.ex rfl rfl rfl rfl (Ex.assign rfl) hS.rd ?_
  refine LW.nil fun aa ha => hK1 _ _ _ ?_ aa ha
  refine CW.seq fun K2 hK2 => ?_
  refine CW.region [0, 1, 2, 3, 4] rfl ?_
  refine LW.ex rfl rfl rfl rfl (Ex.fieldO 0 Try.underlying43 rfl rfl ti3 rfl) hS.rd ?_
  refine LW.ex rfl rfl rfl rfl (Ex.load1 ti3 rfl rfl (by first | exact obT rfl | exact Rd.imm ‹_› | exact slT ‹_›)) hS.rd ?_
  refine LW.ex rfl rfl rfl rfl (Ex.move rfl) hS.rd ?_
  refine LW.ex rfl rfl rfl rfl (Ex.sub rfl rfl (w64 (by omega) (by omega))) hS.rd ?_
  refine LW.ex rfl rfl rfl rfl (Ex.assign rfl) hS.rd ?_
  refine LW.nil fun aa ha => hK2 _ _ _ ?_ aa ha
  refine CW.ret fun aa ha => ?_
  refine ret_one ha Try.results78 rfl ?_
  exact hS.retS
theorem from1_c (x : Lat) (hx : okX x = true) (p : Int) (hp : 0 ≤ p ∧ p ≤ 41) (b2 : Nat) (a3 : Option Addr) (c3 : Nat) (μ : Mem) (w : World) (hμ : Imm μ w) (hb : μ.cell b2 (0 + 1) = some (.slice a3 x.Edges.length c3)) (hl : Sl μ a3 c3 x.Edges) :
    Calls Try.prog 76 #[.int .i64 p, .pointer (some ⟨b2, 0, none⟩)] w (RetS w (.int .i64 (lo x p : Nat))) := by
  obtain ⟨⟨hN0, hN1, hE⟩, hed, hso⟩ := okX_edges hx
  have hS := St.start w μ hμ
  refine calls_start 14 [.int .i64 p, .pointer (some ⟨b2, 0, none⟩)] Try.func76 rfl Try.ntmps76 rfl rfl ?_
  refine CW.seq fun K3 hK3 => ?_
  refine CW.region [0] rfl ?_
  refine LW.ex rfl rfl rfl rfl (Ex.assign rfl) hS.rd ?_
  refine LW.nil fun aa ha => hK3 _ _ _ ?_ aa ha
  refine CW.seq fun K4 hK4 => ?_
  refine CW.region [0, 1, 2, 3, 4, 5, 6, 7, 8] rfl ?_
  refine LW.ex rfl rfl rfl rfl (Ex.fieldO 1 Try.underlying38 rfl rfl ti36 rfl) hS.rd ?_
  refine LW.ex rfl rfl rfl rfl (Ex.load1 ti36 rfl rfl (by first | exact obT rfl | exact Rd.imm ‹_› | exact slT ‹_›)) hS.rd ?_
  refine LW.ex rfl rfl rfl rfl (Ex.move rfl) hS.rd ?_
  refine LW.hv rfl rfl rfl rfl (Hv.callS hS rfl rfl rfl cb77 (bsearchEd_c x.Edges (.int .i64 p) 78 #[] (frCmp p) cb78 _ _ μ _ hS.imm hl (by omega) (frCmp_mono hso p) (fun e he w' _ => from11_c e p (by have := hed e he; omega) hp w'))) fun v w10 ⟨hv, hS⟩ => ?_
  subst hv
  refine LW.ex rfl rfl rfl rfl (Ex.move rfl) hS.rd ?_
  refine LW.ex rfl rfl rfl rfl (Ex.extract rfl rfl) hS.rd ?_
  refine LW.ex rfl rfl rfl rfl (Ex.extract rfl rfl) hS.rd ?_
  refine LW.ex rfl rfl rfl rfl (Ex.assign rfl) hS.rd ?_
  refine LW.ex rfl rfl rfl rfl (Ex.assign rfl) hS.rd ?_
  refine LW.nil fun aa ha => hK4 _ _ _ ?_ aa ha
  refine CW.seq fun K5 hK5 => ?_
  refine CW.region [0, 1] rfl ?_
  refine LW.ex rfl rfl rfl rfl (Ex.move rfl) hS.rd ?_
  refine LW.ex rfl rfl rfl rfl (Ex.assign rfl) hS.rd ?_
  refine LW.nil fun aa ha => hK5 _ _ _ ?_ aa ha
  refine CW.ret fun aa ha => ?_
  refine ret_one ha Try.results76 rfl ?_
  unfold lo; exact hS.retS
theorem lo_mono (x : Lat) (p : Int) : lo x p ≤ lo x (p + 1) := by
  unfold lo lbL
  exact List.countP_mono_left fun e _ h => by rw [decide_eq_true_eq] at *; unfold frCmp at *; omega
theorem lo_from {x : Lat} (hx : okX x = true) (p : Int) {i : Nat} (hi : i < x.Edges.length) : x.Edges[i].From = p ↔ lo x p ≤ i ∧ i < lo x (p + 1) := by
  obtain ⟨_, _, hso⟩ := okX_edges hx
  have h1 := lbL_lt (frCmp_mono hso p) hi
  have h2 := lbL_lt (frCmp_mono hso (p + 1)) hi
  unfold lo
  rw [← Nat.not_lt, h1, h2]
  unfold frCmp
  omega
set_option maxRecDepth 100000 in
theorem from_c (x : Lat) (hx : okX x = true) (p : Int) (hp : 0 ≤ p ∧ p ≤ 40) (a3 : Option Addr) (c3 : Nat) (μ : Mem) (w : World) (hμ : Imm μ w) (hl : Sl μ a3 c3 x.Edges) :
    Calls Try.prog 56 #[.agg #[.int .i64 x.N, .slice a3 x.Edges.length c3], .int .i64 p] w (RetS w (.tuple #[.slice (if c3 = lo x p then a3 else a3.map (·.add (lo x p * 4))) (lo x (p + 1) - lo x p) (c3 - lo x p), .int .i64 (lo x p : Nat)])) := by
  have h1 := lo_mono x p
  have h2 := lo_le x (p + 1)
  have h3 := hl.1
  have hS := St.start w μ hμ
  refine calls_start 21 [.agg #[.int .i64 x.N, .slice a3 x.Edges.length c3], .int .i64 p] Try.func56 rfl Try.ntmps56 rfl rfl ?_
  refine CW.seq fun K6 hK6 => ?_
  refine CW.region [0, 1, 2] rfl ?_
  refine LW.hv rfl rfl rfl rfl (Hv.boxS hS rfl rfl) fun v w2 ⟨b2, hv, hb2, hS⟩ => ?_
  subst hv
  refine LW.ex rfl rfl rfl rfl (Ex.assign rfl) hS.rd ?_
  refine LW.ex rfl rfl rfl rfl (Ex.assign rfl) hS.rd ?_
  refine LW.nil fun aa ha => hK6 _ _ _ ?_ aa ha
  refine CW.seq fun K7 hK7 => ?_
  refine CW.region [0, 1] rfl ?_
  refine LW.ex rfl rfl rfl rfl (Ex.makeFunc rfl) hS.rd ?_
  refine LW.ex rfl rfl rfl rfl (Ex.assign rfl) hS.rd ?_
  refine LW.nil fun aa ha => hK7 _ _ _ ?_ aa ha
  refine CW.seq fun K8 hK8 => ?_
  refine CW.region [0, 1, 2, 3] rfl ?_
  refine LW.ex rfl rfl rfl rfl (Ex.move rfl) hS.rd ?_
  refine LW.ex rfl rfl rfl rfl (Ex.move rfl) hS.rd ?_
  refine LW.hv rfl rfl rfl rfl (Hv.callS hS rfl rfl rfl cb76 (from1_c x hx p (by omega) b2 a3 c3 (memOf _) _ (imm_memOf _) (memOf_cell (Rd.obj (k := 0) rfl rfl _ hS.rd)) (hl.mono hS.imm.ext))) fun v w11 ⟨hv, hS⟩ => ?_
  subst hv
  refine LW.ex rfl rfl rfl rfl (Ex.assign rfl) hS.rd ?_
  refine LW.nil fun aa ha => hK8 _ _ _ ?_ aa ha
  refine CW.seq fun K9 hK9 => ?_
  have hS := hS.drew
  refine CW.draw 11 (.ex 0 <| .ex 1 <| .ex 2 <| .ex 3 <| .ex 4 <| .ex 5 <| .ex 8 <| .one 6 <| .ex 7 <| .ex 9 <| .ex 10 <| .done) [] (Rd _ _) mixed (by kernel_rfl) rfl rfl hS.rd ?_
  refine PW.ex rfl rfl rfl rfl (Ex.fieldO 1 Try.underlying38 rfl rfl ti36 rfl) ?_
  refine PW.ex rfl rfl rfl rfl (Ex.load1 ti36 rfl rfl (by first | exact obT rfl | exact Rd.imm ‹_› | exact slT ‹_›)) ?_
  refine PW.ex rfl rfl rfl rfl (Ex.move rfl) ?_
  refine PW.ex rfl rfl rfl rfl (Ex.move rfl) ?_
  refine PW.ex rfl rfl rfl rfl (Ex.move rfl) ?_
  refine PW.ex rfl rfl rfl rfl (Ex.add rfl rfl (by first | exact inc64 (by omega) | exact addN (by omega) | exact w64 (by omega) (by omega))) ?_
  refine PW.ex rfl rfl rfl rfl (Ex.move rfl) ?_
  refine PW.hv rfl rfl rfl rfl (Hv.callS hS rfl rfl rfl cb76 (from1_c x hx (p + 1) (by omega) b2 a3 c3 (memOf _) _ (imm_memOf _) (memOf_cell (Rd.obj (k := 0) rfl rfl _ hS.rd)) (hl.mono hS.imm.ext))) (fun _ _ h => h.2.rd) fun v w18 ⟨hv, hS⟩ => ?_
  subst hv
  refine PW.ex rfl rfl rfl rfl (Ex.sliceLH Try.underlying36 ti43 rfl rfl rfl rfl rfl h1 (by omega)) ?_
  refine PW.ex rfl rfl rfl rfl (Ex.assign rfl) ?_
  refine PW.ex rfl rfl rfl rfl (Ex.assign rfl) ?_
  refine PW.nil ?_
  refine LW.nil fun aa ha => hK9 _ _ _ ?_ aa ha
  refine CW.ret fun aa ha => ?_
  refine ret_two ha Try.results56 rfl rfl ?_
  exact hS.retS

/-! ### Links -/
def toN (l : List I2) (x : Lat) (e : Edge) : Nat := if e.To < x.N then l.findIdx (fun z => decide (z = ⟨e.To, e.Word⟩)) else l.length - 1
def edAt (x : Lat) (i : Nat) : Edge := x.Edges[i]?.getD default
noncomputable def mkLink (x : Lat) (m : Mdl) (l : List I2) (nI : Nat) (z : I2) (i : Nat) : Link := ⟨nI, toN l x (edAt x i), i, (edAt x i).Cost + pairC m z.b (edAt x i).Word⟩
noncomputable def linksOf (x : Lat) (m : Mdl) (l : List I2) (nI : Nat) (z : I2) : List Link := ((List.range x.Edges.length).filter fun i => decide ((edAt x i).From = z.a)).map (mkLink x m l nI z)
noncomputable def linksTo (x : Lat) (m : Mdl) (l : List I2) (n : Nat) : List Link := (l.zipIdx.take n).flatMap fun p => linksOf x m l p.2 p.1
theorem edAt_of {x : Lat} {i : Nat} (h : i < x.Edges.length) : edAt x i = x.Edges[i] := by unfold edAt; rw [List.getElem?_eq_getElem h]; rfl
theorem linksTo_succ (x : Lat) (m : Mdl) (l : List I2) {n : Nat} (h : n < l.length) : linksTo x m l (n + 1) = linksTo x m l n ++ linksOf x m l n l[n] := by
  unfold linksTo
  rw [List.take_succ_eq_append_getElem (by rw [List.length_zipIdx]; exact h), List.flatMap_append, List.getElem_zipIdx]
  simp
theorem filter_range {n a b : Nat} (hab : a ≤ b) (hb : b ≤ n) : (List.range n).filter (fun i => decide (a ≤ i ∧ i < b)) = List.range' a (b - a) := by
  have e : List.range n = List.range' 0 a ++ (List.range' a (b - a) ++ List.range' b (n - b)) := by
    rw [List.range_eq_range']
    have h1 : List.range' a (b - a) ++ List.range' b (n - b) = List.range' a (n - a) := by
      have := List.range'_append_1 (s := a) (m := b - a) (n := n - b)
      rw [show a + (b - a) = b by omega, show b - a + (n - b) = n - a by omega] at this
      exact this
    rw [h1]
    have := List.range'_append_1 (s := 0) (m := a) (n := n - a)
    rw [Nat.zero_add, show a + (n - a) = n by omega] at this
    exact this.symm
  rw [e, List.filter_append, List.filter_append]
  rw [List.filter_eq_nil_iff.2, List.filter_eq_self.2, List.filter_eq_nil_iff.2, List.nil_append, List.append_nil]
  · intro i hi; rw [List.mem_range'_1] at hi; simp only [decide_eq_true_eq]; omega
  · intro i hi; rw [List.mem_range'_1] at hi; simp only [decide_eq_true_eq]; omega
  · intro i hi; rw [List.mem_range'_1] at hi; simp only [decide_eq_true_eq]; omega
theorem linksOf_range {x : Lat} (hx : okX x = true) (m : Mdl) (l : List I2) (nI : Nat) (z : I2) : linksOf x m l nI z = (List.range' (lo x z.a) (lo x (z.a + 1) - lo x z.a)).map (mkLink x m l nI z) := by
  unfold linksOf
  congr 1
  rw [← filter_range (lo_mono x z.a) (lo_le x (z.a + 1))]
  refine List.filter_congr fun i hi => ?_
  rw [List.mem_range] at hi
  rw [edAt_of hi]
  exact decide_eq_decide.2 (lo_from hx z.a hi)
noncomputable def graphR (x : Lat) (m : Mdl) (p : Int) : Grf := ⟨(nodesL x m.Words.length p).length, linksTo x m (nodesL x m.Words.length p) (nodesL x m.Words.length p).length⟩
noncomputable def buildR (x : Lat) (m : Mdl) (p : Int) : Built := if okM m = true then if fitsC x m.Words.length p = true then ⟨graphR x m p, (nodesL x m.Words.length p).map (·.b), 0⟩ else ⟨⟨0, []⟩, [], 1⟩ else ⟨⟨0, []⟩, [], 110⟩
end Go.Proofs.Ytgnpjhellmfhoaa

/-
  Context: the walk of Build.
-/
namespace Go.Proofs.Ytgnpjhellmfhoaa
open Go.RowKit Sy


theorem nodesL_len {x : Lat} {n : Nat} (hx : okX x = true) (hw : wordsIn x n = true) (p : Int) : (nodesL x n p).length ≤ x.Edges.length + 2 := by
  have h := mid_of hx hw (ys := (endsL x).mergeSort fun a b => !decide (ndLt b a)) (List.mergeSort_perm _ _) ((List.pairwise_mergeSort (fun a b c h1 h2 => by
      simp only [Bool.not_eq_true', decide_eq_false_iff_not] at *; unfold ndLt at *; omega) (fun a b => by
      simp only [Bool.or_eq_true, Bool.not_eq_true', decide_eq_false_iff_not]; unfold ndLt; omega) _).imp fun {a b} h => by simpa using h)
  have h2 := dd_len ((endsL x).mergeSort fun a b => !decide (ndLt b a))
  rw [h, List.length_mergeSort] at h2
  have h3 := endsL_len x
  unfold nodesL
  split <;> simp <;> omega
theorem nodesL_word {x : Lat} {n : Nat} {p : Int} (hp : p < n) : ∀ z ∈ nodesL x n p, z.b < n := by
  intro z hz
  unfold nodesL at hz
  rcases List.mem_cons.1 hz with rfl | hz
  · exact hp
  · rcases List.mem_append.1 hz with hz | hz
    · obtain ⟨q, w, h3, h4, h5, _, rfl⟩ := midR_mem.1 hz
      simp only; omega
    · split at hz
      · obtain rfl := List.mem_singleton.1 hz
        simp only; omega
      · cases hz
def IsBuilt (b : Built) (μ : Mem) (v : Value) : Prop := ∃ adl cl adt ct, v = .tuple #[.agg #[.int .i64 b.G.N, .slice adl b.G.Links.length cl], .slice adt b.Last.length ct, .int .i64 b.E] ∧ Sl μ adl cl b.G.Links ∧ Sl μ adt ct b.Last
theorem IsBuilt.zero (μ : Mem) (e : Int) : IsBuilt ⟨⟨0, []⟩, [], e⟩ μ (.tuple #[.agg #[.int .i64 0, .slice none 0 0], .slice none 0 0, .int .i64 e]) := ⟨none, 0, none, 0, rfl, Sl.nil _ _ _ (by simp [maxLen]), Sl.nil _ _ _ (by simp [maxLen])⟩
theorem findIdx_node {l : List I2} (hs : l.Pairwise ndLt) {j : Nat} (hj : j < l.length) : l.findIdx (fun z => decide (z = l[j])) = j := (List.findIdx_eq hj).2 ⟨decide_eq_true rfl, fun k hk => decide_eq_false fun e => by
  have := nodupI hs (by omega) hj e; omega⟩
/-- The node to which an edge leads. -/
theorem toN_at {x : Lat} {n : Nat} (hx : okX x = true) (hw : wordsIn x n = true) (p : Int) {i : Nat} (hi : i < x.Edges.length) (h : x.Edges[i].To < x.N) : ∃ j, ∃ hj : j < (nodesL x n p).length, 0 < j ∧ (nodesL x n p)[j] = ⟨x.Edges[i].To, x.Edges[i].Word⟩ ∧ toN (nodesL x n p) x x.Edges[i] = j := by
  obtain ⟨h1, h2, _⟩ := okX_edges hx
  have h3 := h2 _ (List.getElem_mem hi)
  have h4 : x.Edges[i].Word < n := by unfold wordsIn at hw; rw [List.all_eq_true] at hw; exact of_decide_eq_true (hw _ (List.getElem_mem hi))
  have hmem : (⟨x.Edges[i].To, x.Edges[i].Word⟩ : I2) ∈ midR x n := midR_mem.2 ⟨x.Edges[i].To.toNat, x.Edges[i].Word.toNat, by omega, by omega, by omega, by
    unfold endsAt; rw [List.any_eq_true]; exact ⟨_, List.getElem_mem hi, by rw [decide_eq_true_eq]; omega⟩, by rw [Int.toNat_of_nonneg (by omega), Int.toNat_of_nonneg (by omega)]⟩
  have hmem2 : (⟨x.Edges[i].To, x.Edges[i].Word⟩ : I2) ∈ midR x n ++ if 0 < x.N then [⟨x.N, -1⟩] else [] := List.mem_append_left _ hmem
  obtain ⟨j, hj, he⟩ := List.getElem_of_mem hmem2
  have hst := nodesL_strict hx n p
  have hj2 : j + 1 < (nodesL x n p).length := by unfold nodesL; rw [List.length_cons]; omega
  have he2 : (nodesL x n p)[j + 1] = ⟨x.Edges[i].To, x.Edges[i].Word⟩ := he
  refine ⟨j + 1, hj2, by omega, he2, ?_⟩
  unfold toN
  rw [if_pos h, ← he2]
  exact findIdx_node hst hj2
set_option maxRecDepth 100000 in
set_option maxHeartbeats 4000000 in
theorem build_c (x : Lat) (m : Mdl) (p : Int) (hws : ∀ s ∈ m.Words, s.size ≤ 9223372036854775807) (hsm : ∀ e ∈ x.Edges, -1099511627776 ≤ e.To ∧ e.To ≤ 1099511627776) (hE : x.Edges.length ≤ 100)
    (a0 a1 a2 a3 : Option Addr) (c0 c1 c2 c3 : Nat) (μ : Mem) (w : World) (hμ : Imm μ w) (hxl : Sl μ a3 c3 x.Edges) (hm0 : Sl μ a0 c0 m.Words) (hm1 : Sl μ a1 c1 m.Counts) (hm2 : Sl μ a2 c2 m.Pairs) :
    Calls Try.prog 33 #[.agg #[.int .i64 x.N, .slice a3 x.Edges.length c3], .agg #[.slice a0 m.Words.length c0, .slice a1 m.Counts.length c1, .slice a2 m.Pairs.length c2, .int .i64 m.Back], .int .i64 p] w (RetV w μ (IsBuilt (buildR x m p))) := by
  have hS := St.start w μ hμ
  refine calls_start 119 [.agg #[.int .i64 x.N, .slice a3 x.Edges.length c3], .agg #[.slice a0 m.Words.length c0, .slice a1 m.Counts.length c1, .slice a2 m.Pairs.length c2, .int .i64 m.Back], .int .i64 p] Try.func33 rfl Try.ntmps33 rfl rfl ?_
  refine CW.seq fun K1 hK1 => ?_
  refine CW.region [0, 1, 2, 3, 4] rfl ?_
  refine LW.hv rfl rfl rfl rfl (Hv.boxS hS rfl rfl) fun v w3 ⟨b3, hv, hb3, hS⟩ => ?_
  subst hv
  refine LW.hv rfl rfl rfl rfl (Hv.boxS hS rfl rfl) fun v w4 ⟨b4, hv, hb4, hS⟩ => ?_
  subst hv
  refine LW.hv rfl rfl rfl rfl (Hv.alloc ti46 hS) fun v w6 ⟨b6, hv, hb6, hS⟩ => ?_
  subst hv
  refine LW.ex rfl rfl rfl rfl (Ex.assign rfl) hS.rd ?_
  refine LW.ex rfl rfl rfl rfl (Ex.assign rfl) hS.rd ?_
  refine LW.nil fun aa ha => hK1 _ _ _ ?_ aa ha
  refine CW.seq fun K2 hK2 => ?_
  refine CW.block ?_
  refine CW.seq fun K3 hK3 => ?_
  refine CW.region [0, 1, 2, 3] rfl ?_
  refine LW.ex rfl rfl rfl rfl (Ex.load4c ti34 rfl rfl (by first | exact obT rfl | exact Rd.imm ‹_› | exact slT ‹_›) (by first | exact obT rfl | exact Rd.imm ‹_› | exact slT ‹_›) (by first | exact obT rfl | exact Rd.imm ‹_› | exact slT ‹_›) (by first | exact obT rfl | exact Rd.imm ‹_› | exact slT ‹_›)) hS.rd ?_
  refine LW.hv rfl rfl rfl rfl (Hv.callS hS rfl rfl rfl cb39 (cvalid_c m hws _ _ _ _ _ _ μ _ hS.imm hm0 hm1 hm2)) fun v w22 ⟨hv, hS⟩ => ?_
  subst hv
  refine LW.splitB (fun h1_1 => ?_) (fun h1_1 => ?_)
  · skip
    refine LW.ex rfl rfl rfl rfl (Ex.not rfl rfl) hS.rd ?_
    refine LW.ex rfl rfl rfl rfl (Ex.assign rfl) hS.rd ?_
    refine LW.nil fun aa ha => hK3 _ _ _ ?_ aa ha
    refine CW.no rfl ?_
    refine CW.seq fun K4 hK4 => ?_
    refine CW.region [0, 1, 2, 3, 4, 5] rfl ?_
    refine LW.ex rfl rfl rfl rfl (Ex.load2c ti38 rfl rfl (by first | exact obT rfl | exact Rd.imm ‹_› | exact slT ‹_›) (by first | exact obT rfl | exact Rd.imm ‹_› | exact slT ‹_›)) hS.rd ?_
    refine LW.ex rfl rfl rfl rfl (Ex.load4c ti34 rfl rfl (by first | exact obT rfl | exact Rd.imm ‹_› | exact slT ‹_›) (by first | exact obT rfl | exact Rd.imm ‹_› | exact slT ‹_›) (by first | exact obT rfl | exact Rd.imm ‹_› | exact slT ‹_›) (by first | exact obT rfl | exact Rd.imm ‹_› | exact slT ‹_›)) hS.rd ?_
    refine LW.ex rfl rfl rfl rfl (Ex.move rfl) hS.rd ?_
    refine LW.hv rfl rfl rfl rfl (Hv.callS hS rfl rfl rfl cb40 (cfits_c x m p hsm _ _ _ _ _ _ _ _ μ _ hS.imm hxl hm0 hm1 hm2)) fun v w29 ⟨hv, hS⟩ => ?_
    subst hv
    refine LW.splitB (fun h3_3 => ?_) (fun h3_3 => ?_)
    · skip
      refine LW.ex rfl rfl rfl rfl (Ex.not rfl rfl) hS.rd ?_
      refine LW.ex rfl rfl rfl rfl (Ex.assign rfl) hS.rd ?_
      refine LW.nil fun aa ha => hK4 _ _ _ ?_ aa ha
      refine CW.no rfl ?_
      refine CW.skip fun aa ha => hK2 _ _ _ ?_ aa ha
      refine CW.seq fun K5 hK5 => ?_
      have hM := okM_iff.1 h1_1
      have hfit := h3_3
      unfold fitsC at hfit
      rw [Bool.and_eq_true, Bool.and_eq_true, decide_eq_true_eq] at hfit
      obtain ⟨⟨hx, hp⟩, hw⟩ := hfit
      have hn2 := hM.n2
      obtain ⟨⟨hN0, hN1, _⟩, hed, _⟩ := okX_edges hx
      have hnl := nodesL_len hx hw p
      have hnsm := nodesL_small hp hn2 hx
      have hnst := nodesL_strict hx m.Words.length p
      have hnwd := nodesL_word (x := x) hp.2
      have hnl1 : 1 ≤ (nodesL x m.Words.length p).length := by unfold nodesL; simp
      have hbR : buildR x m p = ⟨graphR x m p, (nodesL x m.Words.length p).map (·.b), 0⟩ := by unfold buildR; rw [if_pos h1_1, if_pos h3_3]
      refine CW.region [0, 1, 2, 3, 4, 5, 6, 7] rfl ?_
      refine LW.ex rfl rfl rfl rfl (Ex.load2c ti38 rfl rfl (by first | exact obT rfl | exact Rd.imm ‹_› | exact slT ‹_›) (by first | exact obT rfl | exact Rd.imm ‹_› | exact slT ‹_›)) hS.rd ?_
      refine LW.ex rfl rfl rfl rfl (Ex.move rfl) hS.rd ?_
      refine LW.hv rfl rfl rfl rfl (Hv.callM rfl rfl rfl cb55 (nodes_c x m.Words.length p hx hn2 hw hp _ _ hS hxl)) fun v w35 ⟨adN, cN, mb, kv, hv, hS, hkv⟩ => ?_
      subst hv
      refine LW.ex rfl rfl rfl rfl (Ex.move rfl) hS.rd ?_
      refine LW.ex rfl rfl rfl rfl (Ex.extract rfl rfl) hS.rd ?_
      refine LW.ex rfl rfl rfl rfl (Ex.extract rfl rfl) hS.rd ?_
      refine LW.ex rfl rfl rfl rfl (Ex.assign rfl) hS.rd ?_
      refine LW.ex rfl rfl rfl rfl (Ex.assign rfl) hS.rd ?_
      refine LW.nil fun aa ha => hK5 _ _ _ ?_ aa ha
      refine CW.seq fun K6 hK6 => ?_
      refine CW.seq fun K7 hK7 => ?_
      refine CW.region [0, 1, 2] rfl ?_
      refine LW.ex rfl rfl rfl rfl (Ex.move rfl) hS.rd ?_
      refine LW.ex rfl rfl rfl rfl (Ex.lenSl rfl Try.underlying120 rfl) hS.rd ?_
      refine LW.ex rfl rfl rfl rfl (Ex.gtr rfl rfl rfl) hS.rd ?_
      refine LW.splitB (fun h6_2 => ?_) (fun h6_2 => ?_)
      · have h6_2 := of_decide_eq_true h6_2
        omega
      · have h6_2 := of_decide_eq_false h6_2
        refine LW.nil fun aa ha => hK7 _ _ _ ?_ aa ha
        refine CW.no rfl ?_
        refine CW.skip fun aa ha => hK6 _ _ _ ?_ aa ha
        refine CW.seq fun K8 hK8 => ?_
        refine CW.region [0, 1, 2, 3, 4, 5, 6] rfl ?_
        refine LW.ex rfl rfl rfl rfl (Ex.move rfl) hS.rd ?_
        refine LW.ex rfl rfl rfl rfl (Ex.lenSl rfl Try.underlying120 rfl) hS.rd ?_
        refine LW.ex rfl rfl rfl rfl (Ex.buildS st46 rfl rfl rfl) hS.rd ?_
        refine LW.hv rfl rfl rfl rfl (Hv.buildSl hS Try.underlying31 ti3 rfl rfl rfl rfl rfl rfl) fun v w45 ⟨b45, hv, hb45, hS⟩ => ?_
        subst hv
        refine LW.hv rfl rfl rfl rfl (Hv.alloc ti46 hS) fun v w11 ⟨b11, hv, hb11, hS⟩ => ?_
        subst hv
        refine LW.hu rfl rfl rfl (Hv.storeN (k := 0) ti46 hS rfl rfl rfl rfl (by simp [Value.oneCell'])) fun _ w_5 hS => ?_
        dsimp only [List.set] at hS
        refine LW.ex rfl rfl rfl rfl (Ex.assign rfl) hS.rd ?_
        refine LW.nil fun aa ha => hK8 _ _ _ ?_ aa ha
        refine CW.seq fun K9 hK9 => ?_
        refine CW.seq fun K10 hK10 => ?_
        refine CW.region [0, 1, 2] rfl ?_
        refine LW.ex rfl rfl rfl rfl (Ex.move rfl) hS.rd ?_
        refine LW.ex rfl rfl rfl rfl (Ex.lenSl rfl Try.underlying120 rfl) hS.rd ?_
        refine LW.ex rfl rfl rfl rfl (Ex.move rfl) hS.rd ?_
        refine LW.nil fun aa ha => hK10 _ _ _ ?_ aa ha
        refine CW.block ?_
        obtain ⟨gN, rfl⟩ := hS.sl_some 3 rfl (by omega)
        have hS := hS.row_sl (k := 1) rfl 0 1 rfl (by simp [maxLen])
        dsimp only [List.set] at hS
        have hS := nil_sl 66 4 hS
        refine CW.loop (fun qq frm wl10 => ∃ (i : Nat) (adl : Option Addr) (ll : Nat) (cl : Nat) (ks : List Link) (adt : Option Addr) (ct : Nat), i ≤ (nodesL x m.Words.length p).length ∧ ll = ks.length ∧ ll ≤ i * 100 ∧ qq = (nodesL x m.Words.length p).length - i ∧ frm = [(3, .pointer (some ⟨b3, 0, none⟩)), (4, .pointer (some ⟨b4, 0, none⟩)), (6, .pointer (some ⟨b6, 0, none⟩)), (9, .slice (some ⟨gN, 0, none⟩) (nodesL x m.Words.length p).length cN), (10, .map (some mb)), (11, .pointer (some ⟨b11, 0, none⟩)), (12, .slice adt i ct), (46, .slice (some ⟨gN, 0, none⟩) (nodesL x m.Words.length p).length cN), (47, .int .i64 (((nodesL x m.Words.length p).length : Nat) : Int)), (48, .int .i64 i)] ∧ St w wl10 μ [Own.sl adl ll cl 66 4 (ks.flatMap linkL), Own.obj b11 [.int .i64 (nodesL x m.Words.length p).length, .slice adl ll cl] 46, Own.sl adt i ct 3 1 (((nodesL x m.Words.length p).take i).map fun z => Value.int .i64 z.b), Own.mp KPair.val (fun (i : Nat) => .int .i64 i) mb kv, Own.sl (some ⟨gN, 0, none⟩) (nodesL x m.Words.length p).length cN 125 2 ((nodesL x m.Words.length p).flatMap i2L), Own.obj b6 [.int .i64 0, .slice none 0 0] 46, Own.obj b4 [.slice a0 m.Words.length c0, .slice a1 m.Counts.length c1, .slice a2 m.Pairs.length c2, .int .i64 m.Back] 34, Own.obj b3 [.int .i64 x.N, .slice a3 x.Edges.length c3] 38] ∧ (ks = linksTo x m (nodesL x m.Words.length p) i)) _ ⟨0, none, 0, 0, [], some ⟨b45, 0, none⟩, 0, (by first | omega | (simp; done) | (simp; omega)), (by first | omega | (simp; done) | (simp; omega)), (by first | omega | (simp; done) | (simp; omega)), rfl, rfl, hS, rfl⟩ ⟨rfl, rfl, rfl, rfl, rfl, rfl, rfl, rfl, rfl, rfl, trivial⟩ ?_
        clear hS
        rintro qq frm wl10 ⟨i, adl, ll, cl, ks, adt, ct, hi, hll, hlb, hq, rfl, hS, hks⟩
        refine CW.seq fun K11 hK11 => ?_
        refine CW.region [0] rfl ?_
        refine LW.ex rfl rfl rfl rfl (Ex.lss rfl rfl rfl) hS.rd ?_
        refine LW.splitB (fun h10_0 => ?_) (fun h10_0 => ?_)
        · have h10_0 := of_decide_eq_true h10_0
          refine LW.nil fun aa ha => hK11 _ _ _ ?_ aa ha
          refine CW.seq fun K12 hK12 => ?_
          refine CW.yes rfl ?_
          refine CW.skip fun aa ha => hK12 _ _ _ ?_ aa ha
          refine CW.seq fun K13 hK13 => ?_
          refine CW.block ?_
          refine CW.seq fun K14 hK14 => ?_
          have hi2 : i < (nodesL x m.Words.length p).length := by omega
          have f0 := flat2 (enc := i2L) (k := 2) (fun _ => rfl) (nodesL x m.Words.length p) i 0 hi2 (by omega) (v := .int .i64 (nodesL x m.Words.length p)[i].a) rfl
          have f1 := flat2 (enc := i2L) (k := 2) (fun _ => rfl) (nodesL x m.Words.length p) i 1 hi2 (by omega) (v := .int .i64 (nodesL x m.Words.length p)[i].b) rfl
          have hsi := hnsm _ (List.getElem_mem hi2)
          have hwi := hnwd _ (List.getElem_mem hi2)
          refine CW.region [0, 1, 2, 3, 4, 5] rfl ?_
          refine LW.ex rfl rfl rfl rfl (Ex.move rfl) hS.rd ?_
          refine LW.ex rfl rfl rfl rfl (Ex.indexSl Try.underlying120 ti125 rfl rfl rfl (by omega)) hS.rd ?_
          refine LW.ex rfl rfl rfl rfl (Ex.load2c ti125 rfl rfl (slT (v := .int .i64 (nodesL x m.Words.length p)[i].a) (by rw [Nat.zero_add]; exact f0)) (slT (v := .int .i64 (nodesL x m.Words.length p)[i].b) (by rw [Nat.zero_add]; exact f1))) hS.rd ?_
          refine LW.hv rfl rfl rfl rfl (Hv.alloc ti125 hS) fun v w14 ⟨b14, hv, hb14, hS⟩ => ?_
          subst hv
          refine LW.ex rfl rfl rfl rfl (Ex.assign rfl) hS.rd ?_
          refine LW.hu rfl rfl rfl (Hv.storeN (k := 0) ti125 hS rfl rfl rfl rfl (by simp [Value.oneCell'])) fun _ w_5 hS => ?_
          dsimp only [List.set] at hS
          refine LW.nil fun aa ha => hK14 _ _ _ ?_ aa ha
          refine CW.seq fun K15 hK15 => ?_
          refine CW.region [0, 1, 2, 3, 4, 5] rfl ?_
          refine LW.ex rfl rfl rfl rfl (Ex.move rfl) hS.rd ?_
          refine LW.ex rfl rfl rfl rfl (Ex.indexArr (j := 1) Try.underlying125 ti3 rfl rfl rfl (by omega)) hS.rd ?_
          refine LW.ex rfl rfl rfl rfl (Ex.load1 ti3 rfl rfl (by first | exact obT rfl | exact Rd.imm ‹_› | exact slT ‹_›)) hS.rd ?_
          refine LW.hv rfl rfl rfl rfl (Hv.buildSl hS Try.underlying31 ti3 rfl rfl rfl rfl rfl rfl) fun v w56 ⟨b56, hv, hb56, hS⟩ => ?_
          subst hv
          refine LW.hv rfl rfl rfl rfl (Hv.append (k := 4) rfl Try.underlying31 ti3 rfl hS rfl rfl rfl rfl (Rd.objAll (k := 0) rfl hS.rd) (by simp [Value.oneCell']) (by unfold maxLen; omega) (by omega)) fun v w57 ⟨ad57, c57, hv, hS⟩ => ?_
          subst hv
          dsimp only [List.set] at hS
          have hS := hS.drop 0 rfl
          dsimp only [List.eraseIdx] at hS
          rw [show (((nodesL x m.Words.length p).take i).map fun z => Value.int .i64 z.b) ++ [Value.int .i64 (nodesL x m.Words.length p)[i].b] = ((nodesL x m.Words.length p).take (i + 1)).map fun z => Value.int .i64 z.b by rw [List.take_succ_eq_append_getElem hi2, List.map_append]; rfl] at hS
          refine LW.ex rfl rfl rfl rfl (Ex.assign rfl) hS.rd ?_
          refine LW.nil fun aa ha => hK15 _ _ _ ?_ aa ha
          refine CW.seq fun K16 hK16 => ?_
          refine CW.region [0, 1, 2, 3, 4, 5, 6, 7, 8] rfl ?_
          refine LW.ex rfl rfl rfl rfl (Ex.load2c ti38 rfl rfl (by first | exact obT rfl | exact Rd.imm ‹_› | exact slT ‹_›) (by first | exact obT rfl | exact Rd.imm ‹_› | exact slT ‹_›)) hS.rd ?_
          refine LW.ex rfl rfl rfl rfl (Ex.indexArr (j := 0) Try.underlying125 ti3 rfl rfl rfl (by omega)) hS.rd ?_
          refine LW.ex rfl rfl rfl rfl (Ex.load1 ti3 rfl rfl (by first | exact obT rfl | exact Rd.imm ‹_› | exact slT ‹_›)) hS.rd ?_
          refine LW.hv rfl rfl rfl rfl (Hv.callS hS rfl rfl rfl cb56 (from_c x hx (nodesL x m.Words.length p)[i].a (by omega) _ _ μ _ hS.imm hxl)) fun v w62 ⟨hv, hS⟩ => ?_
          subst hv
          refine LW.ex rfl rfl rfl rfl (Ex.move rfl) hS.rd ?_
          refine LW.ex rfl rfl rfl rfl (Ex.extract rfl rfl) hS.rd ?_
          refine LW.ex rfl rfl rfl rfl (Ex.extract rfl rfl) hS.rd ?_
          refine LW.ex rfl rfl rfl rfl (Ex.assign rfl) hS.rd ?_
          refine LW.ex rfl rfl rfl rfl (Ex.assign rfl) hS.rd ?_
          refine LW.nil fun aa ha => hK16 _ _ _ ?_ aa ha
          refine CW.seq fun K17 hK17 => ?_
          refine CW.seq fun K18 hK18 => ?_
          obtain ⟨ys, hy1, hy2, hy3⟩ := hxl.part (lo_mono x (nodesL x m.Words.length p)[i].a) (lo_le x ((nodesL x m.Words.length p)[i].a + 1))
          obtain ⟨z, hz⟩ : ∃ z, z = (nodesL x m.Words.length p)[i] := ⟨_, rfl⟩
          have hlh := lo_mono x z.a
          have hhl := lo_le x (z.a + 1)
          have hlr := linksOf_range hx m (nodesL x m.Words.length p) i z
          rw [← hz] at hS hsi hwi hy1 hy2 hy3 ⊢
          obtain ⟨A, hA⟩ : ∃ A, A = lo x z.a := ⟨_, rfl⟩
          obtain ⟨B, hB⟩ : ∃ B, B = lo x (z.a + 1) := ⟨_, rfl⟩
          rw [← hA] at hlh hy1 hy2 hy3 hlr ⊢
          rw [← hB] at hlh hhl hy1 hy2 hlr ⊢
          obtain ⟨adE, hadE⟩ : ∃ adE, adE = (if c3 = A then a3 else a3.map (·.add (A * 4))) := ⟨_, rfl⟩
          rw [← hadE]
          have hy3 : Sl μ adE (c3 - A) ys := by rw [hadE]; exact hy3
          refine CW.region [0, 1, 2, 3, 4, 5, 6] rfl ?_
          refine LW.ex rfl rfl rfl rfl (Ex.fieldO 1 Try.underlying46 rfl rfl ti44 rfl) hS.rd ?_
          refine LW.ex rfl rfl rfl rfl (Ex.load1 ti44 rfl rfl (by first | exact obT rfl | exact Rd.imm ‹_› | exact slT ‹_›)) hS.rd ?_
          refine LW.ex rfl rfl rfl rfl (Ex.lenSl rfl Try.underlying44 rfl) hS.rd ?_
          refine LW.ex rfl rfl rfl rfl (Ex.move rfl) hS.rd ?_
          refine LW.ex rfl rfl rfl rfl (Ex.lenSl rfl Try.underlying36 rfl) hS.rd ?_
          refine LW.ex rfl rfl rfl rfl (Ex.add rfl rfl (by first | exact inc64 (by omega) | exact addN (by omega) | exact w64 (by omega) (by omega))) hS.rd ?_
          refine LW.ex rfl rfl rfl rfl (Ex.gtr rfl rfl rfl) hS.rd ?_
          refine LW.splitB (fun h14_6 => ?_) (fun h14_6 => ?_)
          · have h14_6 := of_decide_eq_true h14_6
            omega
          · have h14_6 := of_decide_eq_false h14_6
            refine LW.nil fun aa ha => hK18 _ _ _ ?_ aa ha
            refine CW.no rfl ?_
            refine CW.skip fun aa ha => hK17 _ _ _ ?_ aa ha
            refine CW.seq fun K19 hK19 => ?_
            refine CW.region [0, 1, 2] rfl ?_
            refine LW.ex rfl rfl rfl rfl (Ex.move rfl) hS.rd ?_
            refine LW.ex rfl rfl rfl rfl (Ex.lenSl rfl Try.underlying36 rfl) hS.rd ?_
            refine LW.ex rfl rfl rfl rfl (Ex.move rfl) hS.rd ?_
            refine LW.nil fun aa ha => hK19 _ _ _ ?_ aa ha
            refine CW.block ?_
            refine CW.loop (fun qq frm wl17 => ∃ (k : Nat) (adl2 : Option Addr) (ll2 : Nat) (cl2 : Nat) (ks2 : List Link), k ≤ B - A ∧ ll2 = ks2.length ∧ ll2 ≤ i * 100 + k ∧ qq = B - A - k ∧ frm = [(3, .pointer (some ⟨b3, 0, none⟩)), (4, .pointer (some ⟨b4, 0, none⟩)), (6, .pointer (some ⟨b6, 0, none⟩)), (9, .slice (some ⟨gN, 0, none⟩) (nodesL x m.Words.length p).length cN), (10, .map (some mb)), (11, .pointer (some ⟨b11, 0, none⟩)), (12, .slice ad57 (i + 1) c57), (13, .int .i64 i), (14, .pointer (some ⟨b14, 0, none⟩)), (16, .int .i64 A), (46, .slice (some ⟨gN, 0, none⟩) (nodesL x m.Words.length p).length cN), (47, .int .i64 (((nodesL x m.Words.length p).length : Nat) : Int)), (48, .int .i64 i), (73, .slice adE (B - A) (c3 - A)), (74, .int .i64 ((B - A : Nat) : Int)), (75, .int .i64 k)] ∧ St w wl17 μ [Own.obj b14 [.int .i64 z.a, .int .i64 z.b] 125, Own.sl adl2 ll2 cl2 66 4 (ks2.flatMap linkL), Own.obj b11 [.int .i64 (nodesL x m.Words.length p).length, .slice adl2 ll2 cl2] 46, Own.sl ad57 (i + 1) c57 3 1 (((nodesL x m.Words.length p).take (i + 1)).map fun z => Value.int .i64 z.b), Own.mp KPair.val (fun (i : Nat) => .int .i64 i) mb kv, Own.sl (some ⟨gN, 0, none⟩) (nodesL x m.Words.length p).length cN 125 2 ((nodesL x m.Words.length p).flatMap i2L), Own.obj b6 [.int .i64 0, .slice none 0 0] 46, Own.obj b4 [.slice a0 m.Words.length c0, .slice a1 m.Counts.length c1, .slice a2 m.Pairs.length c2, .int .i64 m.Back] 34, Own.obj b3 [.int .i64 x.N, .slice a3 x.Edges.length c3] 38] ∧ (ks2 = ks ++ (List.range' A k).map (mkLink x m (nodesL x m.Words.length p) i z))) _ ⟨0, adl, ll, cl, ks, (by first | omega | (simp; done) | (simp; omega)), (by first | omega | (simp; done) | (simp; omega)), (by first | omega | (simp; done) | (simp; omega)), rfl, rfl, hS, by simp⟩ ⟨rfl, rfl, rfl, rfl, rfl, rfl, rfl, rfl, rfl, rfl, rfl, rfl, rfl, rfl, rfl, rfl, trivial⟩ ?_
            clear hS
            rintro qq frm wl17 ⟨k, adl2, ll2, cl2, ks2, hk, hll2, hlb2, hq, rfl, hS, hks2⟩
            refine CW.seq fun K20 hK20 => ?_
            refine CW.region [0] rfl ?_
            refine LW.ex rfl rfl rfl rfl (Ex.lss rfl rfl rfl) hS.rd ?_
            refine LW.splitB (fun h17_0 => ?_) (fun h17_0 => ?_)
            · have h17_0 := of_decide_eq_true h17_0
              refine LW.nil fun aa ha => hK20 _ _ _ ?_ aa ha
              refine CW.seq fun K21 hK21 => ?_
              refine CW.yes rfl ?_
              refine CW.skip fun aa ha => hK21 _ _ _ ?_ aa ha
              refine CW.seq fun K22 hK22 => ?_
              refine CW.block ?_
              refine CW.seq fun K23 hK23 => ?_
              have hk2 : k < ys.length := by omega
              have hk3 : A + k < x.Edges.length := by omega
              have hye : ys[k] = x.Edges[A + k] := by subst hy1; rw [List.getElem_take, List.getElem_drop]
              have hedk := hed _ (List.getElem_mem hk3)
              have hpc := hM.pairC0 z.b x.Edges[A + k].Word
              have hwk : x.Edges[A + k].Word < m.Words.length := by have h := hw; unfold wordsIn at h; rw [List.all_eq_true] at h; exact of_decide_eq_true (h _ (List.getElem_mem hk3))
              obtain ⟨e, hee⟩ : ∃ e, e = x.Edges[A + k] := ⟨_, rfl⟩
              have hea : edAt x (A + k) = e := by rw [edAt_of hk3, hee]
              obtain ⟨bl, ol, rfl, k0, k1, k2, k3⟩ := hy3.at hk2
              rw [hye, ← hee] at k0 k1 k2 k3
              have hto := toN_at hx hw p hk3
              rw [← hee] at hto hedk hpc hwk
              refine CW.region [0, 1, 2, 3, 4, 5] rfl ?_
              refine LW.ex rfl rfl rfl rfl (Ex.move rfl) hS.rd ?_
              refine LW.ex rfl rfl rfl rfl (Ex.indexSl Try.underlying36 ti43 rfl rfl rfl (by omega)) hS.rd ?_
              refine LW.ex rfl rfl rfl rfl (Ex.load4c ti43 rfl rfl (by first | exact obT rfl | exact Rd.imm ‹_› | exact slT ‹_›) (by first | exact obT rfl | exact Rd.imm ‹_› | exact slT ‹_›) (by first | exact obT rfl | exact Rd.imm ‹_› | exact slT ‹_›) (by first | exact obT rfl | exact Rd.imm ‹_› | exact slT ‹_›)) hS.rd ?_
              refine LW.hv rfl rfl rfl rfl (Hv.alloc ti43 hS) fun v w18 ⟨b18, hv, hb18, hS⟩ => ?_
              subst hv
              refine LW.ex rfl rfl rfl rfl (Ex.assign rfl) hS.rd ?_
              refine LW.hu rfl rfl rfl (Hv.storeN (k := 0) ti43 hS rfl rfl rfl rfl (by simp [Value.oneCell'])) fun _ w_5 hS => ?_
              dsimp only [List.set] at hS
              refine LW.nil fun aa ha => hK23 _ _ _ ?_ aa ha
              refine CW.seq fun K24 hK24 => ?_
              refine CW.region [0, 1, 2, 3] rfl ?_
              refine LW.ex rfl rfl rfl rfl (Ex.move rfl) hS.rd ?_
              refine LW.ex rfl rfl rfl rfl (Ex.lenSl rfl Try.underlying120 rfl) hS.rd ?_
              refine LW.ex rfl rfl rfl rfl (Ex.sub (r := (((nodesL x m.Words.length p).length - 1 : Nat) : Int)) rfl rfl (by rw [w64 (by omega) (by omega)]; omega)) hS.rd ?_
              refine LW.ex rfl rfl rfl rfl (Ex.assign rfl) hS.rd ?_
              refine LW.nil fun aa ha => hK24 _ _ _ ?_ aa ha
              refine CW.seq fun K25 hK25 => ?_
              have hJ20 : ∀ (wj : World) , St w wj μ [Own.obj b18 (edgeL e) 43, Own.obj b14 [.int .i64 z.a, .int .i64 z.b] 125, Own.sl adl2 ll2 cl2 66 4 (ks2.flatMap linkL), Own.obj b11 [.int .i64 (nodesL x m.Words.length p).length, .slice adl2 ll2 cl2] 46, Own.sl ad57 (i + 1) c57 3 1 (((nodesL x m.Words.length p).take (i + 1)).map fun z => Value.int .i64 z.b), Own.mp KPair.val (fun (i : Nat) => .int .i64 i) mb kv, Own.sl (some ⟨gN, 0, none⟩) (nodesL x m.Words.length p).length cN 125 2 ((nodesL x m.Words.length p).flatMap i2L), Own.obj b6 [.int .i64 0, .slice none 0 0] 46, Own.obj b4 [.slice a0 m.Words.length c0, .slice a1 m.Counts.length c1, .slice a2 m.Pairs.length c2, .int .i64 m.Back] 34, Own.obj b3 [.int .i64 x.N, .slice a3 x.Edges.length c3] 38] → KW K25 119 [(3, .pointer (some ⟨b3, 0, none⟩)), (4, .pointer (some ⟨b4, 0, none⟩)), (6, .pointer (some ⟨b6, 0, none⟩)), (9, .slice (some ⟨gN, 0, none⟩) (nodesL x m.Words.length p).length cN), (10, .map (some mb)), (11, .pointer (some ⟨b11, 0, none⟩)), (12, .slice ad57 (i + 1) c57), (13, .int .i64 i), (14, .pointer (some ⟨b14, 0, none⟩)), (16, .int .i64 A), (17, .int .i64 k), (18, .pointer (some ⟨b18, 0, none⟩)), (19, .int .i64 (toN (nodesL x m.Words.length p) x e : Nat)), (46, .slice (some ⟨gN, 0, none⟩) (nodesL x m.Words.length p).length cN), (47, .int .i64 (((nodesL x m.Words.length p).length : Nat) : Int)), (48, .int .i64 i), (73, .slice (some ⟨bl, ol, none⟩) (B - A) (c3 - A)), (74, .int .i64 ((B - A : Nat) : Int)), (75, .int .i64 k)] wj := by
                intro wj  hS 
                refine hK25 _ _ _ ?_
                have hS := hS.drew
                refine CW.draw 18 (.ex 0 <| .ex 1 <| .ex 2 <| .ex 3 <| .ex 4 <| .ex 5 <| .ex 6 <| .ex 7 <| .ex 8 <| .ex 9 <| .ex 10 <| .ex 11 <| .ex 12 <| .ex 13 <| .one 14 <| .ex 15 <| .ex 16 <| .one 17 <| .done) [18, 19, 20] (Rd _ _) mixed (by kernel_rfl) rfl rfl hS.rd ?_
                refine PW.ex rfl rfl rfl rfl (Ex.fieldO 1 Try.underlying46 rfl rfl ti44 rfl) ?_
                refine PW.ex rfl rfl rfl rfl (Ex.load1 ti44 rfl rfl (by first | exact obT rfl | exact Rd.imm ‹_› | exact slT ‹_›)) ?_
                refine PW.ex rfl rfl rfl rfl (Ex.move rfl) ?_
                refine PW.ex rfl rfl rfl rfl (Ex.move rfl) ?_
                refine PW.ex rfl rfl rfl rfl (Ex.move rfl) ?_
                refine PW.ex rfl rfl rfl rfl (Ex.move rfl) ?_
                refine PW.ex rfl rfl rfl rfl (Ex.add (r := ((A + k : Nat) : Int)) rfl rfl (addN (by omega))) ?_
                refine PW.ex rfl rfl rfl rfl (Ex.fieldO 3 Try.underlying43 rfl rfl ti3 rfl) ?_
                refine PW.ex rfl rfl rfl rfl (Ex.load1 ti3 rfl rfl (by first | exact obT rfl | exact Rd.imm ‹_› | exact slT ‹_›)) ?_
                refine PW.ex rfl rfl rfl rfl (Ex.load4c ti34 rfl rfl (by first | exact obT rfl | exact Rd.imm ‹_› | exact slT ‹_›) (by first | exact obT rfl | exact Rd.imm ‹_› | exact slT ‹_›) (by first | exact obT rfl | exact Rd.imm ‹_› | exact slT ‹_›) (by first | exact obT rfl | exact Rd.imm ‹_› | exact slT ‹_›)) ?_
                refine PW.ex rfl rfl rfl rfl (Ex.indexArr (j := 1) Try.underlying125 ti3 rfl rfl rfl (by omega)) ?_
                refine PW.ex rfl rfl rfl rfl (Ex.load1 ti3 rfl rfl (by first | exact obT rfl | exact Rd.imm ‹_› | exact slT ‹_›)) ?_
                refine PW.ex rfl rfl rfl rfl (Ex.fieldO 2 Try.underlying43 rfl rfl ti3 rfl) ?_
                refine PW.ex rfl rfl rfl rfl (Ex.load1 ti3 rfl rfl (by first | exact obT rfl | exact Rd.imm ‹_› | exact slT ‹_›)) ?_
                refine PW.hv rfl rfl rfl rfl (Hv.callS hS rfl rfl rfl cb41 (cpair_c m hM z.b e.Word hwi (by omega) (by omega) _ _ _ _ _ _ μ _ hS.imm hm0 hm1 hm2)) (fun _ _ h => h.2.rd) fun v w109 ⟨hv, hS⟩ => ?_
                subst hv
                refine PW.ex rfl rfl rfl rfl (Ex.add rfl rfl (w64 (by omega) (by omega))) ?_
                refine PW.ex rfl rfl rfl rfl (Ex.buildS st66 rfl rfl rfl) ?_
                refine PW.hv rfl rfl rfl rfl (Hv.buildSl hS Try.underlying44 ti66 rfl rfl rfl rfl rfl rfl) (fun _ _ ⟨_, _, _, h⟩ => h.rd.tail) fun v w112 ⟨b112, hv, hb112, hS⟩ => ?_
                subst hv
                refine PW.nil ?_
                refine LW.hv rfl rfl rfl rfl (Hv.append (k := 3) rfl Try.underlying44 ti66 rfl hS rfl rfl rfl rfl (Rd.objAll (k := 0) rfl hS.rd) (by simp [Value.oneCell']) (by unfold maxLen; omega) (by omega)) fun v w113 ⟨ad113, c113, hv, hS⟩ => ?_
                subst hv
                dsimp only [List.set] at hS
                have hS := hS.drop 0 rfl
                dsimp only [List.eraseIdx] at hS
                refine LW.ex rfl rfl rfl rfl (Ex.fieldO 1 Try.underlying46 rfl rfl ti44 rfl) hS.rd ?_
                refine LW.hu rfl rfl rfl (Hv.storeObj (k := 3) ti44 hS rfl rfl rfl rfl (by first | assumption | (simp; done) | omega | exact Nat.zero_lt_succ _)) fun _ w_20 hS => ?_
                dsimp only [List.set] at hS
                refine LW.nil fun aa ha => hK22 _ _ _ ?_ aa ha
                refine CW.region [0, 1] rfl ?_
                refine LW.ex rfl rfl rfl rfl (Ex.add rfl rfl (by first | exact inc64 (by omega) | exact addN (by omega) | exact w64 (by omega) (by omega))) hS.rd ?_
                refine LW.ex rfl rfl rfl rfl (Ex.move rfl) hS.rd ?_
                refine LW.nil fun aa ha => ?_
                have hS := hS.drop 0 rfl
                dsimp only [List.eraseIdx] at hS
                rw [show ks2.flatMap linkL ++ [Value.int .i64 i, .int .i64 (toN (nodesL x m.Words.length p) x e : Nat), .int .i64 ((A + k : Nat) : Int), .int .i64 (e.Cost + pairC m z.b e.Word)] = (ks2 ++ [mkLink x m (nodesL x m.Words.length p) i z (A + k)]).flatMap linkL by rw [List.flatMap_append, List.flatMap_singleton]; unfold mkLink; rw [hea]; rfl] at hS
                refine ⟨_, _, ?m17, ⟨k + 1, ad113, ll2 + 1, c113, ks2 ++ [mkLink x m (nodesL x m.Words.length p) i z (A + k)], (by first | omega | (simp; done) | (simp; omega)), (by first | omega | (simp; done) | (simp; omega)), (by first | omega | (simp; done) | (simp; omega)), rfl, rfl, hS, by rw [hks2, List.append_assoc, List.range'_1_concat, List.map_append]; rfl⟩, ha.sub ⟨rfl, rfl, rfl, rfl, rfl, rfl, rfl, rfl, rfl, rfl, rfl, rfl, rfl, rfl, rfl, rfl, trivial⟩⟩
                case m17 => (rw [hq]; exact Nat.sub_lt_sub_left (Int.ofNat_lt.1 h17_0) (Nat.lt_succ_self k))
              refine CW.seq fun K26 hK26 => ?_
              refine CW.region [0, 1, 2, 3, 4] rfl ?_
              refine LW.ex rfl rfl rfl rfl (Ex.fieldO 1 Try.underlying43 rfl rfl ti3 rfl) hS.rd ?_
              refine LW.ex rfl rfl rfl rfl (Ex.load1 ti3 rfl rfl (by first | exact obT rfl | exact Rd.imm ‹_› | exact slT ‹_›)) hS.rd ?_
              refine LW.ex rfl rfl rfl rfl (Ex.fieldO 0 Try.underlying38 rfl rfl ti3 rfl) hS.rd ?_
              refine LW.ex rfl rfl rfl rfl (Ex.load1 ti3 rfl rfl (by first | exact obT rfl | exact Rd.imm ‹_› | exact slT ‹_›)) hS.rd ?_
              refine LW.ex rfl rfl rfl rfl (Ex.lss rfl rfl rfl) hS.rd ?_
              refine LW.splitB (fun h20_4 => ?_) (fun h20_4 => ?_)
              · have h20_4 := of_decide_eq_true h20_4
                refine LW.nil fun aa ha => hK26 _ _ _ ?_ aa ha
                refine CW.yes rfl ?_
                obtain ⟨j, hj, hj0, hje, hjt⟩ := hto h20_4
                have hsj := hnsm _ (List.getElem_mem hj)
                have hget : aget kv (keyN (nodesL x m.Words.length p)[j] hsj) = some (toN (nodesL x m.Words.length p) x e) := by rw [hjt]; exact hkv j hj _ hj0 rfl
                have hkey : KPair.val (keyN (nodesL x m.Words.length p)[j] hsj) = .agg #[.int .i64 e.To, .int .i64 e.Word] := by show Value.agg #[.int .i64 (nodesL x m.Words.length p)[j].a, .int .i64 (nodesL x m.Words.length p)[j].b] = _; rw [hje]
                refine CW.region [0, 1, 2, 3, 4, 5, 6, 7] rfl ?_
                refine LW.ex rfl rfl rfl rfl (Ex.move rfl) hS.rd ?_
                refine LW.ex rfl rfl rfl rfl (Ex.fieldO 1 Try.underlying43 rfl rfl ti3 rfl) hS.rd ?_
                refine LW.ex rfl rfl rfl rfl (Ex.load1 ti3 rfl rfl (by first | exact obT rfl | exact Rd.imm ‹_› | exact slT ‹_›)) hS.rd ?_
                refine LW.ex rfl rfl rfl rfl (Ex.fieldO 2 Try.underlying43 rfl rfl ti3 rfl) hS.rd ?_
                refine LW.ex rfl rfl rfl rfl (Ex.load1 ti3 rfl rfl (by first | exact obT rfl | exact Rd.imm ‹_› | exact slT ‹_›)) hS.rd ?_
                refine LW.ex rfl rfl rfl rfl (Ex.buildA ti125 ti3 rfl rfl rfl) hS.rd ?_
                refine LW.ex rfl rfl rfl rfl (Ex.lookup1_some (a := keyN (nodesL x m.Words.length p)[j] hsj) (v := toN (nodesL x m.Words.length p) x e) Try.underlying121 ti3 encNd 5 rfl rfl (by rw [hkey]; rfl) hget) hS.rd ?_
                refine LW.ex rfl rfl rfl rfl (Ex.assign rfl) hS.rd ?_
                refine LW.nil fun aa ha => ?_
                refine hJ20 _  hS  aa (ha.sub ⟨rfl, rfl, rfl, rfl, rfl, rfl, rfl, rfl, rfl, rfl, rfl, rfl, rfl, rfl, rfl, rfl, rfl, rfl, rfl, trivial⟩)
              · have h20_4 := of_decide_eq_false h20_4
                refine LW.nil fun aa ha => hK26 _ _ _ ?_ aa ha
                refine CW.no rfl ?_
                refine CW.skip fun aa ha => ?_
                have hjt : toN (nodesL x m.Words.length p) x e = (nodesL x m.Words.length p).length - 1 := by unfold toN; rw [if_neg h20_4]
                rw [← hjt] at ha
                refine hJ20 _  hS  aa (ha.sub ⟨rfl, rfl, rfl, rfl, rfl, rfl, rfl, rfl, rfl, rfl, rfl, rfl, rfl, rfl, rfl, rfl, rfl, rfl, rfl, trivial⟩)
            · have h17_0 := of_decide_eq_false h17_0
              refine LW.nil fun aa ha => hK20 _ _ _ ?_ aa ha
              refine CW.seq fun K27 hK27 => ?_
              refine CW.no rfl ?_
              refine CW.exit fun aa ha => hK13 _ _ _ ?_ aa ha
              refine CW.region [0, 1] rfl ?_
              refine LW.ex rfl rfl rfl rfl (Ex.add rfl rfl (by first | exact inc64 (by omega) | exact addN (by omega) | exact w64 (by omega) (by omega))) hS.rd ?_
              refine LW.ex rfl rfl rfl rfl (Ex.move rfl) hS.rd ?_
              refine LW.nil fun aa ha => ?_
              have hS := hS.drop 0 rfl
              dsimp only [List.eraseIdx] at hS
              refine ⟨_, _, ?m10, ⟨i + 1, adl2, ll2, cl2, ks2, ad57, c57, (by first | omega | (simp; done) | (simp; omega)), (by first | omega | (simp; done) | (simp; omega)), (by first | omega | (simp; done) | (simp; omega)), rfl, rfl, hS, by rw [linksTo_succ x m _ hi2, ← hz, hlr, ← hks, hks2, show k = B - A by omega]⟩, ha.sub ⟨rfl, rfl, rfl, rfl, rfl, rfl, rfl, rfl, rfl, rfl, trivial⟩⟩
              case m10 => omega
        · have h10_0 := of_decide_eq_false h10_0
          refine LW.nil fun aa ha => hK11 _ _ _ ?_ aa ha
          refine CW.seq fun K28 hK28 => ?_
          refine CW.no rfl ?_
          refine CW.exit fun aa ha => hK9 _ _ _ ?_ aa ha
          refine CW.seq fun K29 hK29 => ?_
          refine CW.region [0, 1, 2, 3, 4] rfl ?_
          refine LW.ex rfl rfl rfl rfl (Ex.load2c ti46 rfl rfl (by first | exact obT rfl | exact Rd.imm ‹_› | exact slT ‹_›) (by first | exact obT rfl | exact Rd.imm ‹_› | exact slT ‹_›)) hS.rd ?_
          refine LW.ex rfl rfl rfl rfl (Ex.move rfl) hS.rd ?_
          refine LW.hu rfl rfl rfl (Hv.storeN (k := 5) ti46 hS rfl rfl rfl rfl (by simp [Value.oneCell'])) fun _ w_2 hS => ?_
          dsimp only [List.set] at hS
          refine LW.ex rfl rfl rfl rfl (Ex.assign rfl) hS.rd ?_
          refine LW.ex rfl rfl rfl rfl (Ex.assign rfl) hS.rd ?_
          refine LW.nil fun aa ha => hK29 _ _ _ ?_ aa ha
          refine CW.ret fun aa ha => ?_
          have hie : i = (nodesL x m.Words.length p).length := by omega
          subst hll
          obtain ⟨bs, μ1, hmm1, hS, hφ⟩ := hS.shut 0 rfl
          dsimp only [List.eraseIdx] at hS
          obtain ⟨bs2, μ2, hmm2, hS, hφ2⟩ := hS.shut 1 rfl
          dsimp only [List.eraseIdx] at hS
          refine ret3 ha Try.results33 ⟨b6, _, _, _, _, rfl, ti46, rfl, (fun j u hu => Rd.objAll (k := 3) rfl hS.rd j u hu), rfl⟩ rfl rfl ?_
          have h1 : Sl μ2 adl cl ks := (Sl.of_own hφ (linkReps _ ks) rfl).mono hmm2
          have hlast : ((nodesL x m.Words.length p).take i).map (·.b) = (nodesL x m.Words.length p).map (·.b) := by rw [hie, List.take_length]
          have h2 : Sl μ2 adt ct ((nodesL x m.Words.length p).map (·.b)) := by
            refine Sl.of_own hφ2 ?_ (by rw [List.length_map, hie])
            have := RepL.ints μ2 ((nodesL x m.Words.length p).map (·.b))
            rw [hie, List.take_length]
            rw [List.map_map] at this
            exact this
          rw [hbR]
          refine ⟨_, μ2, rfl, hS.below, hmm1.trans hmm2, hS.imm, adl, cl, adt, ct, ?_, ?_, h2⟩
          · unfold graphR; simp only; rw [hks, hie, List.length_map]
          · unfold graphR; simp only; rw [← hie, ← hks]; exact h1
    · skip
      refine LW.ex rfl rfl rfl rfl (Ex.not rfl rfl) hS.rd ?_
      refine LW.ex rfl rfl rfl rfl (Ex.assign rfl) hS.rd ?_
      refine LW.nil fun aa ha => hK4 _ _ _ ?_ aa ha
      refine CW.yes rfl ?_
      refine CW.seq fun K30 hK30 => ?_
      refine CW.region [0, 1, 2, 3] rfl ?_
      refine LW.ex rfl rfl rfl rfl (Ex.buildS st46 rfl rfl rfl) hS.rd ?_
      refine LW.hu rfl rfl rfl (Hv.storeN (k := 0) ti46 hS rfl rfl rfl rfl (by simp [Value.oneCell'])) fun _ w_1 hS => ?_
      dsimp only [List.set] at hS
      refine LW.ex rfl rfl rfl rfl (Ex.assign rfl) hS.rd ?_
      refine LW.ex rfl rfl rfl rfl (Ex.assign rfl) hS.rd ?_
      refine LW.nil fun aa ha => hK30 _ _ _ ?_ aa ha
      refine CW.ret fun aa ha => ?_
      refine ret3 ha Try.results33 ⟨b6, _, _, _, _, rfl, ti46, rfl, (fun j u hu => Rd.objAll (k := 0) rfl hS.rd j u hu), rfl⟩ rfl rfl ?_
      have e : buildR x m p = ⟨⟨0, []⟩, [], 1⟩ := by unfold buildR; rw [if_pos h1_1, if_neg (by rw [h3_3]; decide)]
      rw [e]; exact ⟨_, μ, rfl, hS.below, Mem.ext.refl _ _, hS.imm, IsBuilt.zero μ 1⟩
  · skip
    refine LW.ex rfl rfl rfl rfl (Ex.not rfl rfl) hS.rd ?_
    refine LW.ex rfl rfl rfl rfl (Ex.assign rfl) hS.rd ?_
    refine LW.nil fun aa ha => hK3 _ _ _ ?_ aa ha
    refine CW.yes rfl ?_
    refine CW.seq fun K31 hK31 => ?_
    refine CW.region [0, 1, 2, 3] rfl ?_
    refine LW.ex rfl rfl rfl rfl (Ex.buildS st46 rfl rfl rfl) hS.rd ?_
    refine LW.hu rfl rfl rfl (Hv.storeN (k := 0) ti46 hS rfl rfl rfl rfl (by simp [Value.oneCell'])) fun _ w_1 hS => ?_
    dsimp only [List.set] at hS
    refine LW.ex rfl rfl rfl rfl (Ex.assign rfl) hS.rd ?_
    refine LW.ex rfl rfl rfl rfl (Ex.assign rfl) hS.rd ?_
    refine LW.nil fun aa ha => hK31 _ _ _ ?_ aa ha
    refine CW.ret fun aa ha => ?_
    refine ret3 ha Try.results33 ⟨b6, _, _, _, _, rfl, ti46, rfl, (fun j u hu => Rd.objAll (k := 0) rfl hS.rd j u hu), rfl⟩ rfl rfl ?_
    have e : buildR x m p = ⟨⟨0, []⟩, [], 110⟩ := by unfold buildR; rw [if_neg (by rw [h1_1]; decide)]
    rw [e]; exact ⟨_, μ, rfl, hS.below, Mem.ext.refl _ _, hS.imm, IsBuilt.zero μ 110⟩
end Go.Proofs.Ytgnpjhellmfhoaa

/-
  Context: the walks of Words and Cost, in the program and in the reference.
-/
namespace Go.Proofs.Ytgnpjhellmfhoaa
open Go.RowKit Sy


def lkAt (g : Grf) (i : Int) : Link := g.Links[i.toNat]?.getD default
def wordAt (x : Lat) (g : Grf) (i : Int) : Int := (edAt x (lkAt g i).Label.toNat).Word
theorem lkAt_of {g : Grf} {i : Int} (h0 : 0 ≤ i) (h : i < g.Links.length) : lkAt g i = g.Links[i.toNat]'(by omega) := by unfold lkAt; rw [List.getElem?_eq_getElem (by omega)]; rfl
def LinksIn (x : Lat) (g : Grf) (ls : List Int) : Prop := (∀ i ∈ ls, 0 ≤ i ∧ i < g.Links.length) ∧ ∀ k ∈ g.Links, 0 ≤ k.Label ∧ k.Label < x.Edges.length
set_option maxRecDepth 100000 in
theorem cwords_c (x : Lat) (g : Grf) (ls : List Int) (C : Int) (hi : LinksIn x g ls) (hls : ls.length ≤ 1000000) (a3 a4 a5 : Option Addr) (c3 c4 c5 : Nat) (μ : Mem) (w : World) (hμ : Imm μ w) (hxl : Sl μ a3 c3 x.Edges) (hgl : Sl μ a4 c4 g.Links) (hcl : Sl μ a5 c5 ls) :
    Calls Try.prog 19 #[.agg #[.int .i64 x.N, .slice a3 x.Edges.length c3], .agg #[.int .i64 g.N, .slice a4 g.Links.length c4], .agg #[.slice a5 ls.length c5, .int .i64 C]] w (RetV w μ (IsSl (ls.map (wordAt x g)))) := by
  have hS := St.start w μ hμ
  refine calls_start 33 [.agg #[.int .i64 x.N, .slice a3 x.Edges.length c3], .agg #[.int .i64 g.N, .slice a4 g.Links.length c4], .agg #[.slice a5 ls.length c5, .int .i64 C]] Try.func19 rfl Try.ntmps19 rfl rfl ?_
  refine CW.seq fun K1 hK1 => ?_
  refine CW.region [0, 1, 2, 3] rfl ?_
  refine LW.hv rfl rfl rfl rfl (Hv.boxS hS rfl rfl) fun v w3 ⟨b3, hv, hb3, hS⟩ => ?_
  subst hv
  refine LW.hv rfl rfl rfl rfl (Hv.boxS hS rfl rfl) fun v w4 ⟨b4, hv, hb4, hS⟩ => ?_
  subst hv
  refine LW.hv rfl rfl rfl rfl (Hv.boxS hS rfl rfl) fun v w5 ⟨b5, hv, hb5, hS⟩ => ?_
  subst hv
  refine LW.ex rfl rfl rfl rfl (Ex.assign rfl) hS.rd ?_
  refine LW.nil fun aa ha => hK1 _ _ _ ?_ aa ha
  refine CW.seq fun K2 hK2 => ?_
  refine CW.region [0] rfl ?_
  refine LW.ex rfl rfl rfl rfl (Ex.assign rfl) hS.rd ?_
  refine LW.nil fun aa ha => hK2 _ _ _ ?_ aa ha
  refine CW.seq fun K3 hK3 => ?_
  refine CW.seq fun K4 hK4 => ?_
  refine CW.region [0, 1, 2, 3] rfl ?_
  refine LW.ex rfl rfl rfl rfl (Ex.fieldO 0 Try.underlying58 rfl rfl ti31 rfl) hS.rd ?_
  refine LW.ex rfl rfl rfl rfl (Ex.load1 ti31 rfl rfl (by first | exact obT rfl | exact Rd.imm ‹_› | exact slT ‹_›)) hS.rd ?_
  refine LW.ex rfl rfl rfl rfl (Ex.lenSl rfl Try.underlying31 rfl) hS.rd ?_
  refine LW.ex rfl rfl rfl rfl (Ex.move rfl) hS.rd ?_
  refine LW.nil fun aa ha => hK4 _ _ _ ?_ aa ha
  refine CW.block ?_
  have hS := nil_sl 3 1 hS
  refine CW.loop (fun qq frm wl3 => ∃ (i : Nat) (ad : Option Addr) (c : Nat), i ≤ ls.length ∧ qq = ls.length - i ∧ frm = [(3, .pointer (some ⟨b3, 0, none⟩)), (4, .pointer (some ⟨b4, 0, none⟩)), (7, .slice ad i c), (11, .slice a5 ls.length c5), (12, .int .i64 ls.length), (13, .int .i64 i)] ∧ St w wl3 μ [Own.sl ad i c 3 1 (((ls.take i).map (wordAt x g)).map fun z => Value.int .i64 z), Own.obj b5 [.slice a5 ls.length c5, .int .i64 C] 58, Own.obj b4 [.int .i64 g.N, .slice a4 g.Links.length c4] 46, Own.obj b3 [.int .i64 x.N, .slice a3 x.Edges.length c3] 38]) _ ⟨0, none, 0, (by first | omega | (simp; done) | (simp; omega)), rfl, rfl, hS⟩ ⟨rfl, rfl, rfl, rfl, rfl, rfl, trivial⟩ ?_
  clear hS
  rintro qq frm wl3 ⟨i, ad, c, hi3, hq, rfl, hS⟩
  refine CW.seq fun K5 hK5 => ?_
  refine CW.region [0] rfl ?_
  refine LW.ex rfl rfl rfl rfl (Ex.lss rfl rfl rfl) hS.rd ?_
  refine LW.splitB (fun h3_0 => ?_) (fun h3_0 => ?_)
  · have h3_0 := of_decide_eq_true h3_0
    refine LW.nil fun aa ha => hK5 _ _ _ ?_ aa ha
    refine CW.seq fun K6 hK6 => ?_
    refine CW.yes rfl ?_
    refine CW.skip fun aa ha => hK6 _ _ _ ?_ aa ha
    refine CW.seq fun K7 hK7 => ?_
    refine CW.block ?_
    refine CW.seq fun K8 hK8 => ?_
    have hi2 : i < ls.length := by omega
    have hli := hi.1 _ (List.getElem_mem hi2)
    obtain ⟨j, hj⟩ : ∃ j : Nat, ls[i] = j := ⟨ls[i].toNat, by omega⟩
    have hj2 : j < g.Links.length := by omega
    have hlb := hi.2 _ (List.getElem_mem hj2)
    obtain ⟨e, he⟩ : ∃ e : Nat, g.Links[j].Label = e := ⟨g.Links[j].Label.toNat, by omega⟩
    have he2 : e < x.Edges.length := by omega
    have hwa : wordAt x g ls[i] = x.Edges[e].Word := by unfold wordAt; rw [lkAt_of (by omega) (by omega)]; simp only [hj, Int.toNat_natCast, he]; rw [edAt_of he2]
    obtain ⟨bl, ol, rfl, k0⟩ := hcl.at hi2
    rw [hj] at k0
    obtain ⟨bl2, ol2, rfl, q0, q1, q2, q3⟩ := hgl.at hj2
    rw [he] at q2
    obtain ⟨bl3, ol3, rfl, r0, r1, r2, r3⟩ := hxl.at he2
    refine CW.region [0, 1, 2] rfl ?_
    refine LW.ex rfl rfl rfl rfl (Ex.indexSl Try.underlying31 ti3 rfl rfl rfl (by omega)) hS.rd ?_
    refine LW.ex rfl rfl rfl rfl (Ex.load1 ti3 rfl rfl (by first | exact obT rfl | exact Rd.imm ‹_› | exact slT ‹_›)) hS.rd ?_
    refine LW.ex rfl rfl rfl rfl (Ex.assign rfl) hS.rd ?_
    refine LW.nil fun aa ha => hK8 _ _ _ ?_ aa ha
    have hS := hS.drew
    refine CW.draw 13 (.ex 0 <| .ex 1 <| .ex 2 <| .ex 3 <| .ex 4 <| .ex 5 <| .ex 6 <| .ex 7 <| .ex 8 <| .ex 9 <| .ex 10 <| .ex 11 <| .one 12 <| .done) [13, 14] (Rd _ _) mixed (by kernel_rfl) rfl rfl hS.rd ?_
    refine PW.ex rfl rfl rfl rfl (Ex.move rfl) ?_
    refine PW.ex rfl rfl rfl rfl (Ex.fieldO 1 Try.underlying38 rfl rfl ti36 rfl) ?_
    refine PW.ex rfl rfl rfl rfl (Ex.load1 ti36 rfl rfl (by first | exact obT rfl | exact Rd.imm ‹_› | exact slT ‹_›)) ?_
    refine PW.ex rfl rfl rfl rfl (Ex.fieldO 1 Try.underlying46 rfl rfl ti44 rfl) ?_
    refine PW.ex rfl rfl rfl rfl (Ex.load1 ti44 rfl rfl (by first | exact obT rfl | exact Rd.imm ‹_› | exact slT ‹_›)) ?_
    refine PW.ex rfl rfl rfl rfl (Ex.move rfl) ?_
    refine PW.ex rfl rfl rfl rfl (Ex.indexSl Try.underlying44 ti66 rfl rfl rfl (by omega)) ?_
    refine PW.ex rfl rfl rfl rfl (Ex.fieldO 2 Try.underlying66 rfl rfl ti3 rfl) ?_
    refine PW.ex rfl rfl rfl rfl (Ex.load1 ti3 rfl rfl (by first | exact obT rfl | exact Rd.imm ‹_› | exact slT ‹_›)) ?_
    refine PW.ex rfl rfl rfl rfl (Ex.indexSl Try.underlying36 ti43 rfl rfl rfl (by omega)) ?_
    refine PW.ex rfl rfl rfl rfl (Ex.fieldO 2 Try.underlying43 rfl rfl ti3 rfl) ?_
    refine PW.ex rfl rfl rfl rfl (Ex.load1 ti3 rfl rfl (by first | exact obT rfl | exact Rd.imm ‹_› | exact slT ‹_›)) ?_
    refine PW.hv rfl rfl rfl rfl (Hv.buildSl hS Try.underlying31 ti3 rfl rfl rfl rfl rfl rfl) (fun _ _ ⟨_, _, _, h⟩ => h.rd.tail) fun v w29 ⟨b29, hv, hb29, hS⟩ => ?_
    subst hv
    refine PW.nil ?_
    refine LW.hv rfl rfl rfl rfl (Hv.append (k := 1) rfl Try.underlying31 ti3 rfl hS rfl rfl rfl rfl (Rd.objAll (k := 0) rfl hS.rd) (by simp [Value.oneCell']) (by unfold maxLen; omega) (by omega)) fun v w30 ⟨ad30, c30, hv, hS⟩ => ?_
    subst hv
    dsimp only [List.set] at hS
    have hS := hS.drop 0 rfl
    dsimp only [List.eraseIdx] at hS
    rw [show (((ls.take i).map (wordAt x g)).map fun z => Value.int .i64 z) ++ [Value.int .i64 x.Edges[e].Word] = (((ls.take (i + 1)).map (wordAt x g)).map fun z => Value.int .i64 z) by rw [List.take_succ_eq_append_getElem hi2, List.map_append, List.map_append, ← hwa]; rfl] at hS
    refine LW.ex rfl rfl rfl rfl (Ex.assign rfl) hS.rd ?_
    refine LW.nil fun aa ha => hK7 _ _ _ ?_ aa ha
    refine CW.region [0, 1] rfl ?_
    refine LW.ex rfl rfl rfl rfl (Ex.add rfl rfl (by first | exact inc64 (by omega) | exact addN (by omega) | exact w64 (by omega) (by omega))) hS.rd ?_
    refine LW.ex rfl rfl rfl rfl (Ex.move rfl) hS.rd ?_
    refine LW.nil fun aa ha => ?_
    refine ⟨_, _, ?m3, ⟨i + 1, ad30, c30, (by first | omega | (simp; done) | (simp; omega)), rfl, rfl, hS⟩, ha.sub ⟨rfl, rfl, rfl, rfl, rfl, rfl, trivial⟩⟩
    case m3 => omega
  · have h3_0 := of_decide_eq_false h3_0
    refine LW.nil fun aa ha => hK5 _ _ _ ?_ aa ha
    refine CW.seq fun K9 hK9 => ?_
    refine CW.no rfl ?_
    refine CW.exit fun aa ha => hK3 _ _ _ ?_ aa ha
    refine CW.seq fun K10 hK10 => ?_
    refine CW.region [0, 1] rfl ?_
    refine LW.ex rfl rfl rfl rfl (Ex.move rfl) hS.rd ?_
    refine LW.ex rfl rfl rfl rfl (Ex.assign rfl) hS.rd ?_
    refine LW.nil fun aa ha => hK10 _ _ _ ?_ aa ha
    refine CW.ret fun aa ha => ?_
    refine ret_one ha Try.results19 rfl ?_
    have hie : i = ls.length := by omega
    obtain ⟨bs, μ1, hmm1, hS, hφ⟩ := hS.shut 0 rfl
    refine ⟨_, μ1, rfl, hS.below, hmm1, hS.imm, ad, c, ?_, Sl.of_own hφ ?_ (by rw [List.length_map, hie])⟩
    · rw [List.length_map, hie]
    · rw [hie, List.take_length]; exact RepL.ints _ _
/-! ### Costs of ways -/
def costGo (x : Lat) (m : Mdl) : Int → Int → Int → List Int → Int × Bool
  | at_, _, sum, [] => if at_ = x.N then (sum, true) else (0, false)
  | at_, p, sum, i :: r => if 0 ≤ i ∧ i < x.Edges.length ∧ (edAt x i.toNat).From = at_ then costGo x m (edAt x i.toNat).To (edAt x i.toNat).Word (sum + ((edAt x i.toNat).Cost + pairC m p (edAt x i.toNat).Word)) r else (0, false)
noncomputable def costR (x : Lat) (m : Mdl) (p : Int) (es : List Int) : Int × Bool := if okM m = true then if fitsC x m.Words.length p = true then costGo x m 0 p 0 es else (0, false) else (0, false)
set_option maxRecDepth 100000 in
set_option maxHeartbeats 1000000 in
theorem ccost_c (x : Lat) (m : Mdl) (p : Int) (es : List Int) (hws : ∀ s ∈ m.Words, s.size ≤ 9223372036854775807) (hsm : ∀ e ∈ x.Edges, -1099511627776 ≤ e.To ∧ e.To ≤ 1099511627776) (hes : es.length ≤ 1000000)
    (a0 a1 a2 a3 a4 : Option Addr) (c0 c1 c2 c3 c4 : Nat) (μ : Mem) (w : World) (hμ : Imm μ w) (hxl : Sl μ a3 c3 x.Edges) (hm0 : Sl μ a0 c0 m.Words) (hm1 : Sl μ a1 c1 m.Counts) (hm2 : Sl μ a2 c2 m.Pairs) (hel : Sl μ a4 c4 es) :
    Calls Try.prog 15 #[.agg #[.int .i64 x.N, .slice a3 x.Edges.length c3], .agg #[.slice a0 m.Words.length c0, .slice a1 m.Counts.length c1, .slice a2 m.Pairs.length c2, .int .i64 m.Back], .int .i64 p, .slice a4 es.length c4] w (RetS w (.tuple #[.int .i64 (costR x m p es).1, .bool (costR x m p es).2])) := by
  have hxll := hxl.1
  have hxlc := hxl.2.1
  simp only [maxLen] at hxlc
  have hS := St.start w μ hμ
  refine calls_start 75 [.agg #[.int .i64 x.N, .slice a3 x.Edges.length c3], .agg #[.slice a0 m.Words.length c0, .slice a1 m.Counts.length c1, .slice a2 m.Pairs.length c2, .int .i64 m.Back], .int .i64 p, .slice a4 es.length c4] Try.func15 rfl Try.ntmps15 rfl rfl ?_
  refine CW.seq fun K19 hK19 => ?_
  refine CW.region [0, 1, 2, 3] rfl ?_
  refine LW.hv rfl rfl rfl rfl (Hv.boxS hS rfl rfl) fun v w4 ⟨b4, hv, hb4, hS⟩ => ?_
  subst hv
  refine LW.hv rfl rfl rfl rfl (Hv.boxS hS rfl rfl) fun v w5 ⟨b5, hv, hb5, hS⟩ => ?_
  subst hv
  refine LW.ex rfl rfl rfl rfl (Ex.assign rfl) hS.rd ?_
  refine LW.ex rfl rfl rfl rfl (Ex.assign rfl) hS.rd ?_
  refine LW.nil fun aa ha => hK19 _ _ _ ?_ aa ha
  refine CW.seq fun K20 hK20 => ?_
  refine CW.seq fun K21 hK21 => ?_
  refine CW.region [0, 1, 2, 3, 4, 5, 6, 7, 8, 9] rfl ?_
  refine LW.ex rfl rfl rfl rfl (Ex.load4c ti34 rfl rfl (by first | exact obT rfl | exact Rd.imm ‹_› | exact slT ‹_›) (by first | exact obT rfl | exact Rd.imm ‹_› | exact slT ‹_›) (by first | exact obT rfl | exact Rd.imm ‹_› | exact slT ‹_›) (by first | exact obT rfl | exact Rd.imm ‹_› | exact slT ‹_›)) hS.rd ?_
  refine LW.hv rfl rfl rfl rfl (Hv.callS hS rfl rfl rfl cb39 (cvalid_c m hws _ _ _ _ _ _ μ _ hS.imm hm0 hm1 hm2)) fun v w16 ⟨hv, hS⟩ => ?_
  subst hv
  refine LW.splitB (fun h1_1 => ?_) (fun h1_1 => ?_)
  · skip
    refine LW.ex rfl rfl rfl rfl (Ex.not rfl rfl) hS.rd ?_
    refine LW.ex rfl rfl rfl rfl (Ex.move rfl) hS.rd ?_
    refine LW.ex rfl rfl rfl rfl (Ex.load2c ti38 rfl rfl (by first | exact obT rfl | exact Rd.imm ‹_› | exact slT ‹_›) (by first | exact obT rfl | exact Rd.imm ‹_› | exact slT ‹_›)) hS.rd ?_
    refine LW.ex rfl rfl rfl rfl (Ex.load4c ti34 rfl rfl (by first | exact obT rfl | exact Rd.imm ‹_› | exact slT ‹_›) (by first | exact obT rfl | exact Rd.imm ‹_› | exact slT ‹_›) (by first | exact obT rfl | exact Rd.imm ‹_› | exact slT ‹_›) (by first | exact obT rfl | exact Rd.imm ‹_› | exact slT ‹_›)) hS.rd ?_
    refine LW.ex rfl rfl rfl rfl (Ex.move rfl) hS.rd ?_
    refine LW.hv rfl rfl rfl rfl (Hv.callS hS rfl rfl rfl cb40 (cfits_c x m p hsm _ _ _ _ _ _ _ _ μ _ hS.imm hxl hm0 hm1 hm2)) fun v w22 ⟨hv, hS⟩ => ?_
    subst hv
    refine LW.splitB (fun h1_7 => ?_) (fun h1_7 => ?_)
    · skip
      refine LW.ex rfl rfl rfl rfl (Ex.not rfl rfl) hS.rd ?_
      refine LW.ex rfl rfl rfl rfl (by first | exact Ex.pick_yes rfl rfl | exact Ex.pick_no rfl rfl) hS.rd ?_
      refine LW.nil fun aa ha => hK21 _ _ _ ?_ aa ha
      refine CW.no rfl ?_
      refine CW.skip fun aa ha => hK20 _ _ _ ?_ aa ha
      refine CW.seq fun K22 hK22 => ?_
      have hM := okM_iff.1 h1_1
      have hR : costR x m p es = costGo x m 0 p 0 es := by unfold costR; rw [if_pos h1_1, if_pos h1_7]
      have hfit := h1_7
      unfold fitsC at hfit
      rw [Bool.and_eq_true, Bool.and_eq_true, decide_eq_true_eq] at hfit
      obtain ⟨⟨hx, hp⟩, hw⟩ := hfit
      obtain ⟨⟨hN0, hN1, _⟩, hed, _⟩ := okX_edges hx
      unfold wordsIn at hw
      rw [List.all_eq_true] at hw
      refine CW.region [0, 1] rfl ?_
      refine LW.ex rfl rfl rfl rfl (Ex.assign rfl) hS.rd ?_
      refine LW.ex rfl rfl rfl rfl (Ex.assign rfl) hS.rd ?_
      refine LW.nil fun aa ha => hK22 _ _ _ ?_ aa ha
      refine CW.seq fun K23 hK23 => ?_
      refine CW.seq fun K24 hK24 => ?_
      refine CW.region [0, 1, 2] rfl ?_
      refine LW.ex rfl rfl rfl rfl (Ex.move rfl) hS.rd ?_
      refine LW.ex rfl rfl rfl rfl (Ex.lenSl rfl Try.underlying31 rfl) hS.rd ?_
      refine LW.ex rfl rfl rfl rfl (Ex.move rfl) hS.rd ?_
      refine LW.nil fun aa ha => hK24 _ _ _ ?_ aa ha
      refine CW.block ?_
      refine CW.loop (fun qq frm wl5 => ∃ (i : Nat) (at_ : Int) (q : Int) (s : Int), i ≤ es.length ∧ q < m.Words.length ∧ 0 ≤ s ∧ s ≤ i * 2000000 ∧ qq = es.length - i ∧ frm = [(2, .int .i64 q), (4, .pointer (some ⟨b4, 0, none⟩)), (5, .pointer (some ⟨b5, 0, none⟩)), (10, .int .i64 at_), (11, .int .i64 s), (25, .slice a4 es.length c4), (26, .int .i64 ((es.length : Nat) : Int)), (27, .int .i64 i)] ∧ St w wl5 μ [Own.obj b5 [.slice a0 m.Words.length c0, .slice a1 m.Counts.length c1, .slice a2 m.Pairs.length c2, .int .i64 m.Back] 34, Own.obj b4 [.int .i64 x.N, .slice a3 x.Edges.length c3] 38] ∧ (costGo x m 0 p 0 es = costGo x m at_ q s (es.drop i))) _ ⟨0, 0, p, 0, (by first | omega | (simp; done) | (simp; omega)), (by first | omega | (simp; done) | (simp; omega)), (by first | omega | (simp; done) | (simp; omega)), (by first | omega | (simp; done) | (simp; omega)), rfl, rfl, hS, rfl⟩ ⟨rfl, rfl, rfl, rfl, rfl, rfl, rfl, rfl, trivial⟩ ?_
      clear hS
      rintro qq frm wl5 ⟨i, at_, q, s, hi, hqn, hs0, hs1, hq, rfl, hS, he⟩
      refine CW.seq fun K25 hK25 => ?_
      refine CW.region [0] rfl ?_
      refine LW.ex rfl rfl rfl rfl (Ex.lss rfl rfl rfl) hS.rd ?_
      refine LW.splitB (fun h5_0 => ?_) (fun h5_0 => ?_)
      · have h5_0 := of_decide_eq_true h5_0
        refine LW.nil fun aa ha => hK25 _ _ _ ?_ aa ha
        refine CW.seq fun K26 hK26 => ?_
        refine CW.yes rfl ?_
        refine CW.skip fun aa ha => hK26 _ _ _ ?_ aa ha
        refine CW.seq fun K27 hK27 => ?_
        refine CW.block ?_
        refine CW.seq fun K28 hK28 => ?_
        have hi2 : i < es.length := by omega
        rw [drop_cons hi2, costGo] at he
        obtain ⟨be, oe, rfl, ke⟩ := hel.at hi2
        refine CW.region [0, 1, 2] rfl ?_
        refine LW.ex rfl rfl rfl rfl (Ex.indexSl Try.underlying31 ti3 rfl rfl rfl (by omega)) hS.rd ?_
        refine LW.ex rfl rfl rfl rfl (Ex.load1 ti3 rfl rfl (by first | exact obT rfl | exact Rd.imm ‹_› | exact slT ‹_›)) hS.rd ?_
        refine LW.ex rfl rfl rfl rfl (Ex.assign rfl) hS.rd ?_
        refine LW.nil fun aa ha => hK28 _ _ _ ?_ aa ha
        refine CW.seq fun K29 hK29 => ?_
        refine CW.seq fun K30 hK30 => ?_
        refine CW.region [0, 1, 2, 3, 4, 5, 6, 7, 8, 9, 10, 11, 12, 13, 14, 15, 16, 17, 18] rfl ?_
        refine LW.ex rfl rfl rfl rfl (Ex.move rfl) hS.rd ?_
        refine LW.ex rfl rfl rfl rfl (Ex.lss rfl rfl rfl) hS.rd ?_
        refine LW.splitB (fun h7_1 => ?_) (fun h7_1 => ?_)
        · have h7_1 := of_decide_eq_true h7_1
          refine LW.ex rfl rfl rfl rfl (Ex.move rfl) hS.rd ?_
          refine LW.skip rfl rfl rfl rfl ?_
          refine LW.skip rfl rfl rfl rfl ?_
          refine LW.skip rfl rfl rfl rfl ?_
          refine LW.skip rfl rfl rfl rfl ?_
          refine LW.skip rfl rfl rfl rfl ?_
          refine LW.ex rfl rfl rfl rfl (by first | exact Ex.pick_yes rfl rfl | exact Ex.pick_no rfl rfl) hS.rd ?_
          refine LW.ex rfl rfl rfl rfl (Ex.move rfl) hS.rd ?_
          refine LW.skip rfl rfl rfl rfl ?_
          refine LW.skip rfl rfl rfl rfl ?_
          refine LW.skip rfl rfl rfl rfl ?_
          refine LW.skip rfl rfl rfl rfl ?_
          refine LW.skip rfl rfl rfl rfl ?_
          refine LW.skip rfl rfl rfl rfl ?_
          refine LW.skip rfl rfl rfl rfl ?_
          refine LW.skip rfl rfl rfl rfl ?_
          refine LW.ex rfl rfl rfl rfl (by first | exact Ex.pick_yes rfl rfl | exact Ex.pick_no rfl rfl) hS.rd ?_
          refine LW.nil fun aa ha => hK30 _ _ _ ?_ aa ha
          refine CW.yes rfl ?_
          refine CW.seq fun K31 hK31 => ?_
          refine CW.region [0, 1] rfl ?_
          refine LW.ex rfl rfl rfl rfl (Ex.assign rfl) hS.rd ?_
          refine LW.ex rfl rfl rfl rfl (Ex.assign rfl) hS.rd ?_
          refine LW.nil fun aa ha => hK31 _ _ _ ?_ aa ha
          refine CW.ret fun aa ha => ?_
          refine ret_two ha Try.results15 rfl rfl ?_
          rw [hR, he, if_neg (by omega)]; exact hS.retS
        · have h7_1 := of_decide_eq_false h7_1
          refine LW.ex rfl rfl rfl rfl (Ex.move rfl) hS.rd ?_
          refine LW.ex rfl rfl rfl rfl (Ex.move rfl) hS.rd ?_
          refine LW.ex rfl rfl rfl rfl (Ex.fieldO 1 Try.underlying38 rfl rfl ti36 rfl) hS.rd ?_
          refine LW.ex rfl rfl rfl rfl (Ex.load1 ti36 rfl rfl (by first | exact obT rfl | exact Rd.imm ‹_› | exact slT ‹_›)) hS.rd ?_
          refine LW.ex rfl rfl rfl rfl (Ex.lenSl rfl Try.underlying36 rfl) hS.rd ?_
          refine LW.ex rfl rfl rfl rfl (Ex.geq rfl rfl rfl) hS.rd ?_
          refine LW.splitB (fun h7_7 => ?_) (fun h7_7 => ?_)
          · have h7_7 := of_decide_eq_true h7_7
            refine LW.ex rfl rfl rfl rfl (by first | exact Ex.pick_yes rfl rfl | exact Ex.pick_no rfl rfl) hS.rd ?_
            refine LW.ex rfl rfl rfl rfl (Ex.move rfl) hS.rd ?_
            refine LW.skip rfl rfl rfl rfl ?_
            refine LW.skip rfl rfl rfl rfl ?_
            refine LW.skip rfl rfl rfl rfl ?_
            refine LW.skip rfl rfl rfl rfl ?_
            refine LW.skip rfl rfl rfl rfl ?_
            refine LW.skip rfl rfl rfl rfl ?_
            refine LW.skip rfl rfl rfl rfl ?_
            refine LW.skip rfl rfl rfl rfl ?_
            refine LW.ex rfl rfl rfl rfl (by first | exact Ex.pick_yes rfl rfl | exact Ex.pick_no rfl rfl) hS.rd ?_
            refine LW.nil fun aa ha => hK30 _ _ _ ?_ aa ha
            refine CW.yes rfl ?_
            refine CW.seq fun K32 hK32 => ?_
            refine CW.region [0, 1] rfl ?_
            refine LW.ex rfl rfl rfl rfl (Ex.assign rfl) hS.rd ?_
            refine LW.ex rfl rfl rfl rfl (Ex.assign rfl) hS.rd ?_
            refine LW.nil fun aa ha => hK32 _ _ _ ?_ aa ha
            refine CW.ret fun aa ha => ?_
            refine ret_two ha Try.results15 rfl rfl ?_
            rw [hR, he, if_neg (by omega)]; exact hS.retS
          · have h7_7 := of_decide_eq_false h7_7
            obtain ⟨j, hj0⟩ : ∃ j : Nat, es[i] = j := ⟨es[i].toNat, by omega⟩
            have hj : j < x.Edges.length := by omega
            obtain ⟨bl, ol, rfl, k0, k1, k2, k3⟩ := hxl.at hj
            rw [hj0] at he ⊢
            refine LW.ex rfl rfl rfl rfl (by first | exact Ex.pick_yes rfl rfl | exact Ex.pick_no rfl rfl) hS.rd ?_
            refine LW.ex rfl rfl rfl rfl (Ex.move rfl) hS.rd ?_
            refine LW.ex rfl rfl rfl rfl (Ex.fieldO 1 Try.underlying38 rfl rfl ti36 rfl) hS.rd ?_
            refine LW.ex rfl rfl rfl rfl (Ex.load1 ti36 rfl rfl (by first | exact obT rfl | exact Rd.imm ‹_› | exact slT ‹_›)) hS.rd ?_
            refine LW.ex rfl rfl rfl rfl (Ex.move rfl) hS.rd ?_
            refine LW.ex rfl rfl rfl rfl (Ex.indexSl Try.underlying36 ti43 rfl rfl rfl (by omega)) hS.rd ?_
            refine LW.ex rfl rfl rfl rfl (Ex.fieldO 0 Try.underlying43 rfl rfl ti3 rfl) hS.rd ?_
            refine LW.ex rfl rfl rfl rfl (Ex.load1 ti3 rfl rfl (by first | exact obT rfl | exact Rd.imm ‹_› | exact slT ‹_›)) hS.rd ?_
            refine LW.ex rfl rfl rfl rfl (Ex.move rfl) hS.rd ?_
            refine LW.ex rfl rfl rfl rfl (Ex.neq rfl rfl rfl) hS.rd ?_
            refine LW.splitB (fun h7_17 => ?_) (fun h7_17 => ?_)
            · have h7_17 := of_decide_eq_true h7_17
              refine LW.ex rfl rfl rfl rfl (by first | exact Ex.pick_yes rfl rfl | exact Ex.pick_no rfl rfl) hS.rd ?_
              refine LW.nil fun aa ha => hK30 _ _ _ ?_ aa ha
              refine CW.yes rfl ?_
              refine CW.seq fun K33 hK33 => ?_
              refine CW.region [0, 1] rfl ?_
              refine LW.ex rfl rfl rfl rfl (Ex.assign rfl) hS.rd ?_
              refine LW.ex rfl rfl rfl rfl (Ex.assign rfl) hS.rd ?_
              refine LW.nil fun aa ha => hK33 _ _ _ ?_ aa ha
              refine CW.ret fun aa ha => ?_
              refine ret_two ha Try.results15 rfl rfl ?_
              rw [hR, he, if_neg (by rw [Int.toNat_natCast, edAt_of hj]; omega)]; exact hS.retS
            · have h7_17 := of_decide_eq_false h7_17
              refine LW.ex rfl rfl rfl rfl (by first | exact Ex.pick_yes rfl rfl | exact Ex.pick_no rfl rfl) hS.rd ?_
              refine LW.nil fun aa ha => hK30 _ _ _ ?_ aa ha
              refine CW.no rfl ?_
              refine CW.skip fun aa ha => hK29 _ _ _ ?_ aa ha
              refine CW.seq fun K34 hK34 => ?_
              have hedj := hed _ (List.getElem_mem hj)
              have hwj := of_decide_eq_true (hw _ (List.getElem_mem hj))
              have hpc := hM.pairC0 q x.Edges[j].Word
              rw [if_pos (by rw [Int.toNat_natCast, edAt_of hj]; omega), Int.toNat_natCast, edAt_of hj] at he
              refine CW.region [0, 1, 2, 3, 4, 5, 6] rfl ?_
              refine LW.ex rfl rfl rfl rfl (Ex.fieldO 1 Try.underlying38 rfl rfl ti36 rfl) hS.rd ?_
              refine LW.ex rfl rfl rfl rfl (Ex.load1 ti36 rfl rfl (by first | exact obT rfl | exact Rd.imm ‹_› | exact slT ‹_›)) hS.rd ?_
              refine LW.ex rfl rfl rfl rfl (Ex.move rfl) hS.rd ?_
              refine LW.ex rfl rfl rfl rfl (Ex.indexSl Try.underlying36 ti43 rfl rfl rfl (by omega)) hS.rd ?_
              refine LW.ex rfl rfl rfl rfl (Ex.load4c ti43 rfl rfl (by first | exact obT rfl | exact Rd.imm ‹_› | exact slT ‹_›) (by first | exact obT rfl | exact Rd.imm ‹_› | exact slT ‹_›) (by first | exact obT rfl | exact Rd.imm ‹_› | exact slT ‹_›) (by first | exact obT rfl | exact Rd.imm ‹_› | exact slT ‹_›)) hS.rd ?_
              refine LW.hv rfl rfl rfl rfl (Hv.alloc ti43 hS) fun v w14 ⟨b14, hv, hb14, hS⟩ => ?_
              subst hv
              refine LW.hu rfl rfl rfl (Hv.storeN (k := 0) ti43 hS rfl rfl rfl rfl (by simp [Value.oneCell'])) fun _ w_6 hS => ?_
              dsimp only [List.set] at hS
              refine LW.nil fun aa ha => hK34 _ _ _ ?_ aa ha
              refine CW.seq fun K35 hK35 => ?_
              have hS := hS.drew
              refine CW.draw 11 (.ex 0 <| .ex 1 <| .ex 2 <| .ex 3 <| .ex 4 <| .ex 5 <| .ex 6 <| .one 7 <| .ex 8 <| .ex 9 <| .ex 10 <| .done) [] (Rd _ _) mixed (by kernel_rfl) rfl rfl hS.rd ?_
              refine PW.ex rfl rfl rfl rfl (Ex.move rfl) ?_
              refine PW.ex rfl rfl rfl rfl (Ex.fieldO 3 Try.underlying43 rfl rfl ti3 rfl) ?_
              refine PW.ex rfl rfl rfl rfl (Ex.load1 ti3 rfl rfl (by first | exact obT rfl | exact Rd.imm ‹_› | exact slT ‹_›)) ?_
              refine PW.ex rfl rfl rfl rfl (Ex.load4c ti34 rfl rfl (by first | exact obT rfl | exact Rd.imm ‹_› | exact slT ‹_›) (by first | exact obT rfl | exact Rd.imm ‹_› | exact slT ‹_›) (by first | exact obT rfl | exact Rd.imm ‹_› | exact slT ‹_›) (by first | exact obT rfl | exact Rd.imm ‹_› | exact slT ‹_›)) ?_
              refine PW.ex rfl rfl rfl rfl (Ex.move rfl) ?_
              refine PW.ex rfl rfl rfl rfl (Ex.fieldO 2 Try.underlying43 rfl rfl ti3 rfl) ?_
              refine PW.ex rfl rfl rfl rfl (Ex.load1 ti3 rfl rfl (by first | exact obT rfl | exact Rd.imm ‹_› | exact slT ‹_›)) ?_
              refine PW.hv rfl rfl rfl rfl (Hv.callS hS rfl rfl rfl cb41 (cpair_c m hM q x.Edges[j].Word hqn (by omega) hwj _ _ _ _ _ _ μ _ hS.imm hm0 hm1 hm2)) (fun _ _ h => h.2.rd) fun v w62 ⟨hv, hS⟩ => ?_
              subst hv
              refine PW.ex rfl rfl rfl rfl (Ex.add rfl rfl (w64 (by omega) (by omega))) ?_
              refine PW.ex rfl rfl rfl rfl (Ex.add rfl rfl (w64 (by omega) (by omega))) ?_
              refine PW.ex rfl rfl rfl rfl (Ex.assign rfl) ?_
              refine PW.nil ?_
              refine LW.nil fun aa ha => hK35 _ _ _ ?_ aa ha
              have hS := hS.drew
              refine CW.draw 6 (.ex 0 <| .ex 1 <| .ex 2 <| .ex 3 <| .ex 4 <| .ex 5 <| .done) [] (Rd _ _) mixed (by kernel_rfl) rfl rfl hS.rd ?_
              refine PW.ex rfl rfl rfl rfl (Ex.fieldO 1 Try.underlying43 rfl rfl ti3 rfl) ?_
              refine PW.ex rfl rfl rfl rfl (Ex.load1 ti3 rfl rfl (by first | exact obT rfl | exact Rd.imm ‹_› | exact slT ‹_›)) ?_
              refine PW.ex rfl rfl rfl rfl (Ex.fieldO 2 Try.underlying43 rfl rfl ti3 rfl) ?_
              refine PW.ex rfl rfl rfl rfl (Ex.load1 ti3 rfl rfl (by first | exact obT rfl | exact Rd.imm ‹_› | exact slT ‹_›)) ?_
              refine PW.ex rfl rfl rfl rfl (Ex.assign rfl) ?_
              refine PW.ex rfl rfl rfl rfl (Ex.assign rfl) ?_
              refine PW.nil ?_
              refine LW.nil fun aa ha => hK27 _ _ _ ?_ aa ha
              refine CW.region [0, 1] rfl ?_
              refine LW.ex rfl rfl rfl rfl (Ex.add rfl rfl (by first | exact inc64 (by omega) | exact addN (by omega) | exact w64 (by omega) (by omega))) hS.rd ?_
              refine LW.ex rfl rfl rfl rfl (Ex.move rfl) hS.rd ?_
              refine LW.nil fun aa ha => ?_
              have hS := hS.drop 0 rfl
              dsimp only [List.eraseIdx] at hS
              refine ⟨_, _, ?m5, ⟨i + 1, x.Edges[j].To, x.Edges[j].Word, s + (x.Edges[j].Cost + pairC m q x.Edges[j].Word), (by first | omega | (simp; done) | (simp; omega)), (by first | omega | (simp; done) | (simp; omega)), (by first | omega | (simp; done) | (simp; omega)), (by first | omega | (simp; done) | (simp; omega)), rfl, rfl, hS, he⟩, ha.sub ⟨rfl, rfl, rfl, rfl, rfl, rfl, rfl, rfl, trivial⟩⟩
              case m5 => omega
      · have h5_0 := of_decide_eq_false h5_0
        refine LW.nil fun aa ha => hK25 _ _ _ ?_ aa ha
        refine CW.seq fun K36 hK36 => ?_
        refine CW.no rfl ?_
        refine CW.exit fun aa ha => hK23 _ _ _ ?_ aa ha
        refine CW.seq fun K37 hK37 => ?_
        refine CW.seq fun K38 hK38 => ?_
        refine CW.region [0, 1, 2, 3] rfl ?_
        refine LW.ex rfl rfl rfl rfl (Ex.move rfl) hS.rd ?_
        refine LW.ex rfl rfl rfl rfl (Ex.fieldO 0 Try.underlying38 rfl rfl ti3 rfl) hS.rd ?_
        refine LW.ex rfl rfl rfl rfl (Ex.load1 ti3 rfl rfl (by first | exact obT rfl | exact Rd.imm ‹_› | exact slT ‹_›)) hS.rd ?_
        refine LW.ex rfl rfl rfl rfl (Ex.neq rfl rfl rfl) hS.rd ?_
        refine LW.splitB (fun h13_3 => ?_) (fun h13_3 => ?_)
        · have h13_3 := of_decide_eq_true h13_3
          refine LW.nil fun aa ha => hK38 _ _ _ ?_ aa ha
          refine CW.yes rfl ?_
          refine CW.seq fun K39 hK39 => ?_
          refine CW.region [0, 1] rfl ?_
          refine LW.ex rfl rfl rfl rfl (Ex.assign rfl) hS.rd ?_
          refine LW.ex rfl rfl rfl rfl (Ex.assign rfl) hS.rd ?_
          refine LW.nil fun aa ha => hK39 _ _ _ ?_ aa ha
          refine CW.ret fun aa ha => ?_
          refine ret_two ha Try.results15 rfl rfl ?_
          rw [hR, he, List.drop_of_length_le (by omega), costGo, if_neg (by omega)]; exact hS.retS
        · have h13_3 := of_decide_eq_false h13_3
          refine LW.nil fun aa ha => hK38 _ _ _ ?_ aa ha
          refine CW.no rfl ?_
          refine CW.skip fun aa ha => hK37 _ _ _ ?_ aa ha
          refine CW.seq fun K40 hK40 => ?_
          refine CW.region [0, 1, 2] rfl ?_
          refine LW.ex rfl rfl rfl rfl (Ex.move rfl) hS.rd ?_
          refine LW.ex rfl rfl rfl rfl (Ex.assign rfl) hS.rd ?_
          refine LW.ex rfl rfl rfl rfl (Ex.assign rfl) hS.rd ?_
          refine LW.nil fun aa ha => hK40 _ _ _ ?_ aa ha
          refine CW.ret fun aa ha => ?_
          refine ret_two ha Try.results15 rfl rfl ?_
          rw [hR, he, List.drop_of_length_le (by omega), costGo, if_pos (by omega)]; exact hS.retS
    · skip
      refine LW.ex rfl rfl rfl rfl (Ex.not rfl rfl) hS.rd ?_
      refine LW.ex rfl rfl rfl rfl (by first | exact Ex.pick_yes rfl rfl | exact Ex.pick_no rfl rfl) hS.rd ?_
      refine LW.nil fun aa ha => hK21 _ _ _ ?_ aa ha
      refine CW.yes rfl ?_
      refine CW.seq fun K41 hK41 => ?_
      refine CW.region [0, 1] rfl ?_
      refine LW.ex rfl rfl rfl rfl (Ex.assign rfl) hS.rd ?_
      refine LW.ex rfl rfl rfl rfl (Ex.assign rfl) hS.rd ?_
      refine LW.nil fun aa ha => hK41 _ _ _ ?_ aa ha
      refine CW.ret fun aa ha => ?_
      refine ret_two ha Try.results15 rfl rfl ?_
      have e : costR x m p es = (0, false) := by unfold costR; rw [if_pos h1_1, if_neg (by rw [h1_7]; decide)]
      rw [e]; exact hS.retS
  · skip
    refine LW.ex rfl rfl rfl rfl (Ex.not rfl rfl) hS.rd ?_
    refine LW.ex rfl rfl rfl rfl (Ex.move rfl) hS.rd ?_
    refine LW.skip rfl rfl rfl rfl ?_
    refine LW.skip rfl rfl rfl rfl ?_
    refine LW.skip rfl rfl rfl rfl ?_
    refine LW.skip rfl rfl rfl rfl ?_
    refine LW.skip rfl rfl rfl rfl ?_
    refine LW.ex rfl rfl rfl rfl (by first | exact Ex.pick_yes rfl rfl | exact Ex.pick_no rfl rfl) hS.rd ?_
    refine LW.nil fun aa ha => hK21 _ _ _ ?_ aa ha
    refine CW.yes rfl ?_
    refine CW.seq fun K42 hK42 => ?_
    refine CW.region [0, 1] rfl ?_
    refine LW.ex rfl rfl rfl rfl (Ex.assign rfl) hS.rd ?_
    refine LW.ex rfl rfl rfl rfl (Ex.assign rfl) hS.rd ?_
    refine LW.nil fun aa ha => hK42 _ _ _ ?_ aa ha
    refine CW.ret fun aa ha => ?_
    refine ret_two ha Try.results15 rfl rfl ?_
    have e : costR x m p es = (0, false) := by unfold costR; rw [if_neg (by rw [h1_1]; decide)]
    rw [e]; exact hS.retS
theorem fitsC_iff {x : Lat} {n : Nat} {p : Int} : fitsC x n p = true ↔ okX x = true ∧ (-1 ≤ p ∧ p < n) ∧ wordsIn x n = true := by unfold fitsC; rw [Bool.and_eq_true, Bool.and_eq_true, decide_eq_true_eq, and_assoc]
end Go.Proofs.Ytgnpjhellmfhoaa

/-
  Context: the walks of the reference's nodes and of its Build.
-/
namespace Go.Proofs.Ytgnpjhellmfhoaa
open Go.RowKit Sy


theorem nodesL_last {x : Lat} {n : Nat} {p : Int} (hx : okX x = true) (hn : n ≤ 200) (hp : -1 ≤ p ∧ p < n) (h0 : 0 < x.N) {i : Nat} (hi : i < (nodesL x n p).length) : (nodesL x n p)[i].a = x.N ↔ i = (nodesL x n p).length - 1 := by
  have hst := nodesL_strict hx n p
  have hsm := nodesL_small hp hn hx
  have hl : (nodesL x n p).length = (midR x n).length + 2 := by unfold nodesL; rw [if_pos h0]; simp
  have hlast : (nodesL x n p)[(nodesL x n p).length - 1]'(by omega) = ⟨x.N, -1⟩ := by
    have e : nodesL x n p = (⟨0, p⟩ :: midR x n) ++ [⟨x.N, -1⟩] := by unfold nodesL; rw [if_pos h0]; rfl
    have e2 : (nodesL x n p).getLast? = some ⟨x.N, -1⟩ := by rw [e, List.getLast?_append]; rfl
    rw [List.getLast?_eq_getElem?, List.getElem?_eq_getElem (by omega)] at e2
    exact Option.some.inj e2
  constructor
  · intro h
    rcases Nat.lt_or_ge i ((nodesL x n p).length - 1) with h1 | h1
    · have h2 := List.pairwise_iff_getElem.1 hst i ((nodesL x n p).length - 1) hi (by omega) h1
      rw [hlast] at h2
      unfold ndLt at h2
      have h3 := hsm _ (List.getElem_mem hi)
      simp only at h2
      omega
    · omega
  · intro h; subst h; rw [hlast]
def IsBuiltA (b : Built) (μ : Mem) (v : Value) : Prop := ∃ adl cl adt ct, v = .agg #[.int .i64 b.G.N, .slice adl b.G.Links.length cl, .slice adt b.Last.length ct, .int .i64 b.E] ∧ Sl μ adl cl b.G.Links ∧ Sl μ adt ct b.Last
theorem IsBuiltA.zero (μ : Mem) (e : Int) : IsBuiltA ⟨⟨0, []⟩, [], e⟩ μ (.agg #[.int .i64 0, .slice none 0 0, .slice none 0 0, .int .i64 e]) := ⟨none, 0, none, 0, rfl, Sl.nil _ _ _ (by simp [maxLen]), Sl.nil _ _ _ (by simp [maxLen])⟩
end Go.Proofs.Ytgnpjhellmfhoaa

/-
  Context: package best: valid graphs, labels.
-/
namespace Go.Proofs.Ytgnpjhellmfhoaa
open Go.RowKit Sy
/-- A graph that package best takes. -/
structure GOk (g : Grf) : Prop where
  n1 : 1 ≤ g.N
  n2 : g.N ≤ 2000
  nl : g.Links.length ≤ 20000
  lk : ∀ k ∈ g.Links, 0 ≤ k.From ∧ k.From < k.To ∧ k.To < g.N ∧ 0 ≤ k.Label ∧ k.Label ≤ 1000000 ∧ 0 ≤ k.Cost ∧ k.Cost ≤ 1000000
set_option maxRecDepth 100000 in
theorem bvalid_c (g : Grf) (hg : GOk g) (a4 : Option Addr) (c4 : Nat) (μ : Mem) (w : World) (hμ : Imm μ w) (hgl : Sl μ a4 c4 g.Links) :
    Calls Try.prog 46 #[.agg #[.int .i64 g.N, .slice a4 g.Links.length c4]] w (RetS w (.bool true)) := by
  obtain ⟨n1, n2, nl, hlk⟩ := hg
  have hS := St.start w μ hμ
  refine calls_start 64 [.agg #[.int .i64 g.N, .slice a4 g.Links.length c4]] Try.func46 rfl Try.ntmps46 rfl rfl ?_
  refine CW.seq fun K1 hK1 => ?_
  refine CW.region [0, 1] rfl ?_
  refine LW.hv rfl rfl rfl rfl (Hv.boxS hS rfl rfl) fun v w1 ⟨b1, hv, hb1, hS⟩ => ?_
  subst hv
  refine LW.ex rfl rfl rfl rfl (Ex.assign rfl) hS.rd ?_
  refine LW.nil fun aa ha => hK1 _ _ _ ?_ aa ha
  refine CW.seq fun K2 hK2 => ?_
  refine CW.seq fun K3 hK3 => ?_
  refine CW.region [0, 1, 2, 3] rfl ?_
  refine LW.ex rfl rfl rfl rfl (Ex.fieldO 1 Try.underlying46 rfl rfl ti44 rfl) hS.rd ?_
  refine LW.ex rfl rfl rfl rfl (Ex.load1 ti44 rfl rfl (by first | exact obT rfl | exact Rd.imm ‹_› | exact slT ‹_›)) hS.rd ?_
  refine LW.ex rfl rfl rfl rfl (Ex.lenSl rfl Try.underlying44 rfl) hS.rd ?_
  refine LW.ex rfl rfl rfl rfl (Ex.move rfl) hS.rd ?_
  refine LW.nil fun aa ha => hK3 _ _ _ ?_ aa ha
  refine CW.block ?_
  refine CW.loop (fun qq frm wl2 => ∃ (i : Nat), i ≤ g.Links.length ∧ qq = g.Links.length - i ∧ frm = [(1, .pointer (some ⟨b1, 0, none⟩)), (6, .slice a4 g.Links.length c4), (7, .int .i64 g.Links.length), (8, .int .i64 i)] ∧ St w wl2 μ [Own.obj b1 [.int .i64 g.N, .slice a4 g.Links.length c4] 46]) _ ⟨0, (by first | omega | (simp; done) | (simp; omega)), rfl, rfl, hS⟩ ⟨rfl, rfl, rfl, rfl, trivial⟩ ?_
  clear hS
  rintro qq frm wl2 ⟨i, hi, hq, rfl, hS⟩
  refine CW.seq fun K4 hK4 => ?_
  refine CW.region [0] rfl ?_
  refine LW.ex rfl rfl rfl rfl (Ex.lss rfl rfl rfl) hS.rd ?_
  refine LW.splitB (fun h2_0 => ?_) (fun h2_0 => ?_)
  · have h2_0 := of_decide_eq_true h2_0
    refine LW.nil fun aa ha => hK4 _ _ _ ?_ aa ha
    refine CW.seq fun K5 hK5 => ?_
    refine CW.yes rfl ?_
    refine CW.skip fun aa ha => hK5 _ _ _ ?_ aa ha
    refine CW.seq fun K6 hK6 => ?_
    refine CW.block ?_
    refine CW.seq fun K7 hK7 => ?_
    have hSl := hS
    have hi2 : i < g.Links.length := by omega
    obtain ⟨bl, ol, rfl, k0, k1, k2, k3⟩ := hgl.at hi2
    have hS := hSl
    have hk := hlk _ (List.getElem_mem hi2)
    obtain ⟨z, hz⟩ : ∃ z, z = g.Links[i] := ⟨_, rfl⟩
    rw [← hz] at k0 k1 k2 k3 hk
    refine CW.region [0, 1, 2, 3] rfl ?_
    refine LW.ex rfl rfl rfl rfl (Ex.indexSl Try.underlying44 ti66 rfl rfl rfl (by omega)) hS.rd ?_
    refine LW.ex rfl rfl rfl rfl (Ex.load4c ti66 rfl rfl (by first | exact obT rfl | exact Rd.imm ‹_› | exact slT ‹_›) (by first | exact obT rfl | exact Rd.imm ‹_› | exact slT ‹_›) (by first | exact obT rfl | exact Rd.imm ‹_› | exact slT ‹_›) (by first | exact obT rfl | exact Rd.imm ‹_› | exact slT ‹_›)) hS.rd ?_
    refine LW.hv rfl rfl rfl rfl (Hv.alloc ti66 hS) fun v w4 ⟨b4, hv, hb4, hS⟩ => ?_
    subst hv
    refine LW.hu rfl rfl rfl (Hv.storeN (k := 0) ti66 hS rfl rfl rfl rfl (by simp [Value.oneCell'])) fun _ w_3 hS => ?_
    dsimp only [List.set] at hS
    refine LW.nil fun aa ha => hK7 _ _ _ ?_ aa ha
    refine CW.seq fun K8 hK8 => ?_
    refine CW.region [0, 1, 2, 3, 4, 5, 6, 7, 8, 9, 10, 11, 12, 13, 14, 15, 16, 17, 18, 19, 20, 21, 22, 23, 24, 25, 26, 27, 28, 29, 30, 31, 32, 33, 34, 35, 36] rfl ?_
    refine LW.ex rfl rfl rfl rfl (Ex.fieldO 0 Try.underlying66 rfl rfl ti3 rfl) hS.rd ?_
    refine LW.ex rfl rfl rfl rfl (Ex.load1 ti3 rfl rfl (by first | exact obT rfl | exact Rd.imm ‹_› | exact slT ‹_›)) hS.rd ?_
    refine LW.ex rfl rfl rfl rfl (Ex.lss rfl rfl rfl) hS.rd ?_
    refine LW.splitB (fun h4_2 => ?_) (fun h4_2 => ?_)
    · have h4_2 := of_decide_eq_true h4_2
      omega
    · have h4_2 := of_decide_eq_false h4_2
      refine LW.ex rfl rfl rfl rfl (Ex.move rfl) hS.rd ?_
      refine LW.ex rfl rfl rfl rfl (Ex.fieldO 0 Try.underlying66 rfl rfl ti3 rfl) hS.rd ?_
      refine LW.ex rfl rfl rfl rfl (Ex.load1 ti3 rfl rfl (by first | exact obT rfl | exact Rd.imm ‹_› | exact slT ‹_›)) hS.rd ?_
      refine LW.ex rfl rfl rfl rfl (Ex.fieldO 1 Try.underlying66 rfl rfl ti3 rfl) hS.rd ?_
      refine LW.ex rfl rfl rfl rfl (Ex.load1 ti3 rfl rfl (by first | exact obT rfl | exact Rd.imm ‹_› | exact slT ‹_›)) hS.rd ?_
      refine LW.ex rfl rfl rfl rfl (Ex.geq rfl rfl rfl) hS.rd ?_
      refine LW.splitB (fun h4_8 => ?_) (fun h4_8 => ?_)
      · have h4_8 := of_decide_eq_true h4_8
        omega
      · have h4_8 := of_decide_eq_false h4_8
        refine LW.ex rfl rfl rfl rfl (by first | exact Ex.pick_yes rfl rfl | exact Ex.pick_no rfl rfl) hS.rd ?_
        refine LW.ex rfl rfl rfl rfl (Ex.move rfl) hS.rd ?_
        refine LW.ex rfl rfl rfl rfl (Ex.fieldO 1 Try.underlying66 rfl rfl ti3 rfl) hS.rd ?_
        refine LW.ex rfl rfl rfl rfl (Ex.load1 ti3 rfl rfl (by first | exact obT rfl | exact Rd.imm ‹_› | exact slT ‹_›)) hS.rd ?_
        refine LW.ex rfl rfl rfl rfl (Ex.fieldO 0 Try.underlying46 rfl rfl ti3 rfl) hS.rd ?_
        refine LW.ex rfl rfl rfl rfl (Ex.load1 ti3 rfl rfl (by first | exact obT rfl | exact Rd.imm ‹_› | exact slT ‹_›)) hS.rd ?_
        refine LW.ex rfl rfl rfl rfl (Ex.geq rfl rfl rfl) hS.rd ?_
        refine LW.splitB (fun h4_15 => ?_) (fun h4_15 => ?_)
        · have h4_15 := of_decide_eq_true h4_15
          omega
        · have h4_15 := of_decide_eq_false h4_15
          refine LW.ex rfl rfl rfl rfl (by first | exact Ex.pick_yes rfl rfl | exact Ex.pick_no rfl rfl) hS.rd ?_
          refine LW.ex rfl rfl rfl rfl (Ex.move rfl) hS.rd ?_
          refine LW.ex rfl rfl rfl rfl (Ex.fieldO 2 Try.underlying66 rfl rfl ti3 rfl) hS.rd ?_
          refine LW.ex rfl rfl rfl rfl (Ex.load1 ti3 rfl rfl (by first | exact obT rfl | exact Rd.imm ‹_› | exact slT ‹_›)) hS.rd ?_
          refine LW.ex rfl rfl rfl rfl (Ex.lss rfl rfl rfl) hS.rd ?_
          refine LW.splitB (fun h4_20 => ?_) (fun h4_20 => ?_)
          · have h4_20 := of_decide_eq_true h4_20
            omega
          · have h4_20 := of_decide_eq_false h4_20
            refine LW.ex rfl rfl rfl rfl (by first | exact Ex.pick_yes rfl rfl | exact Ex.pick_no rfl rfl) hS.rd ?_
            refine LW.ex rfl rfl rfl rfl (Ex.move rfl) hS.rd ?_
            refine LW.ex rfl rfl rfl rfl (Ex.fieldO 2 Try.underlying66 rfl rfl ti3 rfl) hS.rd ?_
            refine LW.ex rfl rfl rfl rfl (Ex.load1 ti3 rfl rfl (by first | exact obT rfl | exact Rd.imm ‹_› | exact slT ‹_›)) hS.rd ?_
            refine LW.ex rfl rfl rfl rfl (Ex.gtr rfl rfl rfl) hS.rd ?_
            refine LW.splitB (fun h4_25 => ?_) (fun h4_25 => ?_)
            · have h4_25 := of_decide_eq_true h4_25
              omega
            · have h4_25 := of_decide_eq_false h4_25
              refine LW.ex rfl rfl rfl rfl (by first | exact Ex.pick_yes rfl rfl | exact Ex.pick_no rfl rfl) hS.rd ?_
              refine LW.ex rfl rfl rfl rfl (Ex.move rfl) hS.rd ?_
              refine LW.ex rfl rfl rfl rfl (Ex.fieldO 3 Try.underlying66 rfl rfl ti3 rfl) hS.rd ?_
              refine LW.ex rfl rfl rfl rfl (Ex.load1 ti3 rfl rfl (by first | exact obT rfl | exact Rd.imm ‹_› | exact slT ‹_›)) hS.rd ?_
              refine LW.ex rfl rfl rfl rfl (Ex.lss rfl rfl rfl) hS.rd ?_
              refine LW.splitB (fun h4_30 => ?_) (fun h4_30 => ?_)
              · have h4_30 := of_decide_eq_true h4_30
                omega
              · have h4_30 := of_decide_eq_false h4_30
                refine LW.ex rfl rfl rfl rfl (by first | exact Ex.pick_yes rfl rfl | exact Ex.pick_no rfl rfl) hS.rd ?_
                refine LW.ex rfl rfl rfl rfl (Ex.move rfl) hS.rd ?_
                refine LW.ex rfl rfl rfl rfl (Ex.fieldO 3 Try.underlying66 rfl rfl ti3 rfl) hS.rd ?_
                refine LW.ex rfl rfl rfl rfl (Ex.load1 ti3 rfl rfl (by first | exact obT rfl | exact Rd.imm ‹_› | exact slT ‹_›)) hS.rd ?_
                refine LW.ex rfl rfl rfl rfl (Ex.gtr rfl rfl rfl) hS.rd ?_
                refine LW.splitB (fun h4_35 => ?_) (fun h4_35 => ?_)
                · have h4_35 := of_decide_eq_true h4_35
                  omega
                · have h4_35 := of_decide_eq_false h4_35
                  refine LW.ex rfl rfl rfl rfl (by first | exact Ex.pick_yes rfl rfl | exact Ex.pick_no rfl rfl) hS.rd ?_
                  refine LW.nil fun aa ha => hK8 _ _ _ ?_ aa ha
                  refine CW.no rfl ?_
                  refine CW.skip fun aa ha => hK6 _ _ _ ?_ aa ha
                  refine CW.region [0, 1] rfl ?_
                  refine LW.ex rfl rfl rfl rfl (Ex.add rfl rfl (by first | exact inc64 (by omega) | exact addN (by omega) | exact w64 (by omega) (by omega))) hS.rd ?_
                  refine LW.ex rfl rfl rfl rfl (Ex.move rfl) hS.rd ?_
                  refine LW.nil fun aa ha => ?_
                  have hS := hS.drop 0 rfl
                  dsimp only [List.eraseIdx] at hS
                  refine ⟨_, _, ?m2, ⟨i + 1, (by first | omega | (simp; done) | (simp; omega)), rfl, rfl, hS⟩, ha.sub ⟨rfl, rfl, rfl, rfl, trivial⟩⟩
                  case m2 => omega
  · have h2_0 := of_decide_eq_false h2_0
    refine LW.nil fun aa ha => hK4 _ _ _ ?_ aa ha
    refine CW.seq fun K9 hK9 => ?_
    refine CW.no rfl ?_
    refine CW.exit fun aa ha => hK2 _ _ _ ?_ aa ha
    refine CW.seq fun K10 hK10 => ?_
    refine CW.region [0, 1, 2, 3, 4, 5, 6, 7, 8, 9, 10, 11, 12, 13, 14] rfl ?_
    refine LW.ex rfl rfl rfl rfl (Ex.fieldO 0 Try.underlying46 rfl rfl ti3 rfl) hS.rd ?_
    refine LW.ex rfl rfl rfl rfl (Ex.load1 ti3 rfl rfl (by first | exact obT rfl | exact Rd.imm ‹_› | exact slT ‹_›)) hS.rd ?_
    refine LW.ex rfl rfl rfl rfl (Ex.geq rfl rfl rfl) hS.rd ?_
    refine LW.splitB (fun h7_2 => ?_) (fun h7_2 => ?_)
    · have h7_2 := of_decide_eq_true h7_2
      refine LW.ex rfl rfl rfl rfl (Ex.move rfl) hS.rd ?_
      refine LW.ex rfl rfl rfl rfl (Ex.fieldO 0 Try.underlying46 rfl rfl ti3 rfl) hS.rd ?_
      refine LW.ex rfl rfl rfl rfl (Ex.load1 ti3 rfl rfl (by first | exact obT rfl | exact Rd.imm ‹_› | exact slT ‹_›)) hS.rd ?_
      refine LW.ex rfl rfl rfl rfl (Ex.leq rfl rfl rfl) hS.rd ?_
      refine LW.splitB (fun h7_6 => ?_) (fun h7_6 => ?_)
      · have h7_6 := of_decide_eq_true h7_6
        refine LW.ex rfl rfl rfl rfl (by first | exact Ex.pick_yes rfl rfl | exact Ex.pick_no rfl rfl) hS.rd ?_
        refine LW.ex rfl rfl rfl rfl (Ex.move rfl) hS.rd ?_
        refine LW.ex rfl rfl rfl rfl (Ex.fieldO 1 Try.underlying46 rfl rfl ti44 rfl) hS.rd ?_
        refine LW.ex rfl rfl rfl rfl (Ex.load1 ti44 rfl rfl (by first | exact obT rfl | exact Rd.imm ‹_› | exact slT ‹_›)) hS.rd ?_
        refine LW.ex rfl rfl rfl rfl (Ex.lenSl rfl Try.underlying44 rfl) hS.rd ?_
        refine LW.ex rfl rfl rfl rfl (Ex.leq rfl rfl (by first | exact decide_eq_true (by omega) | exact decide_eq_false (by omega) | rfl)) hS.rd ?_
        refine LW.ex rfl rfl rfl rfl (by first | exact Ex.pick_yes rfl rfl | exact Ex.pick_no rfl rfl) hS.rd ?_
        refine LW.ex rfl rfl rfl rfl (Ex.assign rfl) hS.rd ?_
        refine LW.nil fun aa ha => hK10 _ _ _ ?_ aa ha
        refine CW.ret fun aa ha => ?_
        refine ret_one ha Try.results46 rfl ?_
        exact hS.retS
      · have h7_6 := of_decide_eq_false h7_6
        omega
    · have h7_2 := of_decide_eq_false h7_2
      omega

/-- The labels of links. -/
def lbl (g : Grf) (i : Int) : Int := (lkAt g i).Label
set_option maxRecDepth 100000 in
theorem labels_c (g : Grf) (ls : List Int) (C : Int) (hg : ∀ i ∈ ls, 0 ≤ i ∧ i < g.Links.length) (hls : ls.length ≤ 1000000) (a4 a5 : Option Addr) (c4 c5 : Nat) (μ : Mem) (w : World) (hμ : Imm μ w) (hgl : Sl μ a4 c4 g.Links) (hcl : Sl μ a5 c5 ls) :
    Calls Try.prog 25 #[.agg #[.int .i64 g.N, .slice a4 g.Links.length c4], .agg #[.slice a5 ls.length c5, .int .i64 C]] w (RetV w μ (IsSl (ls.map (lbl g)))) := by
  have hS := St.start w μ hμ
  refine calls_start 46 [.agg #[.int .i64 g.N, .slice a4 g.Links.length c4], .agg #[.slice a5 ls.length c5, .int .i64 C]] Try.func25 rfl Try.ntmps25 rfl rfl ?_
  refine CW.seq fun K11 hK11 => ?_
  refine CW.region [0, 1, 2] rfl ?_
  refine LW.hv rfl rfl rfl rfl (Hv.boxS hS rfl rfl) fun v w2 ⟨b2, hv, hb2, hS⟩ => ?_
  subst hv
  refine LW.hv rfl rfl rfl rfl (Hv.boxS hS rfl rfl) fun v w3 ⟨b3, hv, hb3, hS⟩ => ?_
  subst hv
  refine LW.ex rfl rfl rfl rfl (Ex.assign rfl) hS.rd ?_
  refine LW.nil fun aa ha => hK11 _ _ _ ?_ aa ha
  refine CW.seq fun K12 hK12 => ?_
  refine CW.region [0, 1] rfl ?_
  refine LW.hv rfl rfl rfl rfl (Hv.buildSl hS Try.underlying31 ti3 rfl rfl rfl rfl rfl rfl) fun v w7 ⟨b7, hv, hb7, hS⟩ => ?_
  subst hv
  refine LW.ex rfl rfl rfl rfl (Ex.assign rfl) hS.rd ?_
  refine LW.nil fun aa ha => hK12 _ _ _ ?_ aa ha
  refine CW.seq fun K13 hK13 => ?_
  refine CW.seq fun K14 hK14 => ?_
  refine CW.region [0] rfl ?_
  refine LW.ex rfl rfl rfl rfl (Ex.assign rfl) hS.rd ?_
  refine LW.nil fun aa ha => hK14 _ _ _ ?_ aa ha
  refine CW.block ?_
  have hS : St w _ μ (_ :: _) := hS.row_sl (k := 0) rfl 0 1 rfl (by simp [maxLen])
  refine CW.loop (fun qq frm wl3 => ∃ (i : Nat) (ad : Option Addr) (c : Nat), i ≤ ls.length ∧ qq = ls.length - i ∧ frm = [(2, .pointer (some ⟨b2, 0, none⟩)), (3, .pointer (some ⟨b3, 0, none⟩)), (5, .slice ad i c), (6, .int .i64 i)] ∧ St w wl3 μ [Own.sl ad i c 3 1 (((ls.take i).map (lbl g)).map fun z => Value.int .i64 z), Own.obj b3 [.slice a5 ls.length c5, .int .i64 C] 58, Own.obj b2 [.int .i64 g.N, .slice a4 g.Links.length c4] 46]) _ ⟨0, some ⟨b7, 0, none⟩, 0, (by first | omega | (simp; done) | (simp; omega)), rfl, rfl, hS⟩ ⟨rfl, rfl, rfl, rfl, trivial⟩ ?_
  clear hS
  rintro qq frm wl3 ⟨i, ad, c, hi, hq, rfl, hS⟩
  refine CW.seq fun K15 hK15 => ?_
  refine CW.seq fun K16 hK16 => ?_
  refine CW.region [0, 1, 2, 3, 4] rfl ?_
  refine LW.ex rfl rfl rfl rfl (Ex.move rfl) hS.rd ?_
  refine LW.ex rfl rfl rfl rfl (Ex.fieldO 0 Try.underlying58 rfl rfl ti31 rfl) hS.rd ?_
  refine LW.ex rfl rfl rfl rfl (Ex.load1 ti31 rfl rfl (by first | exact obT rfl | exact Rd.imm ‹_› | exact slT ‹_›)) hS.rd ?_
  refine LW.ex rfl rfl rfl rfl (Ex.lenSl rfl Try.underlying31 rfl) hS.rd ?_
  refine LW.ex rfl rfl rfl rfl (Ex.lss rfl rfl rfl) hS.rd ?_
  refine LW.splitB (fun h3_4 => ?_) (fun h3_4 => ?_)
  · have h3_4 := of_decide_eq_true h3_4
    refine LW.nil fun aa ha => hK16 _ _ _ ?_ aa ha
    refine CW.yes rfl ?_
    refine CW.skip fun aa ha => hK15 _ _ _ ?_ aa ha
    refine CW.seq fun K17 hK17 => ?_
    refine CW.block ?_
    refine CW.seq fun K18 hK18 => ?_
    have hSl := hS
    have hi2 : i < ls.length := by omega
    have hli := hg _ (List.getElem_mem hi2)
    obtain ⟨j, hj⟩ : ∃ j : Nat, ls[i] = j := ⟨ls[i].toNat, by omega⟩
    have hj2 : j < g.Links.length := by omega
    have hwa : lbl g ls[i] = g.Links[j].Label := by unfold lbl; rw [lkAt_of (by omega) (by omega)]; simp only [hj, Int.toNat_natCast]
    obtain ⟨bl, ol, rfl, k0⟩ := hcl.at hi2
    rw [hj] at k0
    obtain ⟨bl2, ol2, rfl, q0, q1, q2, q3⟩ := hgl.at hj2
    have hS := hSl
    have hS := hS.drew
    refine CW.draw 17 (.ex 0 <| .ex 1 <| .ex 2 <| .ex 3 <| .ex 4 <| .ex 5 <| .ex 6 <| .ex 7 <| .ex 8 <| .ex 9 <| .ex 10 <| .ex 11 <| .ex 12 <| .ex 13 <| .ex 14 <| .ex 15 <| .ex 16 <| .done) [] (Rd _ _) mixed (by kernel_rfl) rfl rfl hS.rd ?_
    refine PW.ex rfl rfl rfl rfl (Ex.fieldO 0 Try.underlying58 rfl rfl ti31 rfl) ?_
    refine PW.ex rfl rfl rfl rfl (Ex.load1 ti31 rfl rfl (by first | exact obT rfl | exact Rd.imm ‹_› | exact slT ‹_›)) ?_
    refine PW.ex rfl rfl rfl rfl (Ex.move rfl) ?_
    refine PW.ex rfl rfl rfl rfl (Ex.indexSl Try.underlying31 ti3 rfl rfl rfl (by omega)) ?_
    refine PW.ex rfl rfl rfl rfl (Ex.load1 ti3 rfl rfl (by first | exact obT rfl | exact Rd.imm ‹_› | exact slT ‹_›)) ?_
    refine PW.ex rfl rfl rfl rfl (Ex.geq rfl rfl rfl) ?_
    refine PW.splitB (fun h5_5 => ?_) (fun h5_5 => ?_)
    · have h5_5 := of_decide_eq_true h5_5
      refine PW.ex rfl rfl rfl rfl (Ex.move rfl) ?_
      refine PW.ex rfl rfl rfl rfl (Ex.fieldO 0 Try.underlying58 rfl rfl ti31 rfl) ?_
      refine PW.ex rfl rfl rfl rfl (Ex.load1 ti31 rfl rfl (by first | exact obT rfl | exact Rd.imm ‹_› | exact slT ‹_›)) ?_
      refine PW.ex rfl rfl rfl rfl (Ex.move rfl) ?_
      refine PW.ex rfl rfl rfl rfl (Ex.indexSl Try.underlying31 ti3 rfl rfl rfl (by omega)) ?_
      refine PW.ex rfl rfl rfl rfl (Ex.load1 ti3 rfl rfl (by first | exact obT rfl | exact Rd.imm ‹_› | exact slT ‹_›)) ?_
      refine PW.ex rfl rfl rfl rfl (Ex.fieldO 1 Try.underlying46 rfl rfl ti44 rfl) ?_
      refine PW.ex rfl rfl rfl rfl (Ex.load1 ti44 rfl rfl (by first | exact obT rfl | exact Rd.imm ‹_› | exact slT ‹_›)) ?_
      refine PW.ex rfl rfl rfl rfl (Ex.lenSl rfl Try.underlying44 rfl) ?_
      refine PW.ex rfl rfl rfl rfl (Ex.lss rfl rfl rfl) ?_
      refine PW.splitB (fun h5_15 => ?_) (fun h5_15 => ?_)
      · have h5_15 := of_decide_eq_true h5_15
        refine PW.ex rfl rfl rfl rfl (by first | exact Ex.pick_yes rfl rfl | exact Ex.pick_no rfl rfl) ?_
        refine PW.nil ?_
        refine LW.nil fun aa ha => hK18 _ _ _ ?_ aa ha
        refine CW.yes rfl ?_
        have hS := hS.drew
        refine CW.draw 12 (.ex 0 <| .ex 1 <| .ex 2 <| .ex 3 <| .ex 4 <| .ex 5 <| .ex 6 <| .ex 7 <| .ex 8 <| .ex 9 <| .ex 10 <| .one 11 <| .done) [12, 13] (Rd _ _) mixed (by kernel_rfl) rfl rfl hS.rd ?_
        refine PW.ex rfl rfl rfl rfl (Ex.move rfl) ?_
        refine PW.ex rfl rfl rfl rfl (Ex.fieldO 1 Try.underlying46 rfl rfl ti44 rfl) ?_
        refine PW.ex rfl rfl rfl rfl (Ex.load1 ti44 rfl rfl (by first | exact obT rfl | exact Rd.imm ‹_› | exact slT ‹_›)) ?_
        refine PW.ex rfl rfl rfl rfl (Ex.fieldO 0 Try.underlying58 rfl rfl ti31 rfl) ?_
        refine PW.ex rfl rfl rfl rfl (Ex.load1 ti31 rfl rfl (by first | exact obT rfl | exact Rd.imm ‹_› | exact slT ‹_›)) ?_
        refine PW.ex rfl rfl rfl rfl (Ex.move rfl) ?_
        refine PW.ex rfl rfl rfl rfl (Ex.indexSl Try.underlying31 ti3 rfl rfl rfl (by omega)) ?_
        refine PW.ex rfl rfl rfl rfl (Ex.load1 ti3 rfl rfl (by first | exact obT rfl | exact Rd.imm ‹_› | exact slT ‹_›)) ?_
        refine PW.ex rfl rfl rfl rfl (Ex.indexSl Try.underlying44 ti66 rfl rfl rfl (by omega)) ?_
        refine PW.ex rfl rfl rfl rfl (Ex.fieldO 2 Try.underlying66 rfl rfl ti3 rfl) ?_
        refine PW.ex rfl rfl rfl rfl (Ex.load1 ti3 rfl rfl (by first | exact obT rfl | exact Rd.imm ‹_› | exact slT ‹_›)) ?_
        refine PW.hv rfl rfl rfl rfl (Hv.buildSl hS Try.underlying31 ti3 rfl rfl rfl rfl rfl rfl) (fun _ _ ⟨_, _, _, h⟩ => h.rd.tail) fun v w43 ⟨b43, hv, hb43, hS⟩ => ?_
        subst hv
        refine PW.nil ?_
        refine LW.hv rfl rfl rfl rfl (Hv.append (k := 1) rfl Try.underlying31 ti3 rfl hS rfl rfl rfl rfl (Rd.objAll (k := 0) rfl hS.rd) (by simp [Value.oneCell']) (by unfold maxLen; omega) (by omega)) fun v w44 ⟨ad44, c44, hv, hS⟩ => ?_
        subst hv
        dsimp only [List.set] at hS
        have hS := hS.drop 0 rfl
        dsimp only [List.eraseIdx] at hS
        rw [show (((ls.take i).map (lbl g)).map fun z => Value.int .i64 z) ++ [Value.int .i64 g.Links[j].Label] = (((ls.take (i + 1)).map (lbl g)).map fun z => Value.int .i64 z) by rw [List.take_succ_eq_append_getElem hi2, List.map_append, List.map_append, ← hwa]; rfl] at hS
        refine LW.ex rfl rfl rfl rfl (Ex.assign rfl) hS.rd ?_
        refine LW.nil fun aa ha => hK17 _ _ _ ?_ aa ha
        refine CW.region [0, 1, 2] rfl ?_
        refine LW.ex rfl rfl rfl rfl (Ex.move rfl) hS.rd ?_
        refine LW.ex rfl rfl rfl rfl (Ex.add rfl rfl (by first | exact inc64 (by omega) | exact addN (by omega) | exact w64 (by omega) (by omega))) hS.rd ?_
        refine LW.ex rfl rfl rfl rfl (Ex.assign rfl) hS.rd ?_
        refine LW.nil fun aa ha => ?_
        refine ⟨_, _, ?m3, ⟨i + 1, ad44, c44, (by first | omega | (simp; done) | (simp; omega)), rfl, rfl, hS⟩, ha.sub ⟨rfl, rfl, rfl, rfl, trivial⟩⟩
        case m3 => omega
      · have h5_15 := of_decide_eq_false h5_15
        omega
    · have h5_5 := of_decide_eq_false h5_5
      omega
  · have h3_4 := of_decide_eq_false h3_4
    refine LW.nil fun aa ha => hK16 _ _ _ ?_ aa ha
    refine CW.no rfl ?_
    refine CW.exit fun aa ha => hK13 _ _ _ ?_ aa ha
    refine CW.seq fun K19 hK19 => ?_
    refine CW.region [0, 1] rfl ?_
    refine LW.ex rfl rfl rfl rfl (Ex.move rfl) hS.rd ?_
    refine LW.ex rfl rfl rfl rfl (Ex.assign rfl) hS.rd ?_
    refine LW.nil fun aa ha => hK19 _ _ _ ?_ aa ha
    refine CW.ret fun aa ha => ?_
    refine ret_one ha Try.results25 rfl ?_
    have hie : i = ls.length := by omega
    obtain ⟨bs, μ1, hmm1, hS, hφ⟩ := hS.shut 0 rfl
    refine ⟨_, μ1, rfl, hS.below, hmm1, hS.imm, ad, c, ?_, Sl.of_own hφ ?_ (by rw [List.length_map, hie])⟩
    · rw [List.length_map, hie]
    · rw [hie, List.take_length]; exact RepL.ints _ _
end Go.Proofs.Ytgnpjhellmfhoaa

/-
  Context: package best: the links that leave each node.
-/
namespace Go.Proofs.Ytgnpjhellmfhoaa
open Go.RowKit Sy

/-! ### A region that goes on after a heavy operation while an exempt one may be late -/
theorem TW.hv {P : Program} {ops : Array Oper} {Q : Exit → Act → World → Prop} {S0 : World → Prop} {rest : List Nat} {n : Nat} {m : List (Nat × Value)} {w : World} {i : Nat} {o : Oper} {d : Nat} {Φ : Value → World → Prop} (hi : ops[i]? = some o) (hd : o.dst = some d) (hn : Nat.ble (d + 1) n = true) (hg : guarded ops m o = some true) (h : Hv P m o.op w Φ) (h0' : ∀ v w', Φ v w' → S0 w')
    (k : ∀ v w', Φ v w' → TW P ops Q S0 rest n ((d, v) :: m) w') : TW P ops Q S0 (i :: rest) n m w := fun a ha _ => by
  refine wpOp_at hi (wanted_of ha hg) ?_
  refine h a ha.ev o rfl _ _ fun v w' hv => ⟨h0' v w' hv, ?_⟩
  rw [hd]
  exact k v w' hv _ (ha.put (Nat.le_of_ble_eq_true hn) v) (h0' v w' hv)
theorem rd_head {μ : Mem} {e : Own} {L : List Own} {w : World} (h : Rd μ (e :: L) w) : Rd μ [e] w := ⟨h.1, by
  obtain ⟨bs, b1, b2, _, h1, _⟩ := h.2
  exact ⟨b1, b1, [], by simp, h1, rfl⟩⟩

/-! ### Many own slices -/
theorem seps_snoc {e : Own} {h : Mem} (he : e.φ [] h) : ∀ {L : List Own} {bs : List Nat}, Seps L bs h → Seps (L ++ [e]) bs h
  | [], bs, hs => ⟨[], [], hs, he, rfl⟩
  | a :: L, bs, ⟨b1, b2, e1, h1, h2⟩ => ⟨b1, b2, e1, h1, seps_snoc he h2⟩
theorem st_snoc {w0 w : World} {μ : Mem} {L : List Own} {e : Own} (hS : St w0 w μ L) (he : ∀ h, e.φ [] h) : St w0 w μ (L ++ [e]) :=
  ⟨hS.below, hS.imm, let ⟨bs, h1, h2⟩ := hS.own; ⟨bs, seps_snoc (he _) h1, h2⟩⟩
def natL (l : List Nat) : List Value := l.map fun (k : Nat) => Value.int .i64 k
def innerE (ads : Nat → Option Addr) (cs : Nat → Nat) (f : Nat → List Nat) (j : Nat) : Own := Own.sl (ads j) (f j).length (cs j) 3 1 (natL (f j))
def innerO (ads : Nat → Option Addr) (cs : Nat → Nat) (f : Nat → List Nat) (N : Nat) : List Own := (List.range N).map (innerE ads cs f)
def outerE (ads : Nat → Option Addr) (cs : Nat → Nat) (f : Nat → List Nat) (j : Nat) : Value := .slice (ads j) (f j).length (cs j)
def outerV (ads : Nat → Option Addr) (cs : Nat → Nat) (f : Nat → List Nat) (N : Nat) : List Value := (List.range N).map (outerE ads cs f)
theorem innerO_succ (ads : Nat → Option Addr) (cs : Nat → Nat) (f : Nat → List Nat) (N : Nat) : innerO ads cs f (N + 1) = innerO ads cs f N ++ [innerE ads cs f N] := by
  unfold innerO; rw [List.range_succ, List.map_append]; rfl
theorem st_nils {w0 w : World} {μ : Mem} {L : List Own} (hS : St w0 w μ L) : ∀ N, St w0 w μ (L ++ innerO (fun _ => none) (fun _ => 0) (fun _ => []) N)
  | 0 => by unfold innerO; simpa using hS
  | N + 1 => by
    rw [innerO_succ, ← List.append_assoc]
    exact st_snoc (st_nils hS N) fun h => ⟨rfl, .inl ⟨rfl, rfl, rfl, rfl⟩⟩
theorem st_shutAll {w0 w : World} {L : List Own} (ads : Nat → Option Addr) (cs : Nat → Nat) (f : Nat → List Nat) : ∀ (N : Nat) (μ : Mem), St w0 w μ (L ++ innerO ads cs f N) →
    ∃ μ', Mem.ext w0.heap.size μ μ' ∧ St w0 w μ' L ∧ ∀ j < N, Sl μ' (ads j) (cs j) ((f j).map fun (k : Nat) => (k : Int))
  | 0, μ, hS => ⟨μ, Mem.ext.refl _ _, by unfold innerO at hS; simpa using hS, fun j h => by omega⟩
  | N + 1, μ, hS => by
    rw [innerO_succ, ← List.append_assoc] at hS
    obtain ⟨bs, μ1, h1, hS, hφ⟩ := hS.shut (L ++ innerO ads cs f N).length (List.getElem?_concat_length ..)
    rw [List.eraseIdx_append_of_length_le (Nat.le_refl _), Nat.sub_self] at hS
    simp only [List.eraseIdx, List.append_nil] at hS
    obtain ⟨μ2, h2, hS, hall⟩ := st_shutAll ads cs f N μ1 hS
    have hN : Sl μ1 (ads N) (cs N) ((f N).map fun (k : Nat) => (k : Int)) := Sl.of_own hφ (by
      have := RepL.ints μ1 ((f N).map fun (k : Nat) => (k : Int))
      rw [List.map_map] at this; exact this) (by rw [List.length_map])
    refine ⟨μ2, h1.trans h2, hS, fun j hj => ?_⟩
    by_cases h : j = N
    · subst h; exact hN.mono h2
    · exact hall j (by omega)
def upd {α : Type} (f : Nat → α) (j : Nat) (x : α) : Nat → α := fun q => if q = j then x else f q
theorem map_upd {β : Type} {F G : Nat → β} {N j : Nat} {x : β} (hx : G j = x) (h : ∀ q, q ≠ j → G q = F q) : ((List.range N).map F).set j x = (List.range N).map G := by
  refine List.ext_getElem (by simp) fun i h1 h2 => ?_
  simp only [List.getElem_set, List.getElem_map, List.getElem_range]
  split
  · rename_i h3; subst h3; exact hx.symm
  · rename_i h3; exact (h i fun e => h3 e.symm).symm
/-- The links that leave a node, among the first ones. -/
def outTo (g : Grf) (i q : Nat) : List Nat := (List.range i).filter fun j => decide ((lkAt g j).From = q)
theorem outTo_succ (g : Grf) (i q : Nat) : outTo g (i + 1) q = outTo g i q ++ if (lkAt g i).From = q then [i] else [] := by
  unfold outTo
  rw [List.range_succ, List.filter_append]
  congr 1
  by_cases h : (lkAt g i).From = q
  · rw [if_pos h]; simp [h]
  · rw [if_neg h]; simp [h]
theorem outTo_len (g : Grf) (i q : Nat) : (outTo g i q).length ≤ i := by unfold outTo; exact Nat.le_trans (List.length_filter_le _ _) (by simp)
theorem inner_step {g : Grf} {i u N c : Nat} {ads : Nat → Option Addr} {cs : Nat → Nat} {ad : Option Addr} (h : ∀ q : Nat, outTo g (i + 1) q = outTo g i q ++ if (u : Int) = q then [i] else []) :
    (innerO ads cs (outTo g i) N).set u (Own.sl ad ((outTo g i u).length + 1) c 3 1 (natL (outTo g i u) ++ [Value.int .i64 i])) = innerO (upd ads u ad) (upd cs u c) (outTo g (i + 1)) N := by
  refine map_upd ?_ fun q hq => ?_
  · unfold innerE upd
    rw [h u, if_pos rfl, if_pos rfl, if_pos rfl, List.length_append]
    unfold natL; rw [List.map_append]; rfl
  · unfold innerE upd
    rw [h q, if_neg hq, if_neg hq, if_neg (by omega), List.append_nil]
theorem outer_step {g : Grf} {i u N c : Nat} {ads : Nat → Option Addr} {cs : Nat → Nat} {ad : Option Addr} (h : ∀ q : Nat, outTo g (i + 1) q = outTo g i q ++ if (u : Int) = q then [i] else []) :
    (outerV ads cs (outTo g i) N).set u (.slice ad ((outTo g i u).length + 1) c) = outerV (upd ads u ad) (upd cs u c) (outTo g (i + 1)) N := by
  refine map_upd ?_ fun q hq => ?_
  · unfold outerE upd
    rw [h u, if_pos rfl, if_pos rfl, if_pos rfl, List.length_append]
    rfl
  · unfold outerE upd
    rw [h q, if_neg hq, if_neg hq, if_neg (by omega), List.append_nil]
theorem outer_zero (g : Grf) (N : Nat) : outerV (fun _ => none) (fun _ => 0) (outTo g 0) N = List.replicate N (.slice none 0 0) := by
  unfold outerV
  rw [List.eq_replicate_iff]
  exact ⟨by simp, fun b hb => by obtain ⟨q, _, rfl⟩ := List.mem_map.1 hb; rfl⟩
theorem outer_rep {ads : Nat → Option Addr} {cs : Nat → Nat} {f : Nat → List Nat} {N : Nat} {μ : Mem} (h : ∀ j < N, Sl μ (ads j) (cs j) ((f j).map fun (k : Nat) => (k : Int))) :
    RepL μ (outerV ads cs f N) ((List.range N).map fun q => (f q).map fun (k : Nat) => (k : Int)) := by
  refine ⟨by show _ = _ * 1; unfold outerV; simp, fun i hi => ?_⟩
  rw [List.length_map, List.length_range] at hi
  refine ⟨ads i, cs i, ?_, by rw [List.getElem_map, List.getElem_range]; exact h i hi⟩
  show (if 0 < 1 then (outerV ads cs f N)[i * 1 + 0]? else none) = _
  rw [if_pos (by omega), Nat.mul_one, Nat.add_zero]
  unfold outerV
  rw [List.getElem?_map, List.getElem?_range hi, List.getElem_map, List.getElem_range, List.length_map]
  rfl
def outL (g : Grf) : List (List Int) := (List.range g.N.toNat).map fun q => (outTo g g.Links.length q).map fun (k : Nat) => (k : Int)
set_option maxRecDepth 100000 in
set_option maxHeartbeats 1000000 in
theorem out_c (g : Grf) (hg : GOk g) (a4 : Option Addr) (c4 : Nat) (μ : Mem) (w : World) (hμ : Imm μ w) (hgl : Sl μ a4 c4 g.Links) :
    Calls Try.prog 47 #[.agg #[.int .i64 g.N, .slice a4 g.Links.length c4]] w (RetV w μ (IsSl (outL g))) := by
  obtain ⟨n1, n2, nl, hlk⟩ := hg
  obtain ⟨N, hN⟩ : ∃ N : Nat, g.N = N := ⟨g.N.toNat, by omega⟩
  have hout : outL g = (List.range N).map fun q => (outTo g g.Links.length q).map fun (k : Nat) => (k : Int) := by unfold outL; rw [hN, Int.toNat_natCast]
  rw [hN] at n1 n2
  rw [hN]
  have hS := St.start w μ hμ
  refine calls_start 31 [.agg #[.int .i64 N, .slice a4 g.Links.length c4]] Try.func47 rfl Try.ntmps47 rfl rfl ?_
  refine CW.seq fun K1 hK1 => ?_
  refine CW.region [0, 1] rfl ?_
  refine LW.hv rfl rfl rfl rfl (Hv.boxS hS rfl rfl) fun v w1 ⟨b1, hv, hb1, hS⟩ => ?_
  subst hv
  refine LW.ex rfl rfl rfl rfl (Ex.assign rfl) hS.rd ?_
  refine LW.nil fun aa ha => hK1 _ _ _ ?_ aa ha
  refine CW.seq fun K2 hK2 => ?_
  refine CW.region [0, 1, 2, 3] rfl ?_
  refine LW.ex rfl rfl rfl rfl (Ex.fieldO 0 Try.underlying46 rfl rfl ti3 rfl) hS.rd ?_
  refine LW.ex rfl rfl rfl rfl (Ex.load1 ti3 rfl rfl (by first | exact obT rfl | exact Rd.imm ‹_› | exact slT ‹_›)) hS.rd ?_
  refine LW.hv rfl rfl rfl rfl (Hv.makeSlice Try.underlying106 ti31 hS rfl rfl rfl rfl (by omega) (by unfold maxLen; omega)) fun v w8 ⟨b8, hv, hb8, hS⟩ => ?_
  subst hv
  rw [show (madeCells (Value.cells (.slice none 0 0)) (N * 1)).toList = outerV (fun _ => none) (fun _ => 0) (outTo g 0) N by rw [Nat.mul_one, show Value.cells (.slice none 0 0) = #[.slice none 0 0] from rfl, toList_madeCells_one, outer_zero]] at hS
  refine LW.ex rfl rfl rfl rfl (Ex.assign rfl) hS.rd ?_
  refine LW.nil fun aa ha => hK2 _ _ _ ?_ aa ha
  refine CW.seq fun K3 hK3 => ?_
  refine CW.seq fun K4 hK4 => ?_
  refine CW.region [0, 1, 2, 3] rfl ?_
  refine LW.ex rfl rfl rfl rfl (Ex.fieldO 1 Try.underlying46 rfl rfl ti44 rfl) hS.rd ?_
  refine LW.ex rfl rfl rfl rfl (Ex.load1 ti44 rfl rfl (by first | exact obT rfl | exact Rd.imm ‹_› | exact slT ‹_›)) hS.rd ?_
  refine LW.ex rfl rfl rfl rfl (Ex.lenSl rfl Try.underlying44 rfl) hS.rd ?_
  refine LW.ex rfl rfl rfl rfl (Ex.move rfl) hS.rd ?_
  refine LW.nil fun aa ha => hK4 _ _ _ ?_ aa ha
  refine CW.block ?_
  have hS := st_nils hS N
  simp only [List.cons_append, List.nil_append] at hS
  refine CW.loop (fun qq frm wl3 => ∃ (i : Nat) (ads : Nat → Option Addr) (cs : Nat → Nat), i ≤ g.Links.length ∧ qq = g.Links.length - i ∧ frm = [(3, .slice (some ⟨b8, 0, none⟩) N N), (10, .slice a4 g.Links.length c4), (11, .int .i64 g.Links.length), (12, .int .i64 i)] ∧ St w wl3 μ (Own.sl (some ⟨b8, 0, none⟩) N N 31 1 (outerV ads cs (outTo g i) N) :: Own.obj b1 [.int .i64 N, .slice a4 g.Links.length c4] 46 :: (innerO ads cs (outTo g i) N))) _ ⟨0, fun _ => none, fun _ => 0, (by first | omega | (simp; done) | (simp; omega)), rfl, rfl, hS⟩ ⟨rfl, rfl, rfl, rfl, trivial⟩ ?_
  clear hS
  rintro qq frm wl3 ⟨i, ads, cs, hi, hq, rfl, hS⟩
  refine CW.seq fun K5 hK5 => ?_
  refine CW.region [0] rfl ?_
  refine LW.ex rfl rfl rfl rfl (Ex.lss rfl rfl rfl) hS.rd ?_
  refine LW.splitB (fun h3_0 => ?_) (fun h3_0 => ?_)
  · have h3_0 := of_decide_eq_true h3_0
    refine LW.nil fun aa ha => hK5 _ _ _ ?_ aa ha
    refine CW.seq fun K6 hK6 => ?_
    refine CW.yes rfl ?_
    refine CW.skip fun aa ha => hK6 _ _ _ ?_ aa ha
    refine CW.seq fun K7 hK7 => ?_
    refine CW.block ?_
    refine CW.seq fun K8 hK8 => ?_
    have hSl := hS
    have hi2 : i < g.Links.length := by omega
    obtain ⟨bl, ol, rfl, k0, k1, k2, k3⟩ := hgl.at hi2
    have hS := hSl
    have hk := hlk _ (List.getElem_mem hi2)
    have hst := outTo_succ g i
    rw [show lkAt g i = g.Links[i] by rw [lkAt_of (by omega) (by omega)]; simp only [Int.toNat_natCast]] at hst
    obtain ⟨z, hz⟩ : ∃ z, z = g.Links[i] := ⟨_, rfl⟩
    rw [← hz] at k0 k1 k2 k3 hk hst
    obtain ⟨u, hu⟩ : ∃ u : Nat, z.From = u := ⟨z.From.toNat, by omega⟩
    rw [hu] at k0 hst
    have huN : u < N := by omega
    have hI : (innerO ads cs (outTo g i) N)[u]? = some (Own.sl (ads u) (outTo g i u).length (cs u) 3 1 (natL (outTo g i u))) := by unfold innerO; rw [List.getElem?_map, List.getElem?_range huN]; rfl
    have hV : (outerV ads cs (outTo g i) N)[u]? = some (.slice (ads u) (outTo g i u).length (cs u)) := by unfold outerV; rw [List.getElem?_map, List.getElem?_range huN]; rfl
    have hle := outTo_len g i u
    have hov : 0 + u * 1 < (outerV ads cs (outTo g i) N).length := by unfold outerV; simp; exact huN
    refine CW.region [0, 1, 2, 3, 4, 5] rfl ?_
    refine LW.ex rfl rfl rfl rfl (Ex.move rfl) hS.rd ?_
    refine LW.ex rfl rfl rfl rfl (Ex.indexSl Try.underlying44 ti66 rfl rfl rfl (by omega)) hS.rd ?_
    refine LW.ex rfl rfl rfl rfl (Ex.load4c ti66 rfl rfl (by first | exact obT rfl | exact Rd.imm ‹_› | exact slT ‹_›) (by first | exact obT rfl | exact Rd.imm ‹_› | exact slT ‹_›) (by first | exact obT rfl | exact Rd.imm ‹_› | exact slT ‹_›) (by first | exact obT rfl | exact Rd.imm ‹_› | exact slT ‹_›)) hS.rd ?_
    refine LW.hv rfl rfl rfl rfl (Hv.alloc ti66 hS) fun v w5 ⟨b5, hv, hb5, hS⟩ => ?_
    subst hv
    refine LW.ex rfl rfl rfl rfl (Ex.assign rfl) hS.rd ?_
    refine LW.hu rfl rfl rfl (Hv.storeN (k := 0) ti66 hS rfl rfl rfl rfl (by simp [Value.oneCell'])) fun _ w_5 hS => ?_
    dsimp only [List.set] at hS
    refine LW.nil fun aa ha => hK8 _ _ _ ?_ aa ha
    have hS := hS.drew
    refine CW.drawP 10 [0, 1, 2] (.pu 0 <| .pu 1 <| .pu 2 <| .ex 3 <| .ex 4 <| .ex 5 <| .ex 6 <| .ex 7 <| .ex 8 <| .one 9 <| .done) [10, 11, 12] (Rd _ _) (Rd _ _) mixed (by kernel_rfl) rfl rfl (rd_head hS.rd) hS.rd ?_
    refine QW.pu rfl rfl rfl rfl (Ex.move rfl) ?_
    refine QW.pu rfl rfl rfl rfl (Ex.fieldO 0 Try.underlying66 rfl rfl ti3 rfl) ?_
    refine QW.pu rfl rfl rfl rfl (Ex.load1 ti3 rfl rfl (by first | exact obT rfl | exact Rd.imm ‹_› | exact slT ‹_›)) ?_
    refine QW.ex rfl rfl rfl rfl (Ex.move rfl) ?_
    refine QW.ex rfl rfl rfl rfl (Ex.fieldO 0 Try.underlying66 rfl rfl ti3 rfl) ?_
    refine QW.ex rfl rfl rfl rfl (Ex.load1 ti3 rfl rfl (by first | exact obT rfl | exact Rd.imm ‹_› | exact slT ‹_›)) ?_
    refine QW.ex rfl rfl rfl rfl (Ex.indexSl Try.underlying106 ti31 rfl rfl rfl (by omega)) ?_
    refine QW.ex rfl rfl rfl rfl (Ex.load1 ti31 rfl rfl (slT (v := .slice (ads u) (outTo g i u).length (cs u)) (by rw [Nat.zero_add, Nat.mul_one]; exact hV))) ?_
    refine QW.ex rfl rfl rfl rfl (Ex.move rfl) ?_
    refine QW.hv rfl rfl rfl rfl (Hv.buildSl hS Try.underlying31 ti3 rfl rfl rfl rfl rfl rfl) (fun _ _ ⟨_, _, _, h⟩ => rd_head h.rd.tail) (fun _ _ ⟨_, _, _, h⟩ => h.rd.tail) fun v w26 ⟨b26, hv, hb26, hS⟩ => ?_
    subst hv
    refine QW.nil ?_
    refine TW.hv rfl rfl rfl rfl (Hv.append (k := (u + 4)) rfl Try.underlying31 ti3 rfl hS hI rfl rfl rfl (Rd.objAll (k := 0) rfl hS.rd) (by simp [Value.oneCell']) (by unfold maxLen; omega) (by omega)) (fun _ _ ⟨_, _, _, h⟩ => rd_head (Rd.tail (show Rd _ (_ :: _ :: _) _ from h.rd))) fun v w27 ⟨ad27, c27, hv, hS⟩ => ?_
    subst hv
    dsimp only [List.set] at hS
    have hS := hS.drop 0 rfl
    dsimp only [List.eraseIdx] at hS
    rw [inner_step hst] at hS
    refine TW.ex rfl rfl rfl rfl (Ex.indexSl Try.underlying106 ti31 rfl rfl rfl (by omega)) hS.rd ?_
    refine TW.hu rfl rfl rfl (Hv.storeSl (k := 1) ti31 hS rfl rfl rfl rfl hov) (fun _ _ h => rd_head h.rd) fun _ w_12 hS => ?_
    dsimp only [List.set] at hS
    rw [Nat.zero_add, Nat.mul_one, outer_step hst] at hS
    refine TW.nil fun aa ha => hK7 _ _ _ ?_ aa ha
    refine CW.region [0, 1] rfl ?_
    refine LW.ex rfl rfl rfl rfl (Ex.add rfl rfl (by first | exact inc64 (by omega) | exact addN (by omega) | exact w64 (by omega) (by omega))) hS.rd ?_
    refine LW.ex rfl rfl rfl rfl (Ex.move rfl) hS.rd ?_
    refine LW.nil fun aa ha => ?_
    have hS := hS.drop 0 rfl
    dsimp only [List.eraseIdx] at hS
    refine ⟨_, _, ?m3, ⟨i + 1, upd ads u ad27, upd cs u c27, (by first | omega | (simp; done) | (simp; omega)), rfl, rfl, hS⟩, ha.sub ⟨rfl, rfl, rfl, rfl, trivial⟩⟩
    case m3 => omega
  · have h3_0 := of_decide_eq_false h3_0
    refine LW.nil fun aa ha => hK5 _ _ _ ?_ aa ha
    refine CW.seq fun K9 hK9 => ?_
    refine CW.no rfl ?_
    refine CW.exit fun aa ha => hK3 _ _ _ ?_ aa ha
    refine CW.seq fun K10 hK10 => ?_
    refine CW.region [0, 1] rfl ?_
    refine LW.ex rfl rfl rfl rfl (Ex.move rfl) hS.rd ?_
    refine LW.ex rfl rfl rfl rfl (Ex.assign rfl) hS.rd ?_
    refine LW.nil fun aa ha => hK10 _ _ _ ?_ aa ha
    refine CW.ret fun aa ha => ?_
    refine ret_one ha Try.results47 rfl ?_
    have hie : i = g.Links.length := by omega
    obtain ⟨μ1, hmm1, hS, hall⟩ := st_shutAll (L := [_, _]) ads cs (outTo g i) N μ hS
    obtain ⟨bs, μ2, hmm2, hS, hφ⟩ := hS.shut 0 rfl
    rw [hout, ← hie]
    exact ⟨_, μ2, rfl, hS.below, hmm1.trans hmm2, hS.imm, _, N, by rw [List.length_map, List.length_range], Sl.of_own hφ (outer_rep fun j hj => (hall j hj).mono hmm2) (by rw [List.length_map, List.length_range])⟩
end Go.Proofs.Ytgnpjhellmfhoaa
