/-
  Context: the walk of slices.Compact.
-/
import Derived.Test.YtgnpjhellmfhoaaCxM
import Derived.Test.YtgnpjhellmfhoaaIns
namespace Go.Proofs.Ytgnpjhellmfhoaa
open Go.RowKit Sy

/-- Without what is equal to what stands before it. -/
def dd : List I2 → List I2
  | a :: b :: r => if a = b then dd (b :: r) else a :: dd (b :: r)
  | l => l
theorem dd_snoc : ∀ (l : List I2) (y x : I2), dd (l ++ [y] ++ [x]) = if y = x then dd (l ++ [y]) else dd (l ++ [y]) ++ [x]
  | [], y, x => by simp only [List.nil_append, List.cons_append, dd]; split <;> simp_all
  | [a], y, x => by
    have := dd_snoc [] y x
    simp only [List.nil_append, List.cons_append] at this ⊢
    rw [dd, this, dd]
    by_cases h : y = x <;> by_cases h2 : a = y <;> simp [h, h2]
  | a :: b :: l, y, x => by
    have := dd_snoc (b :: l) y x
    simp only [List.cons_append] at this ⊢
    rw [dd, this, dd]
    by_cases h : y = x <;> by_cases h2 : a = b <;> simp [h, h2]
theorem dd_take {xs : List I2} {i : Nat} (h0 : 1 ≤ i) (h : i < xs.length) : dd (xs.take (i + 1)) = if xs[i - 1] = xs[i] then dd (xs.take i) else dd (xs.take i) ++ [xs[i]] := by
  obtain ⟨j, rfl⟩ : ∃ j, i = j + 1 := ⟨i - 1, by omega⟩
  rw [List.take_succ_eq_append_getElem h, List.take_succ_eq_append_getElem (show j < xs.length by omega)]
  exact dd_snoc _ _ _
theorem dd_short {xs : List I2} (h : xs.length < 2) : dd xs = xs := by
  match xs, h with
  | [], _ => rfl
  | [a], _ => rfl
theorem dd_len (xs : List I2) : (dd xs).length ≤ xs.length := by
  match xs with
  | [] => simp [dd]
  | [a] => simp [dd]
  | a :: b :: r =>
    have := dd_len (b :: r)
    rw [dd]
    split <;> simp at * <;> omega
theorem i2_ext {x y : I2} (h1 : x.a = y.a) (h2 : x.b = y.b) : x = y := by cases x; cases y; simp_all
theorem i2Eq (x y : I2) (w : World) : (Op.equal 125 (.agg #[.int .i64 x.a, .int .i64 x.b]) (.agg #[.int .i64 y.a, .int .i64 y.b])).run Try.prog w = .ok (decide (x = y)) w := by
  rw [eqArr2 Try.underlying125 ti3 (by kernel_rfl)]
  congr 1
  exact decide_eq_decide.2 ⟨fun h => i2_ext h.1 h.2, fun h => by rw [h]; exact ⟨rfl, rfl⟩⟩
theorem zeroCells_one {n : Nat} : ∀ v ∈ (Builtin.zeroCells #[.int .i64 0, .int .i64 0] n).toList, v.oneCell' = true := by
  intro v hv
  unfold Builtin.zeroCells at hv
  simp only [Array.toList_map, List.mem_map] at hv
  obtain ⟨i, _, rfl⟩ := hv
  have : i % 2 = 0 ∨ i % 2 = 1 := by omega
  have e : (#[Value.int .i64 0, .int .i64 0] : Array Value).size = 2 := rfl
  rw [e]
  rcases this with h | h <;> rw [h] <;> rfl
set_option maxRecDepth 100000 in
set_option maxHeartbeats 1000000 in
theorem compact_c {w0 w : World} {μ : Mem} {L : List Own} {ad : Option Addr} {n c : Nat} {xs : List I2} (hS : St w0 w μ (Own.sl ad n c 125 2 (xs.flatMap i2L) :: L)) (hn : n = xs.length) :
    Calls Try.prog 75 #[.slice ad n c] w (RetM fun v w' => v = .slice ad (dd xs).length c ∧ St w0 w' μ (Own.sl ad (dd xs).length c 125 2 ((dd xs).flatMap i2L) :: L)) := by
  have hcap := hS.sl_cap 0 rfl
  obtain ⟨hcap1, hcap2⟩ := hcap
  simp only [maxLen] at hcap2
  have hkl : ∀ x, (i2L x).length = 2 := fun _ => rfl
  refine calls_start 61 [.slice ad n c] Try.func75 rfl Try.ntmps75 rfl rfl ?_
  refine CW.seq fun K1 hK1 => ?_
  refine CW.region [0] rfl ?_
  refine LW.ex rfl rfl rfl rfl (Ex.assign rfl) hS.rd ?_
  refine LW.nil fun aa ha => hK1 _ _ _ ?_ aa ha
  refine CW.seq fun K2 hK2 => ?_
  refine CW.seq fun K3 hK3 => ?_
  refine CW.region [0, 1, 2] rfl ?_
  refine LW.ex rfl rfl rfl rfl (Ex.move rfl) hS.rd ?_
  refine LW.ex rfl rfl rfl rfl (Ex.lenSl rfl Try.underlying120 rfl) hS.rd ?_
  refine LW.ex rfl rfl rfl rfl (Ex.lss rfl rfl rfl) hS.rd ?_
  refine LW.splitB (fun h1_2 => ?_) (fun h1_2 => ?_)
  · have h1_2 := of_decide_eq_true h1_2
    refine LW.nil fun aa ha => hK3 _ _ _ ?_ aa ha
    refine CW.yes rfl ?_
    refine CW.seq fun K4 hK4 => ?_
    refine CW.region [0, 1] rfl ?_
    refine LW.ex rfl rfl rfl rfl (Ex.move rfl) hS.rd ?_
    refine LW.ex rfl rfl rfl rfl (Ex.assign rfl) hS.rd ?_
    refine LW.nil fun aa ha => hK4 _ _ _ ?_ aa ha
    refine CW.ret fun aa ha => ?_
    refine ret_one ha Try.results75 rfl ?_
    refine ⟨_, rfl, ?_, ?_⟩
    · rw [dd_short (by omega), hn]
    · rw [dd_short (by omega), ← hn]; exact hS
  · have h1_2 := of_decide_eq_false h1_2
    refine LW.nil fun aa ha => hK3 _ _ _ ?_ aa ha
    refine CW.no rfl ?_
    refine CW.skip fun aa ha => hK2 _ _ _ ?_ aa ha
    refine CW.seq fun K5 hK5 => ?_
    refine CW.seq fun K6 hK6 => ?_
    refine CW.region [0] rfl ?_
    refine LW.ex rfl rfl rfl rfl (Ex.assign rfl) hS.rd ?_
    refine LW.nil fun aa ha => hK6 _ _ _ ?_ aa ha
    refine CW.block ?_
    obtain ⟨g, rfl⟩ := hS.sl_some 0 rfl (by omega)
    refine CW.loop (fun qq frm wl4 => ∃ (k : Nat), 1 ≤ k ∧ k ≤ n ∧ qq = n - k ∧ frm = [(0, .slice (some ⟨g, 0, none⟩) n c), (3, .int .i64 k)] ∧ St w0 wl4 μ (Own.sl (some ⟨g, 0, none⟩) n c 125 2 (xs.flatMap i2L) :: L) ∧ (dd (xs.take k) = xs.take k)) _ ⟨1, (by first | omega | (simp; done) | (simp; omega)), (by first | omega | (simp; done) | (simp; omega)), rfl, rfl, hS, dd_short (by rw [List.length_take]; omega)⟩ ⟨rfl, rfl, trivial⟩ ?_
    clear hS
    rintro qq frm wl4 ⟨k, hk1, hk, hq, rfl, hS, hd⟩
    refine CW.seq fun K7 hK7 => ?_
    refine CW.seq fun K8 hK8 => ?_
    refine CW.region [0, 1, 2, 3] rfl ?_
    refine LW.ex rfl rfl rfl rfl (Ex.move rfl) hS.rd ?_
    refine LW.ex rfl rfl rfl rfl (Ex.move rfl) hS.rd ?_
    refine LW.ex rfl rfl rfl rfl (Ex.lenSl rfl Try.underlying120 rfl) hS.rd ?_
    refine LW.ex rfl rfl rfl rfl (Ex.lss rfl rfl rfl) hS.rd ?_
    refine LW.splitB (fun h4_3 => ?_) (fun h4_3 => ?_)
    · have h4_3 := of_decide_eq_true h4_3
      refine LW.nil fun aa ha => hK8 _ _ _ ?_ aa ha
      refine CW.yes rfl ?_
      refine CW.skip fun aa ha => hK7 _ _ _ ?_ aa ha
      refine CW.seq fun K9 hK9 => ?_
      refine CW.block ?_
      refine CW.seq fun K10 hK10 => ?_
      have hk2 : k < xs.length := by omega
      have hk3 : k - 1 < xs.length := by omega
      have f0 := flat2 hkl xs k 0 hk2 (by omega) (v := .int .i64 xs[k].a) rfl
      have f1 := flat2 hkl xs k 1 hk2 (by omega) (v := .int .i64 xs[k].b) rfl
      have e0 := flat2 hkl xs (k - 1) 0 hk3 (by omega) (v := .int .i64 xs[k - 1].a) rfl
      have e1 := flat2 hkl xs (k - 1) 1 hk3 (by omega) (v := .int .i64 xs[k - 1].b) rfl
      have hdt := dd_take hk1 hk2
      have hS := hS.drew
      refine CW.draw 10 (.ex 0 <| .ex 1 <| .ex 2 <| .ex 3 <| .ex 4 <| .ex 5 <| .ex 6 <| .ex 7 <| .ex 8 <| .ex 9 <| .done) [] (Rd _ _) mixed (by kernel_rfl) rfl rfl hS.rd ?_
      refine PW.ex rfl rfl rfl rfl (Ex.move rfl) ?_
      refine PW.ex rfl rfl rfl rfl (Ex.move rfl) ?_
      refine PW.ex rfl rfl rfl rfl (Ex.indexSl Try.underlying120 ti125 rfl rfl rfl (by omega)) ?_
      refine PW.ex rfl rfl rfl rfl (Ex.load2c ti125 rfl rfl (slT (v := .int .i64 xs[k].a) (by rw [Nat.zero_add]; exact f0)) (slT (v := .int .i64 xs[k].b) (by rw [Nat.zero_add]; exact f1))) ?_
      refine PW.ex rfl rfl rfl rfl (Ex.move rfl) ?_
      refine PW.ex rfl rfl rfl rfl (Ex.move rfl) ?_
      refine PW.ex rfl rfl rfl rfl (Ex.sub rfl rfl (by first | exact dec64 (by omega) (by omega) | exact subN (by omega) (by omega) | exact w64 (by omega) (by omega))) ?_
      refine PW.ex rfl rfl rfl rfl (Ex.indexSl Try.underlying120 ti125 rfl rfl rfl (by omega)) ?_
      refine PW.ex rfl rfl rfl rfl (Ex.load2c ti125 rfl rfl (slT (v := .int .i64 xs[k - 1].a) (by rw [Nat.zero_add]; exact e0)) (slT (v := .int .i64 xs[k - 1].b) (by rw [Nat.zero_add]; exact e1))) ?_
      refine PW.ex rfl rfl rfl rfl (Ex.eqlSt (by kernel_rfl) rfl rfl (i2Eq xs[k] xs[k - 1])) ?_
      refine PW.splitB (fun h6_9 => ?_) (fun h6_9 => ?_)
      · have h6_9 := of_decide_eq_true h6_9
        refine PW.nil ?_
        refine LW.nil fun aa ha => hK10 _ _ _ ?_ aa ha
        refine CW.yes rfl ?_
        refine CW.seq fun K11 hK11 => ?_
        refine CW.region [0, 1, 2, 3] rfl ?_
        refine LW.ex rfl rfl rfl rfl (Ex.move rfl) hS.rd ?_
        refine LW.ex rfl rfl rfl rfl (Ex.move rfl) hS.rd ?_
        refine LW.ex rfl rfl rfl rfl (Ex.sliceFrom Try.underlying120 ti125 rfl rfl rfl (by omega) (by omega)) hS.rd ?_
        refine LW.ex rfl rfl rfl rfl (Ex.assign rfl) hS.rd ?_
        refine LW.nil fun aa ha => hK11 _ _ _ ?_ aa ha
        refine CW.seq fun K12 hK12 => ?_
        refine CW.seq fun K13 hK13 => ?_
        rw [if_pos h6_9.symm, hd] at hdt
        refine CW.region [0] rfl ?_
        refine LW.ex rfl rfl rfl rfl (Ex.assign rfl) hS.rd ?_
        refine LW.nil fun aa ha => hK13 _ _ _ ?_ aa ha
        refine CW.block ?_
        refine CW.loop (fun qq frm wl9 => ∃ (k2 : Nat) (q : Nat) (ys : List I2), 1 ≤ k2 ∧ k2 ≤ n - k ∧ k ≤ q ∧ q ≤ k + k2 - 1 ∧ ys.length = n ∧ qq = n - k - k2 ∧ frm = [(0, .slice (some ⟨g, 0, none⟩) n c), (3, .int .i64 q), (4, .slice (some ⟨g, 0 + k * 2, none⟩) (n - k) (c - k)), (5, .int .i64 k2)] ∧ St w0 wl9 μ (Own.sl (some ⟨g, 0, none⟩) n c 125 2 (ys.flatMap i2L) :: L) ∧ (ys.take q = dd (xs.take (k + k2))) ∧ (∀ j (h : j < ys.length) (h' : j < xs.length), k + k2 - 1 ≤ j → ys[j] = xs[j])) _ ⟨1, k, xs, (by first | omega | (simp; done) | (simp; omega)), (by first | omega | (simp; done) | (simp; omega)), (by first | omega | (simp; done) | (simp; omega)), (by first | omega | (simp; done) | (simp; omega)), (by first | omega | (simp; done) | (simp; omega)), rfl, rfl, hS, hdt.symm, fun j _ _ _ => rfl⟩ ⟨rfl, rfl, rfl, rfl, trivial⟩ ?_
        clear hS
        rintro qq frm wl9 ⟨k2, q, ys, hk21, hk22, hq1, hq2, hyl, hq, rfl, hS, hdq, hr⟩
        refine CW.seq fun K14 hK14 => ?_
        refine CW.seq fun K15 hK15 => ?_
        refine CW.region [0, 1, 2, 3] rfl ?_
        refine LW.ex rfl rfl rfl rfl (Ex.move rfl) hS.rd ?_
        refine LW.ex rfl rfl rfl rfl (Ex.move rfl) hS.rd ?_
        refine LW.ex rfl rfl rfl rfl (Ex.lenSl rfl Try.underlying120 rfl) hS.rd ?_
        refine LW.ex rfl rfl rfl rfl (Ex.lss rfl rfl rfl) hS.rd ?_
        refine LW.splitB (fun h9_3 => ?_) (fun h9_3 => ?_)
        · have h9_3 := of_decide_eq_true h9_3
          refine LW.nil fun aa ha => hK15 _ _ _ ?_ aa ha
          refine CW.yes rfl ?_
          refine CW.skip fun aa ha => hK14 _ _ _ ?_ aa ha
          refine CW.seq fun K16 hK16 => ?_
          refine CW.block ?_
          refine CW.seq fun K17 hK17 => ?_
          have hi2 : k + k2 < xs.length := by omega
          have hi3 : k + k2 - 1 < xs.length := by omega
          have hi4 : k + k2 < ys.length := by omega
          have hi5 : k + (k2 - 1) < ys.length := by omega
          have f0 := flat2 hkl ys (k + k2) 0 hi4 (by omega) (v := .int .i64 ys[k + k2].a) rfl
          have f1 := flat2 hkl ys (k + k2) 1 hi4 (by omega) (v := .int .i64 ys[k + k2].b) rfl
          have e0 := flat2 hkl ys (k + (k2 - 1)) 0 hi5 (by omega) (v := .int .i64 ys[k + (k2 - 1)].a) rfl
          have e1 := flat2 hkl ys (k + (k2 - 1)) 1 hi5 (by omega) (v := .int .i64 ys[k + (k2 - 1)].b) rfl
          have g1 := hr (k + k2) hi4 hi2 (by omega)
          have g2 := hr (k + (k2 - 1)) hi5 (by omega) (by omega)
          have hdt := dd_take (xs := xs) (i := k + k2) (by omega) hi2
          have hix : xs[k + (k2 - 1)]'(by omega) = xs[k + k2 - 1]'(by omega) := by congr 1; omega
          have hS := hS.drew
          refine CW.draw 10 (.ex 0 <| .ex 1 <| .ex 2 <| .ex 3 <| .ex 4 <| .ex 5 <| .ex 6 <| .ex 7 <| .ex 8 <| .ex 9 <| .done) [] (Rd _ _) mixed (by kernel_rfl) rfl rfl hS.rd ?_
          refine PW.ex rfl rfl rfl rfl (Ex.move rfl) ?_
          refine PW.ex rfl rfl rfl rfl (Ex.move rfl) ?_
          refine PW.ex rfl rfl rfl rfl (Ex.indexSl Try.underlying120 ti125 rfl rfl rfl (by omega)) ?_
          refine PW.ex rfl rfl rfl rfl (Ex.load2c ti125 rfl rfl (slT (v := .int .i64 ys[k + k2].a) (by rw [show 0 + k * 2 + k2 * 2 = (k + k2) * 2 + 0 by omega]; exact f0)) (slT (v := .int .i64 ys[k + k2].b) (by rw [show 0 + k * 2 + k2 * 2 + 1 = (k + k2) * 2 + 1 by omega]; exact f1))) ?_
          refine PW.ex rfl rfl rfl rfl (Ex.move rfl) ?_
          refine PW.ex rfl rfl rfl rfl (Ex.move rfl) ?_
          refine PW.ex rfl rfl rfl rfl (Ex.sub rfl rfl (by first | exact dec64 (by omega) (by omega) | exact subN (by omega) (by omega) | exact w64 (by omega) (by omega))) ?_
          refine PW.ex rfl rfl rfl rfl (Ex.indexSl Try.underlying120 ti125 rfl rfl rfl (by omega)) ?_
          refine PW.ex rfl rfl rfl rfl (Ex.load2c ti125 rfl rfl (slT (v := .int .i64 ys[k + (k2 - 1)].a) (by rw [show 0 + k * 2 + (k2 - 1) * 2 = (k + (k2 - 1)) * 2 + 0 by omega]; exact e0)) (slT (v := .int .i64 ys[k + (k2 - 1)].b) (by rw [show 0 + k * 2 + (k2 - 1) * 2 + 1 = (k + (k2 - 1)) * 2 + 1 by omega]; exact e1))) ?_
          refine PW.ex rfl rfl rfl rfl (Ex.neqSt (by kernel_rfl) rfl rfl (i2Eq ys[k + k2] ys[k + (k2 - 1)])) ?_
          refine PW.splitB (fun h11_9 => ?_) (fun h11_9 => ?_)
          · have h11_9 : ys[k + k2] ≠ ys[k + (k2 - 1)] := by simpa using h11_9
            have hne : xs[k + k2 - 1] ≠ xs[k + k2] := fun e => h11_9 (by rw [g1, g2, hix]; exact e.symm)
            rw [if_neg hne, ← hdq] at hdt
            refine PW.nil ?_
            refine LW.nil fun aa ha => hK17 _ _ _ ?_ aa ha
            refine CW.yes rfl ?_
            refine CW.seq fun K18 hK18 => ?_
            refine CW.region [0, 1, 2, 3, 4, 5, 6, 7] rfl ?_
            refine LW.ex rfl rfl rfl rfl (Ex.move rfl) hS.rd ?_
            refine LW.ex rfl rfl rfl rfl (Ex.move rfl) hS.rd ?_
            refine LW.ex rfl rfl rfl rfl (Ex.move rfl) hS.rd ?_
            refine LW.ex rfl rfl rfl rfl (Ex.move rfl) hS.rd ?_
            refine LW.ex rfl rfl rfl rfl (Ex.indexSl Try.underlying120 ti125 rfl rfl rfl (by omega)) hS.rd ?_
            refine LW.ex rfl rfl rfl rfl (Ex.load2c ti125 rfl rfl (slT (v := .int .i64 ys[k + k2].a) (by rw [show 0 + k * 2 + k2 * 2 = (k + k2) * 2 + 0 by omega]; exact f0)) (slT (v := .int .i64 ys[k + k2].b) (by rw [show 0 + k * 2 + k2 * 2 + 1 = (k + k2) * 2 + 1 by omega]; exact f1))) hS.rd ?_
            refine LW.ex rfl rfl rfl rfl (Ex.indexSl Try.underlying120 ti125 rfl rfl rfl (by omega)) hS.rd ?_
            refine LW.hu rfl rfl rfl (Hv.storeSlN (k := 0) (vs := i2L ys[k + k2]) ti125 hS rfl rfl rfl (by rw [flatMap_len hkl, hkl]; omega) (i2One _)) fun _ w_7 hS => ?_
            dsimp only [List.set] at hS
            rw [show 0 + q * 2 = q * 2 by omega, hkl, flatMap_set hkl ys q _ (by omega)] at hS
            refine LW.nil fun aa ha => hK18 _ _ _ ?_ aa ha
            refine CW.region [0, 1, 2] rfl ?_
            refine LW.ex rfl rfl rfl rfl (Ex.move rfl) hS.rd ?_
            refine LW.ex rfl rfl rfl rfl (Ex.add rfl rfl (by first | exact inc64 (by omega) | exact addN (by omega) | exact w64 (by omega) (by omega))) hS.rd ?_
            refine LW.ex rfl rfl rfl rfl (Ex.assign rfl) hS.rd ?_
            refine LW.nil fun aa ha => hK16 _ _ _ ?_ aa ha
            refine CW.region [0, 1, 2] rfl ?_
            refine LW.ex rfl rfl rfl rfl (Ex.move rfl) hS.rd ?_
            refine LW.ex rfl rfl rfl rfl (Ex.add rfl rfl (by first | exact inc64 (by omega) | exact addN (by omega) | exact w64 (by omega) (by omega))) hS.rd ?_
            refine LW.ex rfl rfl rfl rfl (Ex.assign rfl) hS.rd ?_
            refine LW.nil fun aa ha => ?_
            refine ⟨_, _, ?m9, ⟨k2 + 1, q + 1, ys.set q ys[k + k2], (by first | omega | (simp; done) | (simp; omega)), (by first | omega | (simp; done) | (simp; omega)), (by first | omega | (simp; done) | (simp; omega)), (by first | omega | (simp; done) | (simp; omega)), (by first | omega | (simp; done) | (simp; omega)), rfl, rfl, hS, by rw [← Nat.add_assoc, hdt, List.take_succ_eq_append_getElem (by rw [List.length_set]; omega), List.getElem_set_self, List.take_set_of_le (Nat.le_refl _), g1], fun j h h' hj => by rw [List.getElem_set_ne (by omega)]; exact hr j _ h' (by omega)⟩, ha.sub ⟨rfl, rfl, rfl, rfl, trivial⟩⟩
            case m9 => omega
          · have h11_9 : ys[k + k2] = ys[k + (k2 - 1)] := by simpa using h11_9
            have hne : xs[k + k2 - 1] = xs[k + k2] := by rw [g1, g2, hix] at h11_9; exact h11_9.symm
            rw [if_pos hne, ← hdq] at hdt
            refine PW.nil ?_
            refine LW.nil fun aa ha => hK17 _ _ _ ?_ aa ha
            refine CW.no rfl ?_
            refine CW.skip fun aa ha => hK16 _ _ _ ?_ aa ha
            refine CW.region [0, 1, 2] rfl ?_
            refine LW.ex rfl rfl rfl rfl (Ex.move rfl) hS.rd ?_
            refine LW.ex rfl rfl rfl rfl (Ex.add rfl rfl (by first | exact inc64 (by omega) | exact addN (by omega) | exact w64 (by omega) (by omega))) hS.rd ?_
            refine LW.ex rfl rfl rfl rfl (Ex.assign rfl) hS.rd ?_
            refine LW.nil fun aa ha => ?_
            refine ⟨_, _, ?m9, ⟨k2 + 1, q, ys, (by first | omega | (simp; done) | (simp; omega)), (by first | omega | (simp; done) | (simp; omega)), (by first | omega | (simp; done) | (simp; omega)), (by first | omega | (simp; done) | (simp; omega)), (by first | omega | (simp; done) | (simp; omega)), rfl, rfl, hS, by rw [← Nat.add_assoc, hdt], fun j h h' hj => hr j h h' (by omega)⟩, ha.sub ⟨rfl, rfl, rfl, rfl, trivial⟩⟩
            case m9 => omega
        · have h9_3 := of_decide_eq_false h9_3
          refine LW.nil fun aa ha => hK15 _ _ _ ?_ aa ha
          refine CW.no rfl ?_
          refine CW.exit fun aa ha => hK12 _ _ _ ?_ aa ha
          refine CW.seq fun K19 hK19 => ?_
          have hke : k + k2 = xs.length := by omega
          rw [hke, List.take_length] at hdq
          have hql : q < n := by omega
          have hqe : q = (dd xs).length := by rw [← hdq, List.length_take]; omega
          obtain ⟨rest, hrl, hS⟩ := hS.open_sl 0 rfl
          dsimp only [List.set] at hS
          refine CW.region [0, 1, 2, 3] rfl ?_
          refine LW.ex rfl rfl rfl rfl (Ex.move rfl) hS.rd ?_
          refine LW.ex rfl rfl rfl rfl (Ex.move rfl) hS.rd ?_
          refine LW.ex rfl rfl rfl rfl (Ex.sliceFrom Try.underlying120 ti125 rfl rfl rfl (by omega) (by omega)) hS.rd ?_
          obtain ⟨Z, hZ⟩ : ∃ Z, (Builtin.zeroCells (Value.cells (.agg #[.int .i64 0, .int .i64 0])) (n - q)).toList = Z := ⟨_, rfl⟩
          have hZl : Z.length = (n - q) * 2 := by rw [← hZ, Array.length_toList, size_zeroCells]; rfl
          have hZ1 : ∀ v ∈ Z, v.oneCell' = true := by rw [← hZ]; exact zeroCells_one
          have hzl : 0 + q * 2 + Z.length ≤ (ys.flatMap i2L ++ rest).length := by rw [hZl, List.length_append, flatMap_len hkl]; omega
          refine LW.hu rfl rfl rfl (Hv.clearObj (k := 0) rfl Try.underlying120 ti125 hZ hzl hZ1 (by omega) hS rfl rfl) fun _ w_3 hS => ?_
          replace hS := hS.2
          dsimp only [List.set] at hS
          refine LW.nil fun aa ha => hK19 _ _ _ ?_ aa ha
          refine CW.seq fun K20 hK20 => ?_
          have hS := hS.close_sl 0 rfl q c 2 (by omega) hcap2 (by simp only [List.length_append, List.length_take, List.length_drop, flatMap_len hkl, hZl, hrl]; omega)
          dsimp only [List.set] at hS
          have hcells : ((ys.flatMap i2L ++ rest).take (0 + q * 2) ++ Z ++ (ys.flatMap i2L ++ rest).drop (0 + q * 2 + Z.length)).take (q * 2) = (dd xs).flatMap i2L := by
            rw [List.append_assoc, List.take_append_of_le_length (by rw [List.length_take, List.length_append, flatMap_len hkl]; omega), Nat.zero_add, List.take_take, Nat.min_self, List.take_append_of_le_length (by rw [flatMap_len hkl]; omega), flatMap_take hkl, hdq]
          rw [hcells] at hS
          refine CW.region [0, 1, 2, 3] rfl ?_
          refine LW.ex rfl rfl rfl rfl (Ex.move rfl) hS.rd ?_
          refine LW.ex rfl rfl rfl rfl (Ex.move rfl) hS.rd ?_
          refine LW.ex rfl rfl rfl rfl (Ex.sliceTo Try.underlying120 ti125 rfl rfl rfl (by omega)) hS.rd ?_
          refine LW.ex rfl rfl rfl rfl (Ex.assign rfl) hS.rd ?_
          refine LW.nil fun aa ha => hK20 _ _ _ ?_ aa ha
          refine CW.ret fun aa ha => ?_
          refine ret_one ha Try.results75 rfl ?_
          exact ⟨_, rfl, by rw [hqe], by rw [← hqe]; exact hS⟩
      · have h6_9 := of_decide_eq_false h6_9
        refine PW.nil ?_
        refine LW.nil fun aa ha => hK10 _ _ _ ?_ aa ha
        refine CW.no rfl ?_
        refine CW.skip fun aa ha => hK9 _ _ _ ?_ aa ha
        refine CW.region [0, 1, 2] rfl ?_
        refine LW.ex rfl rfl rfl rfl (Ex.move rfl) hS.rd ?_
        refine LW.ex rfl rfl rfl rfl (Ex.add rfl rfl (by first | exact inc64 (by omega) | exact addN (by omega) | exact w64 (by omega) (by omega))) hS.rd ?_
        refine LW.ex rfl rfl rfl rfl (Ex.assign rfl) hS.rd ?_
        refine LW.nil fun aa ha => ?_
        refine ⟨_, _, ?m4, ⟨k + 1, (by first | omega | (simp; done) | (simp; omega)), (by first | omega | (simp; done) | (simp; omega)), rfl, rfl, hS, by rw [hdt, if_neg (fun e => h6_9 e.symm), hd, List.take_succ_eq_append_getElem hk2]⟩, ha.sub ⟨rfl, rfl, trivial⟩⟩
        case m4 => omega
    · have h4_3 := of_decide_eq_false h4_3
      refine LW.nil fun aa ha => hK8 _ _ _ ?_ aa ha
      refine CW.no rfl ?_
      refine CW.exit fun aa ha => hK5 _ _ _ ?_ aa ha
      refine CW.seq fun K21 hK21 => ?_
      refine CW.region [0, 1] rfl ?_
      refine LW.ex rfl rfl rfl rfl (Ex.move rfl) hS.rd ?_
      refine LW.ex rfl rfl rfl rfl (Ex.assign rfl) hS.rd ?_
      refine LW.nil fun aa ha => hK21 _ _ _ ?_ aa ha
      refine CW.ret fun aa ha => ?_
      refine ret_one ha Try.results75 rfl ?_
      have hke : k = xs.length := by omega
      rw [hke, List.take_length] at hd
      exact ⟨_, rfl, by rw [hd, hn], by rw [hd, ← hn]; exact hS⟩
end Go.Proofs.Ytgnpjhellmfhoaa

