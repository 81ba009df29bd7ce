/-
  Context: the walks of the two logarithms.
-/
import Derived.Test.YtgnpjhellmfhoaaCxB
namespace Go.Proofs.Ytgnpjhellmfhoaa
open Go.RowKit Sy

def logZ (n : Int) : Int := if n < 1 then 0 else (logN n.toNat : Int)
theorem log2_le {n k : Nat} (h : 1 ≤ n) (hk : k ≤ Nat.log2 n) : 2 ^ k ≤ n := Nat.le_trans (Nat.pow_le_pow_right (by decide) hk) (logN_lo h)
theorem log2_62 {n : Nat} (h : 1 ≤ n) (hn : n < 2 ^ 62) : Nat.log2 n < 62 := (Nat.log2_lt (by omega)).2 hn
theorem shrN (n k : Nat) : ((n : Int)).fdiv (2 ^ k) = ((n / 2 ^ k : Nat) : Int) := by
  rw [Int.fdiv_eq_ediv_of_nonneg _ (by exact_mod_cast Nat.zero_le _)]; norm_cast
theorem log2_step {n k : Nat} (h : 1 < n / 2 ^ k) : k + 1 ≤ Nat.log2 n := by
  have h1 : 2 ^ k * 2 ≤ n := by
    have := (Nat.le_div_iff_mul_le (Nat.two_pow_pos k)).1 (show 2 ≤ n / 2 ^ k from h)
    omega
  have h2 : 0 < n := by have := Nat.two_pow_pos k; omega
  exact (Nat.le_log2 (by omega)).2 (by rw [Nat.pow_succ]; exact h1)
theorem log2_stop {n k : Nat} (h0 : 1 ≤ n) (hk : k ≤ Nat.log2 n) (h : ¬ 1 < n / 2 ^ k) : k = Nat.log2 n := by
  have h1 : n < 2 ^ k * 2 := by
    have := Nat.lt_mul_of_div_lt (show n / 2 ^ k < 2 by omega) (Nat.two_pow_pos k)
    omega
  have h2 : Nat.log2 n < k + 1 := (Nat.log2_lt (by omega)).2 (by rw [Nat.pow_succ]; exact h1)
  omega

theorem shrM {x y : Int} {a j p d : Nat} (hx : x = (a : Int)) (hp : p = 2 ^ j) (hy : y = (j : Int)) (hd : d = a / p) : x.fdiv (2 ^ y.toNat) = (d : Int) := by
  subst hx hy hp hd; rw [Int.toNat_natCast]; exact shrN a j
theorem shlN {k p : Nat} (hp : p = 2 ^ k) (h : p < 4611686018427387904) : IntKind.i64.wrap (1 * 2 ^ (Int.toNat (k : Int))) = (p : Int) := by
  have e : (1 * 2 ^ (Int.toNat (k : Int)) : Int) = (p : Int) := by rw [Int.toNat_natCast, hp]; norm_cast; omega
  rw [e]; exact w64 (by omega) (by omega)
set_option maxRecDepth 100000 in
theorem log_c (n : Int) (hn : n < 4611686018427387904) (w : World) : Calls Try.prog 71 #[.int .i64 n] w (RetS w (.int .i64 (logZ n))) := by
  have hS := St.start w (fun _ => none) (fun _ _ h => by cases h)
  refine calls_start 34 [.int .i64 n] Try.func71 rfl Try.ntmps71 rfl rfl ?_
  refine CW.seq fun K1 hK1 => ?_
  refine CW.region [0] rfl ?_
  refine LW.ex rfl rfl rfl rfl (Ex.assign rfl) hS.rd ?_
  refine LW.nil fun aa ha => hK1 _ _ _ ?_ aa ha
  refine CW.seq fun K2 hK2 => ?_
  refine CW.seq fun K3 hK3 => ?_
  refine CW.region [0, 1] rfl ?_
  refine LW.ex rfl rfl rfl rfl (Ex.move rfl) hS.rd ?_
  refine LW.ex rfl rfl rfl rfl (Ex.lss rfl rfl rfl) hS.rd ?_
  refine LW.splitB (fun h1_1 => ?_) (fun h1_1 => ?_)
  · have h1_1 := of_decide_eq_true h1_1
    refine LW.nil fun aa ha => hK3 _ _ _ ?_ aa ha
    refine CW.yes rfl ?_
    refine CW.seq fun K4 hK4 => ?_
    refine CW.region [0] rfl ?_
    refine LW.ex rfl rfl rfl rfl (Ex.assign rfl) hS.rd ?_
    refine LW.nil fun aa ha => hK4 _ _ _ ?_ aa ha
    refine CW.ret fun aa ha => ?_
    refine ret_one ha Try.results71 rfl ?_
    exact hS.retE (by unfold logZ; rw [if_pos (by omega)])
  · have h1_1 := of_decide_eq_false h1_1
    refine LW.nil fun aa ha => hK3 _ _ _ ?_ aa ha
    refine CW.no rfl ?_
    refine CW.skip fun aa ha => hK2 _ _ _ ?_ aa ha
    refine CW.seq fun K5 hK5 => ?_
    obtain ⟨N, rfl⟩ : ∃ N : Nat, n = N := ⟨n.toNat, by omega⟩
    have hlog := log2_62 (n := N) (by omega) (by omega)
    refine CW.region [0] rfl ?_
    refine LW.ex rfl rfl rfl rfl (Ex.assign rfl) hS.rd ?_
    refine LW.nil fun aa ha => hK5 _ _ _ ?_ aa ha
    refine CW.seq fun K6 hK6 => ?_
    refine CW.block ?_
    refine CW.loop (fun qq frm wl4 => ∃ (k : Nat), k ≤ Nat.log2 N ∧ qq = Nat.log2 N - k ∧ frm = [(0, .int .i64 (N : Int)), (3, .int .i64 k)] ∧ St w wl4 (fun _ => none) []) _ ⟨0, (by first | omega | (simp; done) | (simp; omega)), rfl, rfl, hS⟩ ⟨rfl, rfl, trivial⟩ ?_
    clear hS
    rintro qq frm wl4 ⟨k, hk, hq, rfl, hS⟩
    refine CW.seq fun K7 hK7 => ?_
    refine CW.seq fun K8 hK8 => ?_
    refine CW.region [0, 1, 2, 3] rfl ?_
    refine LW.ex rfl rfl rfl rfl (Ex.move rfl) hS.rd ?_
    refine LW.ex rfl rfl rfl rfl (Ex.move rfl) hS.rd ?_
    refine LW.ex rfl rfl rfl rfl (Ex.shr rfl rfl (by omega) (show (Int.toNat (k : Int)) ≤ 64 by omega) (shrN N k)) hS.rd ?_
    refine LW.ex rfl rfl rfl rfl (Ex.gtr rfl rfl rfl) hS.rd ?_
    refine LW.splitB (fun h4_3 => ?_) (fun h4_3 => ?_)
    · have h4_3 := of_decide_eq_true h4_3
      refine LW.nil fun aa ha => hK8 _ _ _ ?_ aa ha
      refine CW.yes rfl ?_
      refine CW.skip fun aa ha => hK7 _ _ _ ?_ aa ha
      refine CW.block ?_
      have hk1 := log2_step (n := N) (k := k) (by exact_mod_cast h4_3)
      refine CW.region [0, 1, 2] rfl ?_
      refine LW.ex rfl rfl rfl rfl (Ex.move rfl) hS.rd ?_
      refine LW.ex rfl rfl rfl rfl (Ex.add rfl rfl (by first | exact inc64 (by omega) | exact addN (by omega) | exact w64 (by omega) (by omega))) hS.rd ?_
      refine LW.ex rfl rfl rfl rfl (Ex.assign rfl) hS.rd ?_
      refine LW.nil fun aa ha => ?_
      refine ⟨_, _, ?m4, ⟨k + 1, (by first | omega | (simp; done) | (simp; omega)), rfl, rfl, hS⟩, ha.sub ⟨rfl, rfl, trivial⟩⟩
      case m4 => omega
    · have h4_3 := of_decide_eq_false h4_3
      refine LW.nil fun aa ha => hK8 _ _ _ ?_ aa ha
      refine CW.no rfl ?_
      refine CW.exit fun aa ha => hK6 _ _ _ ?_ aa ha
      refine CW.seq fun K9 hK9 => ?_
      refine CW.seq fun K10 hK10 => ?_
      have hkk := log2_stop (n := N) (k := k) (by omega) hk (by exact_mod_cast h4_3)
      have hp := logN_lo (n := N) (by omega)
      rw [← hkk] at hp
      have hp2 : 2 ^ k < 4611686018427387904 := Nat.pow_lt_pow_right (by decide) (show k < 62 by omega)
      obtain ⟨p, hpe⟩ : ∃ p, p = 2 ^ k := ⟨_, rfl⟩
      have hp0 : 0 < p := by rw [hpe]; exact Nat.two_pow_pos k
      rw [← hpe] at hp hp2
      have hp3 := logN_hi N
      rw [← hkk, Nat.pow_succ, ← hpe] at hp3
      refine CW.region [0, 1] rfl ?_
      refine LW.ex rfl rfl rfl rfl (Ex.move rfl) hS.rd ?_
      refine LW.ex rfl rfl rfl rfl (Ex.lss rfl rfl rfl) hS.rd ?_
      refine LW.splitB (fun h6_1 => ?_) (fun h6_1 => ?_)
      · have h6_1 := of_decide_eq_true h6_1
        refine LW.nil fun aa ha => hK10 _ _ _ ?_ aa ha
        refine CW.yes rfl ?_
        refine CW.seq fun K11 hK11 => ?_
        have hp4 : p ≤ 4 := by rw [hpe]; exact Nat.pow_le_pow_right (by decide) (show k ≤ 2 by omega)
        have hd : 8 * (N - p) / p ≤ 8 * (N - p) := Nat.div_le_self _ _
        obtain ⟨d8, hd8⟩ : ∃ d8, d8 = 8 * (N - p) / p := ⟨_, rfl⟩
        rw [← hd8] at hd
        refine CW.region [0, 1, 2, 3, 4, 5, 6, 7, 8, 9, 10] rfl ?_
        refine LW.ex rfl rfl rfl rfl (Ex.move rfl) hS.rd ?_
        refine LW.ex rfl rfl rfl rfl (Ex.mul rfl rfl (by first | exact w64 (by omega) (by omega))) hS.rd ?_
        refine LW.ex rfl rfl rfl rfl (Ex.move rfl) hS.rd ?_
        refine LW.ex rfl rfl rfl rfl (Ex.move rfl) hS.rd ?_
        refine LW.ex rfl rfl rfl rfl (Ex.shl rfl rfl (by omega) (show (Int.toNat (k : Int)) ≤ 64 by omega) (shlN hpe (by omega))) hS.rd ?_
        refine LW.ex rfl rfl rfl rfl (Ex.sub rfl rfl (by first | exact dec64 (by omega) (by omega) | exact subN (by omega) (by omega) | exact w64 (by omega) (by omega))) hS.rd ?_
        refine LW.ex rfl rfl rfl rfl (Ex.mul rfl rfl (by first | exact w64 (by omega) (by omega))) hS.rd ?_
        refine LW.ex rfl rfl rfl rfl (Ex.move rfl) hS.rd ?_
        refine LW.ex rfl rfl rfl rfl (Ex.shr rfl rfl (by omega) (show (Int.toNat (k : Int)) ≤ 64 by omega) (shrM (j := k) (a := 8 * (N - p)) (by omega) hpe (by omega) hd8)) hS.rd ?_
        refine LW.ex rfl rfl rfl rfl (Ex.add rfl rfl (by first | exact inc64 (by omega) | exact addN (by omega) | exact w64 (by omega) (by omega))) hS.rd ?_
        refine LW.ex rfl rfl rfl rfl (Ex.assign rfl) hS.rd ?_
        refine LW.nil fun aa ha => hK11 _ _ _ ?_ aa ha
        refine CW.ret fun aa ha => ?_
        refine ret_one ha Try.results71 rfl ?_
        exact hS.retE (by unfold logZ; rw [if_neg (by omega), Int.toNat_natCast, logN_small hkk, ← hpe, ← hd8]; congr 1)
      · have h6_1 := of_decide_eq_false h6_1
        refine LW.nil fun aa ha => hK10 _ _ _ ?_ aa ha
        refine CW.no rfl ?_
        refine CW.skip fun aa ha => hK9 _ _ _ ?_ aa ha
        refine CW.seq fun K12 hK12 => ?_
        obtain ⟨p8, hp8⟩ : ∃ p8, p8 = 2 ^ (k - 3) := ⟨_, rfl⟩
        have hd : (N - p) / p8 ≤ N - p := Nat.div_le_self _ _
        obtain ⟨d8, hd8⟩ : ∃ d8, d8 = (N - p) / p8 := ⟨_, rfl⟩
        rw [← hd8] at hd
        refine CW.region [0, 1, 2, 3, 4, 5, 6, 7, 8, 9, 10] rfl ?_
        refine LW.ex rfl rfl rfl rfl (Ex.move rfl) hS.rd ?_
        refine LW.ex rfl rfl rfl rfl (Ex.mul rfl rfl (by first | exact w64 (by omega) (by omega))) hS.rd ?_
        refine LW.ex rfl rfl rfl rfl (Ex.move rfl) hS.rd ?_
        refine LW.ex rfl rfl rfl rfl (Ex.move rfl) hS.rd ?_
        refine LW.ex rfl rfl rfl rfl (Ex.shl rfl rfl (by omega) (show (Int.toNat (k : Int)) ≤ 64 by omega) (shlN hpe (by omega))) hS.rd ?_
        refine LW.ex rfl rfl rfl rfl (Ex.sub rfl rfl (by first | exact dec64 (by omega) (by omega) | exact subN (by omega) (by omega) | exact w64 (by omega) (by omega))) hS.rd ?_
        refine LW.ex rfl rfl rfl rfl (Ex.move rfl) hS.rd ?_
        refine LW.ex rfl rfl rfl rfl (Ex.sub rfl rfl (by first | exact dec64 (by omega) (by omega) | exact subN (by omega) (by omega) | exact w64 (by omega) (by omega))) hS.rd ?_
        refine LW.ex rfl rfl rfl rfl (Ex.shr rfl rfl (by omega) (show (Int.toNat ((k : Int) - 3)) ≤ 64 by omega) (shrM (j := k - 3) (a := N - p) (by omega) hp8 (by omega) hd8)) hS.rd ?_
        refine LW.ex rfl rfl rfl rfl (Ex.add rfl rfl (by first | exact inc64 (by omega) | exact addN (by omega) | exact w64 (by omega) (by omega))) hS.rd ?_
        refine LW.ex rfl rfl rfl rfl (Ex.assign rfl) hS.rd ?_
        refine LW.nil fun aa ha => hK12 _ _ _ ?_ aa ha
        refine CW.ret fun aa ha => ?_
        refine ret_one ha Try.results71 rfl ?_
        exact hS.retE (by unfold logZ; rw [if_neg (by omega), Int.toNat_natCast, logN_great hkk (by omega), ← hpe, ← hp8, ← hd8]; congr 1)
theorem log2_step2 {n k : Nat} (h : 2 ^ k ≤ n / 2) : k + 1 ≤ Nat.log2 n := by
  have h2 : 0 < n := by have := Nat.two_pow_pos k; omega
  exact (Nat.le_log2 (by omega)).2 (by rw [Nat.pow_succ]; omega)
theorem log2_stop2 {n k : Nat} (h0 : 1 ≤ n) (hk : k ≤ Nat.log2 n) (h : ¬ 2 ^ k ≤ n / 2) : k = Nat.log2 n := by
  have h2 : Nat.log2 n < k + 1 := (Nat.log2_lt (by omega)).2 (by rw [Nat.pow_succ]; omega)
  omega
theorem tdivN (a b : Nat) : ((a : Int)).tdiv (b : Int) = ((a / b : Nat) : Int) := by rw [Int.ofNat_tdiv]
theorem tdivM {x y : Int} {a b d : Nat} (hx : x = (a : Int)) (hy : y = (b : Int)) (hd : d = a / b) : x.tdiv y = (d : Int) := by
  subst hx hy hd; exact tdivN a b
theorem tdivW {x y : Int} {a b d : Nat} (hx : x = (a : Int)) (hy : y = (b : Int)) (hd : d = a / b) (h : d ≤ 9223372036854775807) : IntKind.i64.wrap (x.tdiv y) = (d : Int) := by
  rw [tdivM hx hy hd]; exact w64 (by omega) (by omega)

set_option maxRecDepth 100000 in
theorem reflog_c (n : Int) (hn : n < 4611686018427387904) (w : World) : Calls Try.prog 44 #[.int .i64 n] w (RetS w (.int .i64 (logZ n))) := by
  have hS := St.start w (fun _ => none) (fun _ _ h => by cases h)
  refine calls_start 35 [.int .i64 n] Try.func44 rfl Try.ntmps44 rfl rfl ?_
  refine CW.seq fun K13 hK13 => ?_
  refine CW.region [0] rfl ?_
  refine LW.ex rfl rfl rfl rfl (Ex.assign rfl) hS.rd ?_
  refine LW.nil fun aa ha => hK13 _ _ _ ?_ aa ha
  refine CW.seq fun K14 hK14 => ?_
  refine CW.seq fun K15 hK15 => ?_
  refine CW.region [0, 1] rfl ?_
  refine LW.ex rfl rfl rfl rfl (Ex.move rfl) hS.rd ?_
  refine LW.ex rfl rfl rfl rfl (Ex.lss rfl rfl rfl) hS.rd ?_
  refine LW.splitB (fun h1_1 => ?_) (fun h1_1 => ?_)
  · have h1_1 := of_decide_eq_true h1_1
    refine LW.nil fun aa ha => hK15 _ _ _ ?_ aa ha
    refine CW.yes rfl ?_
    refine CW.seq fun K16 hK16 => ?_
    refine CW.region [0] rfl ?_
    refine LW.ex rfl rfl rfl rfl (Ex.assign rfl) hS.rd ?_
    refine LW.nil fun aa ha => hK16 _ _ _ ?_ aa ha
    refine CW.ret fun aa ha => ?_
    refine ret_one ha Try.results44 rfl ?_
    exact hS.retE (by unfold logZ; rw [if_pos (by omega)])
  · have h1_1 := of_decide_eq_false h1_1
    refine LW.nil fun aa ha => hK15 _ _ _ ?_ aa ha
    refine CW.no rfl ?_
    refine CW.skip fun aa ha => hK14 _ _ _ ?_ aa ha
    refine CW.seq fun K17 hK17 => ?_
    obtain ⟨N, rfl⟩ : ∃ N : Nat, n = N := ⟨n.toNat, by omega⟩
    have hlog := log2_62 (n := N) (by omega) (by omega)
    refine CW.region [0, 1] rfl ?_
    refine LW.ex rfl rfl rfl rfl (Ex.assign rfl) hS.rd ?_
    refine LW.ex rfl rfl rfl rfl (Ex.assign rfl) hS.rd ?_
    refine LW.nil fun aa ha => hK17 _ _ _ ?_ aa ha
    refine CW.seq fun K18 hK18 => ?_
    refine CW.block ?_
    refine CW.loop (fun qq frm wl4 => ∃ (k : Nat) (p : Nat), k ≤ Nat.log2 N ∧ p = 2 ^ k ∧ p ≤ N ∧ qq = Nat.log2 N - k ∧ frm = [(0, .int .i64 (N : Int)), (3, .int .i64 k), (4, .int .i64 p)] ∧ St w wl4 (fun _ => none) []) _ ⟨0, 1, (by first | omega | (simp; done) | (simp; omega)), (by first | omega | (simp; done) | (simp; omega)), (by first | omega | (simp; done) | (simp; omega)), rfl, rfl, hS⟩ ⟨rfl, rfl, rfl, trivial⟩ ?_
    clear hS
    rintro qq frm wl4 ⟨k, p, hk, hp, hpn, hq, rfl, hS⟩
    refine CW.seq fun K19 hK19 => ?_
    refine CW.seq fun K20 hK20 => ?_
    refine CW.region [0, 1, 2, 3] rfl ?_
    refine LW.ex rfl rfl rfl rfl (Ex.move rfl) hS.rd ?_
    refine LW.ex rfl rfl rfl rfl (Ex.move rfl) hS.rd ?_
    refine LW.ex rfl rfl rfl rfl (Ex.quo rfl rfl (by omega) (tdivW (a := N) (b := 2) rfl rfl rfl (by omega))) hS.rd ?_
    refine LW.ex rfl rfl rfl rfl (Ex.leq rfl rfl rfl) hS.rd ?_
    refine LW.splitB (fun h4_3 => ?_) (fun h4_3 => ?_)
    · have h4_3 := of_decide_eq_true h4_3
      refine LW.nil fun aa ha => hK20 _ _ _ ?_ aa ha
      refine CW.yes rfl ?_
      refine CW.skip fun aa ha => hK19 _ _ _ ?_ aa ha
      refine CW.block ?_
      have hk1 := log2_step2 (n := N) (k := k) (by rw [← hp]; omega)
      refine CW.region [0, 1, 2, 3, 4, 5] rfl ?_
      refine LW.ex rfl rfl rfl rfl (Ex.move rfl) hS.rd ?_
      refine LW.ex rfl rfl rfl rfl (Ex.add rfl rfl (by first | exact inc64 (by omega) | exact addN (by omega) | exact w64 (by omega) (by omega))) hS.rd ?_
      refine LW.ex rfl rfl rfl rfl (Ex.move rfl) hS.rd ?_
      refine LW.ex rfl rfl rfl rfl (Ex.mul rfl rfl (by first | exact w64 (by omega) (by omega))) hS.rd ?_
      refine LW.ex rfl rfl rfl rfl (Ex.assign rfl) hS.rd ?_
      refine LW.ex rfl rfl rfl rfl (Ex.assign rfl) hS.rd ?_
      refine LW.nil fun aa ha => ?_
      refine ⟨_, _, ?m4, ⟨k + 1, 2 * p, (by first | omega | (simp; done) | (simp; omega)), (by first | omega | (simp; done) | (simp; omega)), (by first | omega | (simp; done) | (simp; omega)), rfl, rfl, hS⟩, ha.sub ⟨rfl, rfl, rfl, trivial⟩⟩
      case m4 => omega
    · have h4_3 := of_decide_eq_false h4_3
      refine LW.nil fun aa ha => hK20 _ _ _ ?_ aa ha
      refine CW.no rfl ?_
      refine CW.exit fun aa ha => hK18 _ _ _ ?_ aa ha
      refine CW.seq fun K21 hK21 => ?_
      refine CW.seq fun K22 hK22 => ?_
      have hkk := log2_stop2 (n := N) (k := k) (by omega) hk (by rw [← hp]; omega)
      have hp0 : 0 < p := by rw [hp]; exact Nat.two_pow_pos k
      have hp3 := logN_hi N
      rw [← hkk, Nat.pow_succ, ← hp] at hp3
      refine CW.region [0, 1] rfl ?_
      refine LW.ex rfl rfl rfl rfl (Ex.move rfl) hS.rd ?_
      refine LW.ex rfl rfl rfl rfl (Ex.lss rfl rfl rfl) hS.rd ?_
      refine LW.splitB (fun h6_1 => ?_) (fun h6_1 => ?_)
      · have h6_1 := of_decide_eq_true h6_1
        refine LW.nil fun aa ha => hK22 _ _ _ ?_ aa ha
        refine CW.yes rfl ?_
        refine CW.seq fun K23 hK23 => ?_
        have hd : 8 * (N - p) / p ≤ 8 * (N - p) := Nat.div_le_self _ _
        obtain ⟨d8, hd8⟩ : ∃ d8, d8 = 8 * (N - p) / p := ⟨_, rfl⟩
        rw [← hd8] at hd
        refine CW.region [0, 1, 2, 3, 4, 5, 6, 7, 8, 9] rfl ?_
        refine LW.ex rfl rfl rfl rfl (Ex.move rfl) hS.rd ?_
        refine LW.ex rfl rfl rfl rfl (Ex.mul rfl rfl (by first | exact w64 (by omega) (by omega))) hS.rd ?_
        refine LW.ex rfl rfl rfl rfl (Ex.move rfl) hS.rd ?_
        refine LW.ex rfl rfl rfl rfl (Ex.move rfl) hS.rd ?_
        refine LW.ex rfl rfl rfl rfl (Ex.sub rfl rfl (by first | exact dec64 (by omega) (by omega) | exact subN (by omega) (by omega) | exact w64 (by omega) (by omega))) hS.rd ?_
        refine LW.ex rfl rfl rfl rfl (Ex.mul rfl rfl (by first | exact w64 (by omega) (by omega))) hS.rd ?_
        refine LW.ex rfl rfl rfl rfl (Ex.move rfl) hS.rd ?_
        refine LW.ex rfl rfl rfl rfl (Ex.quo rfl rfl (by omega) (tdivW (a := 8 * (N - p)) (b := p) (by omega) rfl hd8 (by omega))) hS.rd ?_
        refine LW.ex rfl rfl rfl rfl (Ex.add rfl rfl (by first | exact inc64 (by omega) | exact addN (by omega) | exact w64 (by omega) (by omega))) hS.rd ?_
        refine LW.ex rfl rfl rfl rfl (Ex.assign rfl) hS.rd ?_
        refine LW.nil fun aa ha => hK23 _ _ _ ?_ aa ha
        refine CW.ret fun aa ha => ?_
        refine ret_one ha Try.results44 rfl ?_
        exact hS.retE (by unfold logZ; rw [if_neg (by omega), Int.toNat_natCast, logN_small hkk, ← hp, ← hd8]; congr 1)
      · have h6_1 := of_decide_eq_false h6_1
        refine LW.nil fun aa ha => hK22 _ _ _ ?_ aa ha
        refine CW.no rfl ?_
        refine CW.skip fun aa ha => hK21 _ _ _ ?_ aa ha
        refine CW.seq fun K24 hK24 => ?_
        have h3k : 3 ≤ k := by
          by_cases h : 3 ≤ k
          · exact h
          · have : p ≤ 4 := by rw [hp]; exact Nat.pow_le_pow_right (by decide) (show k ≤ 2 by omega)
            omega
        obtain ⟨p8, hp8⟩ : ∃ p8, p8 = 2 ^ (k - 3) := ⟨_, rfl⟩
        have hpp : p = 8 * p8 := by rw [hp, hp8, show (8 : Nat) = 2 ^ 3 from rfl, ← Nat.pow_add]; congr 1; omega
        have hd : (N - p) / p8 ≤ N - p := Nat.div_le_self _ _
        obtain ⟨d8, hd8⟩ : ∃ d8, d8 = (N - p) / p8 := ⟨_, rfl⟩
        rw [← hd8] at hd
        refine CW.region [0, 1, 2, 3, 4, 5, 6, 7, 8, 9] rfl ?_
        refine LW.ex rfl rfl rfl rfl (Ex.move rfl) hS.rd ?_
        refine LW.ex rfl rfl rfl rfl (Ex.mul rfl rfl (by first | exact w64 (by omega) (by omega))) hS.rd ?_
        refine LW.ex rfl rfl rfl rfl (Ex.move rfl) hS.rd ?_
        refine LW.ex rfl rfl rfl rfl (Ex.move rfl) hS.rd ?_
        refine LW.ex rfl rfl rfl rfl (Ex.sub rfl rfl (by first | exact dec64 (by omega) (by omega) | exact subN (by omega) (by omega) | exact w64 (by omega) (by omega))) hS.rd ?_
        refine LW.ex rfl rfl rfl rfl (Ex.move rfl) hS.rd ?_
        refine LW.ex rfl rfl rfl rfl (Ex.quo rfl rfl (by omega) (tdivW (a := p) (b := 8) (d := p8) rfl rfl (by omega) (by omega))) hS.rd ?_
        refine LW.ex rfl rfl rfl rfl (Ex.quo rfl rfl (by omega) (tdivW (a := N - p) (b := p8) (by omega) rfl hd8 (by omega))) hS.rd ?_
        refine LW.ex rfl rfl rfl rfl (Ex.add rfl rfl (by first | exact inc64 (by omega) | exact addN (by omega) | exact w64 (by omega) (by omega))) hS.rd ?_
        refine LW.ex rfl rfl rfl rfl (Ex.assign rfl) hS.rd ?_
        refine LW.nil fun aa ha => hK24 _ _ _ ?_ aa ha
        refine CW.ret fun aa ha => ?_
        refine ret_one ha Try.results44 rfl ?_
        exact hS.retE (by unfold logZ; rw [if_neg (by omega), Int.toNat_natCast, logN_great hkk h3k, ← hp, ← hp8, ← hd8]; congr 1)
end Go.Proofs.Ytgnpjhellmfhoaa

