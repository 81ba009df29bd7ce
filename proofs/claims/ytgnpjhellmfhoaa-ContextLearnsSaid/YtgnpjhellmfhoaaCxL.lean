/-
  Costs of words: the logarithm, and that it does not decrease.
-/
import Derived.Test.YtgnpjhellmfhoaaSort
namespace Go.Proofs.Ytgnpjhellmfhoaa
def logN (n : Nat) : Nat := 8 * Nat.log2 n + 8 * (n - 2 ^ Nat.log2 n) / 2 ^ Nat.log2 n
theorem logN_lo {n : Nat} (h : 1 ≤ n) : 2 ^ Nat.log2 n ≤ n := Nat.log2_self_le (by omega)
theorem logN_hi (n : Nat) : n < 2 ^ (Nat.log2 n + 1) := Nat.lt_log2_self
theorem logN_lt {n : Nat} (_h : 1 ≤ n) : logN n < 8 * (Nat.log2 n + 1) := by
  unfold logN
  have h1 := logN_hi n
  have h2 : 0 < 2 ^ Nat.log2 n := Nat.two_pow_pos _
  have h3 : 8 * (n - 2 ^ Nat.log2 n) / 2 ^ Nat.log2 n < 8 := by
    rw [Nat.div_lt_iff_lt_mul h2]; rw [Nat.pow_succ] at h1; omega
  omega
theorem logN_mono {m n : Nat} (h1 : 1 ≤ m) (h : m ≤ n) : logN m ≤ logN n := by
  have hk : Nat.log2 m ≤ Nat.log2 n := (Nat.le_log2 (by omega)).2 (Nat.le_trans (logN_lo h1) h)
  by_cases he : Nat.log2 m = Nat.log2 n
  · unfold logN; rw [he]
    exact Nat.add_le_add_left (Nat.div_le_div_right (by omega)) _
  · have := logN_lt h1
    have h4 : 8 * Nat.log2 n ≤ logN n := Nat.le_add_right _ _
    omega
/-- The program's form. -/
theorem logN_small {n k : Nat} (hk : k = Nat.log2 n) : logN n = 8 * k + (8 * (n - 2 ^ k)) / 2 ^ k := by unfold logN; rw [hk]
theorem logN_great {n k : Nat} (hk : k = Nat.log2 n) (h3 : 3 ≤ k) : logN n = 8 * k + (n - 2 ^ k) / 2 ^ (k - 3) := by
  unfold logN; rw [hk]
  have : (2 : Nat) ^ Nat.log2 n = 8 * 2 ^ (Nat.log2 n - 3) := by
    rw [show (8 : Nat) = 2 ^ 3 from rfl, ← Nat.pow_add]; congr 1; omega
  rw [show 8 * (n - 2 ^ Nat.log2 n) / 2 ^ Nat.log2 n = (n - 2 ^ Nat.log2 n) / 2 ^ (Nat.log2 n - 3) by
    conv => lhs; rhs; rw [this]
    exact Nat.mul_div_mul_left _ _ (by decide)]
end Go.Proofs.Ytgnpjhellmfhoaa
