/- Roots, bit by bit: definitions and lemmas for the laws. -/
import Derived.Test.YtlhdoopmlpnhlaaMFix
namespace Go.Proofs.Ytlhdoopmlpnhlaa.M
set_option linter.unusedVariables false
/-- The root, with the powers of two below 2^n still to come. -/
def sqrtL : Nat → Int → Int → Int
  | 0, _, R => R
  | n + 1, a, R => if R * R + 2 * (R * 2 ^ n) + 2 ^ n * 2 ^ n ≤ a then sqrtL n a (R + 2 ^ n) else sqrtL n a R
def root (a : Int) : Int := if a < 0 then 0 else sqrtL 32 a 0
theorem sq_add (R P : Int) : (R + P) * (R + P) = R * R + 2 * (R * P) + P * P := by
  rw [Int.add_mul, Int.mul_add, Int.mul_add, Int.mul_comm P R]; omega
theorem sqrtL_spec : ∀ (n : Nat) (a R : Int), 0 ≤ R → R * R ≤ a → a < (R + 2 ^ n) * (R + 2 ^ n) → 0 ≤ sqrtL n a R ∧ sqrtL n a R * sqrtL n a R ≤ a ∧ a < (sqrtL n a R + 1) * (sqrtL n a R + 1)
  | 0, a, R, h0, h1, h2 => ⟨h0, h1, by simpa [sqrtL] using h2⟩
  | n + 1, a, R, h0, h1, h2 => by
    have hp : (0 : Int) < 2 ^ n := Int.pow_pos (by omega)
    have e := sq_add R (2 ^ n)
    unfold sqrtL
    split
    · refine sqrtL_spec n a (R + 2 ^ n) (by omega) (by omega) ?_
      have e3 : R + 2 ^ n + 2 ^ n = R + 2 ^ (n + 1) := by rw [pow_next]; omega
      rw [e3]; exact h2
    · exact sqrtL_spec n a R h0 h1 (by omega)
theorem root_spec {a : Int} (h0 : 0 ≤ a) (h1 : a ≤ 9223372036854775807) : 0 ≤ root a ∧ root a * root a ≤ a ∧ a < (root a + 1) * (root a + 1) := by
  unfold root
  rw [if_neg (by omega)]
  exact sqrtL_spec 32 a 0 (by omega) (by omega) (by have : ((0 : Int) + 2 ^ 32) * (0 + 2 ^ 32) = 18446744073709551616 := by decide
                                                    omega)
theorem root_nonneg (a : Int) (h1 : a ≤ 9223372036854775807) : 0 ≤ root a := by
  by_cases h : 0 ≤ a
  · exact (root_spec h h1).1
  · unfold root; rw [if_pos (by omega)]; omega
theorem sq_lt {a b : Int} (h0 : 0 ≤ a) (h : a ≤ b) : a * a ≤ b * b := Int.mul_le_mul h h h0 (by omega)
theorem root_mono {a b : Int} (h : a ≤ b) (h1 : b ≤ 9223372036854775807) : root a ≤ root b := by
  by_cases ha : 0 ≤ a
  · have A := root_spec ha (by omega)
    have B := root_spec (a := b) (by omega) h1
    by_cases hc : root b < root a
    · have := sq_lt (a := root b + 1) (b := root a) (by omega) (by omega)
      omega
    · omega
  · have := root_nonneg b h1
    have e : root a = 0 := by unfold root; rw [if_pos (by omega)]
    omega
end Go.Proofs.Ytlhdoopmlpnhlaa.M
