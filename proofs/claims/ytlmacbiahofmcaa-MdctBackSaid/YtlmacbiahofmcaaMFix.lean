/- Factors, products rounded, quotients rounded down: definitions and small lemmas for the laws. -/
import Derived.Test.YtlmacbiahofmcaaM0
namespace Go.Proofs.Ytlmacbiahofmcaa.M
set_option linter.unusedVariables false
/-- A factor, in its bounds. -/
def fac (a : Int) : Int := clamp a (-2147483648) 2147483648
theorem fac_bounds (a : Int) : -2147483648 ≤ fac a ∧ fac a ≤ 2147483648 := clamp_bounds (by omega)
theorem fac_id {a : Int} (h1 : -2147483648 ≤ a) (h2 : a ≤ 2147483648) : fac a = a := clamp_id h1 h2
/-- A product, divided by a power of two, rounded. -/
def mul (a b s : Int) : Int := if s = 0 then fac a * fac b else if s < 0 then 0 else if s > 62 then 0 else (fac a * fac b + 2 ^ (s - 1).toNat) / 2 ^ s.toNat
theorem prod_le {x y : Int} {a b : Nat} (hx : x.natAbs ≤ a) (hy : y.natAbs ≤ b) : -((a * b : Nat) : Int) ≤ x * y ∧ x * y ≤ ((a * b : Nat) : Int) := by
  have h : (x * y).natAbs ≤ a * b := by rw [Int.natAbs_mul]; exact Nat.mul_le_mul hx hy
  omega
theorem fac_prod (a b : Int) : -4611686018427387904 ≤ fac a * fac b ∧ fac a * fac b ≤ 4611686018427387904 := by
  have h1 := fac_bounds a
  have h2 := fac_bounds b
  have h := prod_le (x := fac a) (y := fac b) (a := 2147483648) (b := 2147483648) (by omega) (by omega)
  omega
theorem pow_most {n m : Nat} (h : n ≤ m) : (2 : Int) ^ n ≤ 2 ^ m := by
  have hn : (2 : Nat) ^ n ≤ 2 ^ m := Nat.pow_le_pow_right (by omega) h
  exact_mod_cast hn
theorem pow_61 {n : Nat} (h : n ≤ 61) : (1 : Int) ≤ 2 ^ n ∧ (2 : Int) ^ n ≤ 2305843009213693952 :=
  ⟨by have h1 : (0 : Int) < 2 ^ n := Int.pow_pos (by omega)
      omega, by have := pow_most h; simpa using this⟩
theorem pow_next (n : Nat) : (2 : Int) ^ (n + 1) = 2 * 2 ^ n := by rw [Int.pow_succ]; omega
theorem fac_mono {a b : Int} (h : a ≤ b) : fac a ≤ fac b := by
  unfold fac clamp; repeat' split
  all_goals omega
theorem mul_mono {a b c s : Int} (h : a ≤ b) (hc : 0 ≤ c) : mul a c s ≤ mul b c s := by
  have h0 : 0 ≤ fac c := by
    unfold fac clamp; repeat' split
    all_goals omega
  have hf : fac a * fac c ≤ fac b * fac c := Int.mul_le_mul_of_nonneg_right (fac_mono h) h0
  unfold mul; split
  · exact hf
  · split
    · exact Int.le_refl _
    · split
      · exact Int.le_refl _
      · exact Int.ediv_le_ediv (Int.pow_pos (by omega)) (by omega)
end Go.Proofs.Ytlmacbiahofmcaa.M
