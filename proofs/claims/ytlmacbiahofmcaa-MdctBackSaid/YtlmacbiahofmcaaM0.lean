/- Whole numbers: definitions and small lemmas for the laws. -/
namespace Go.Proofs.Ytlmacbiahofmcaa.M
set_option linter.unusedVariables false
/-- Numbers brought between two others. -/
def clamp (a lo hi : Int) : Int := if lo > hi ∨ a < lo then lo else if a > hi then hi else a
theorem clamp_bounds {a lo hi : Int} (h : lo ≤ hi) : lo ≤ clamp a lo hi ∧ clamp a lo hi ≤ hi := by
  unfold clamp; repeat' split
  all_goals omega
theorem clamp_id {a lo hi : Int} (h1 : lo ≤ a) (h2 : a ≤ hi) : clamp a lo hi = a := by
  unfold clamp; repeat' split
  all_goals omega
/-- A number brought into 16 bits. -/
def sat (a : Int) : Int := clamp a (-32768) 32767
theorem sat_bounds (a : Int) : -32768 ≤ sat a ∧ sat a ≤ 32767 := clamp_bounds (by omega)
/-- How many bits a number has. -/
def bl (a : Int) : Int := if a ≤ 0 then 0 else (Nat.log2 a.toNat : Int) + 1
theorem bl_pos {a : Int} (h : 1 ≤ a) : bl a = (Nat.log2 a.toNat : Int) + 1 := by unfold bl; rw [if_neg (by omega)]
theorem bl_lo {a : Int} (h : 1 ≤ a) : (2 : Int) ^ (bl a - 1).toNat ≤ a := by
  rw [bl_pos h]
  have h1 : 2 ^ Nat.log2 a.toNat ≤ a.toNat := Nat.log2_self_le (by omega)
  have e : ((Nat.log2 a.toNat : Int) + 1 - 1).toNat = Nat.log2 a.toNat := by omega
  rw [e]
  have h2 : ((2 ^ Nat.log2 a.toNat : Nat) : Int) ≤ (a.toNat : Int) := by exact_mod_cast h1
  rw [Int.toNat_of_nonneg (by omega)] at h2
  simpa using h2
theorem bl_hi {a : Int} (h : 1 ≤ a) : a < (2 : Int) ^ (bl a).toNat := by
  rw [bl_pos h]
  have h1 : a.toNat < 2 ^ (Nat.log2 a.toNat + 1) := Nat.lt_log2_self
  have e : ((Nat.log2 a.toNat : Int) + 1).toNat = Nat.log2 a.toNat + 1 := by omega
  rw [e]
  have h2 : (a.toNat : Int) < ((2 ^ (Nat.log2 a.toNat + 1) : Nat) : Int) := by exact_mod_cast h1
  rw [Int.toNat_of_nonneg (by omega)] at h2
  simpa using h2
theorem bl_ge {a : Int} (h : 1 ≤ a) : 1 ≤ bl a := by rw [bl_pos h]; omega
theorem bl_unique {a : Int} {n : Nat} (h1 : (2 : Int) ^ n ≤ a) (h2 : a < (2 : Int) ^ (n + 1)) : bl a = n + 1 := by
  have hp : (0 : Int) < (2 : Int) ^ n := Int.pow_pos (by omega)
  have h : 1 ≤ a := by omega
  rw [bl_pos h]
  have e1 : 2 ^ n ≤ a.toNat := by
    have : ((2 ^ n : Nat) : Int) ≤ (a.toNat : Int) := by rw [Int.toNat_of_nonneg (by omega)]; simpa using h1
    exact_mod_cast this
  have e2 : a.toNat < 2 ^ (n + 1) := by
    have : (a.toNat : Int) < ((2 ^ (n + 1) : Nat) : Int) := by rw [Int.toNat_of_nonneg (by omega)]; simpa using h2
    exact_mod_cast this
  have hn : a.toNat ≠ 0 := by omega
  have f1 : n ≤ Nat.log2 a.toNat := (Nat.le_log2 hn).2 e1
  have f2 : Nat.log2 a.toNat < n + 1 := (Nat.log2_lt hn).2 e2
  omega
end Go.Proofs.Ytlmacbiahofmcaa.M
