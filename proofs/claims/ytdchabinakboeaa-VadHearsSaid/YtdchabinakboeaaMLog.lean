/- Logarithms in 256ths, as numbers: lemmas for the laws. -/
import Derived.Test.YtdchabinakboeaaM0
namespace Go.Proofs.Ytdchabinakboeaa.M
set_option linter.unusedVariables false
theorem sq_le {a b : Int} (h0 : 0 ≤ a) (h : a ≤ b) : a * a ≤ b * b := Int.mul_le_mul h h h0 (by omega)
theorem bl_mono {a b : Int} (h : a ≤ b) : bl a ≤ bl b := by
  by_cases ha : 1 ≤ a
  · by_cases hc : bl b < bl a
    · have h1 := bl_lo ha
      have h2 := bl_hi (show 1 ≤ b by omega)
      have h3 : (2 : Int) ^ (bl b).toNat ≤ 2 ^ (bl a - 1).toNat := by
        have hn : (2 : Nat) ^ (bl b).toNat ≤ 2 ^ (bl a - 1).toNat := Nat.pow_le_pow_right (by omega) (by omega)
        exact_mod_cast hn
      omega
    · omega
  · have e : bl a = 0 := by unfold bl; rw [if_pos (by omega)]
    rw [e]
    by_cases hb : 1 ≤ b
    · have := bl_ge hb; omega
    · unfold bl; rw [if_pos (by omega)]; omega
/-- The rounds of a logarithm. -/
def l2 : Nat → Int → Int → Int
  | 0, _, o => o
  | n + 1, m, o => if m * m / 1073741824 ≥ 2147483648 then l2 n (m * m / 1073741824 / 2) (o * 2 + 1) else l2 n (m * m / 1073741824) (o * 2)
theorem l2_in {m : Int} (h0 : 1073741824 ≤ m) (h1 : m < 2147483648) : 1073741824 ≤ m * m / 1073741824 ∧ m * m / 1073741824 < 4294967296 := by
  have a := sq_le (by omega) h0
  have b := sq_le (show 0 ≤ m by omega) (show m ≤ 2147483647 by omega)
  omega
theorem l2_range : ∀ (n : Nat) (m o : Int), o * 2 ^ n ≤ l2 n m o ∧ l2 n m o < (o + 1) * 2 ^ n
  | 0, _, o => by simp [l2]; omega
  | n + 1, m, o => by
    unfold l2
    have hp : (0 : Int) < 2 ^ n := Int.pow_pos (by omega)
    have e1 : o * 2 ^ (n + 1) = o * 2 * 2 ^ n := by rw [Int.pow_succ, Int.mul_assoc, Int.mul_comm (2 ^ n) 2]
    have e2 : (o + 1) * 2 ^ (n + 1) = (o * 2 + 2) * 2 ^ n := by rw [Int.pow_succ, show o * 2 + 2 = (o + 1) * 2 by omega, Int.mul_assoc, Int.mul_comm (2 ^ n) 2]
    rw [e1, e2]
    split
    · have h := l2_range n (m * m / 1073741824 / 2) (o * 2 + 1)
      have e3 : (o * 2 + 1) * 2 ^ n = o * 2 * 2 ^ n + 2 ^ n := by rw [Int.add_mul]; omega
      rw [show o * 2 + 1 + 1 = o * 2 + 2 by omega] at h
      omega
    · have h := l2_range n (m * m / 1073741824) (o * 2)
      have e3 : (o * 2 + 2) * 2 ^ n = (o * 2 + 1) * 2 ^ n + 2 ^ n := by rw [show o * 2 + 2 = (o * 2 + 1) + 1 by omega, Int.add_mul (o * 2 + 1)]; omega
      omega
theorem l2_mono : ∀ (n : Nat) (m m' o o' : Int), 1073741824 ≤ m → m < 2147483648 → 1073741824 ≤ m' → m' < 2147483648 → (o < o' ∨ o = o' ∧ m ≤ m') → l2 n m o ≤ l2 n m' o'
  | 0, _, _, o, o', _, _, _, _, h => by simp only [l2]; omega
  | n + 1, m, m', o, o', h0, h1, h2, h3, h => by
    have b := l2_in h0 h1
    have b' := l2_in h2 h3
    unfold l2
    rcases h with h | ⟨rfl, h⟩
    · split <;> split <;> exact l2_mono n _ _ _ _ (by omega) (by omega) (by omega) (by omega) (by omega)
    · have hs := sq_le (show 0 ≤ m by omega) h
      have hq : m * m / 1073741824 ≤ m' * m' / 1073741824 := Int.ediv_le_ediv (by omega) hs
      split <;> split <;> exact l2_mono n _ _ _ _ (by omega) (by omega) (by omega) (by omega) (by omega)
theorem l2_add : ∀ (n : Nat) (m o d : Int), l2 n m (o + d) = l2 n m o + d * 2 ^ n
  | 0, _, _, _ => by simp [l2]
  | n + 1, m, o, d => by
    unfold l2
    have e : d * 2 ^ (n + 1) = d * 2 * 2 ^ n := by rw [Int.pow_succ, Int.mul_assoc, Int.mul_comm (2 ^ n) 2]
    split
    · rw [show (o + d) * 2 + 1 = o * 2 + 1 + d * 2 by omega, l2_add n, e]
    · rw [show (o + d) * 2 = o * 2 + d * 2 by omega, l2_add n, e]
/-- A number's first 31 bits. -/
def mant (a : Int) : Int := if bl a > 31 then a / 2 ^ (bl a - 31).toNat else a * 2 ^ (31 - bl a).toNat
theorem mant_in {a : Int} (h : 1 ≤ a) : 1073741824 ≤ mant a ∧ mant a < 2147483648 := by
  have lo := bl_lo h
  have hi := bl_hi h
  have g := bl_ge h
  unfold mant
  split
  · rename_i hb
    have hp : (0 : Int) < 2 ^ (bl a - 31).toNat := Int.pow_pos (by omega)
    constructor
    · rw [Int.le_ediv_iff_mul_le hp]
      have e : (bl a - 1).toNat = 30 + (bl a - 31).toNat := by omega
      rw [e, Int.pow_add] at lo
      exact lo
    · rw [Int.ediv_lt_iff_lt_mul hp]
      have e : (bl a).toNat = 31 + (bl a - 31).toNat := by omega
      rw [e, Int.pow_add] at hi
      exact hi
  · rename_i hb
    have hp : (0 : Int) < 2 ^ (31 - bl a).toNat := Int.pow_pos (by omega)
    have e1 : (2 : Int) ^ (bl a - 1).toNat * 2 ^ (31 - bl a).toNat = 1073741824 := by
      rw [← Int.pow_add, show (bl a - 1).toNat + (31 - bl a).toNat = 30 by omega]; decide
    have e2 : (2 : Int) ^ (bl a).toNat * 2 ^ (31 - bl a).toNat = 2147483648 := by
      rw [← Int.pow_add, show (bl a).toNat + (31 - bl a).toNat = 31 by omega]; decide
    have m1 := Int.mul_le_mul_of_nonneg_right lo (Int.le_of_lt hp)
    have m2 := Int.mul_lt_mul_of_pos_right hi hp
    omega
theorem mant_mono {a b : Int} (h : 1 ≤ a) (hab : a ≤ b) (he : bl a = bl b) : mant a ≤ mant b := by
  unfold mant
  rw [he]
  split
  · exact Int.ediv_le_ediv (Int.pow_pos (by omega)) hab
  · exact Int.mul_le_mul_of_nonneg_right hab (Int.le_of_lt (Int.pow_pos (by omega)))
/-- A logarithm, in 256ths. -/
def log2 (a : Int) : Int := if a < 1 then 0 else l2 8 (mant a) (bl a - 1)
theorem log2_pos {a : Int} (h : 1 ≤ a) : log2 a = l2 8 (mant a) (bl a - 1) := by unfold log2; rw [if_neg (by omega)]
theorem log2_nonneg (a : Int) : 0 ≤ log2 a := by
  by_cases h : 1 ≤ a
  · rw [log2_pos h]
    have r := (l2_range 8 (mant a) (bl a - 1)).1
    have g := bl_ge h
    omega
  · unfold log2; rw [if_pos (by omega)]; omega
theorem log2_mono {a b : Int} (h : a ≤ b) : log2 a ≤ log2 b := by
  by_cases ha : 1 ≤ a
  · rw [log2_pos ha, log2_pos (show 1 ≤ b by omega)]
    have m1 := mant_in ha
    have m2 := mant_in (show 1 ≤ b by omega)
    have hb := bl_mono h
    refine l2_mono 8 _ _ _ _ m1.1 m1.2 m2.1 m2.2 ?_
    by_cases e : bl a = bl b
    · exact .inr ⟨by omega, mant_mono ha h e⟩
    · exact .inl (by omega)
  · have e : log2 a = 0 := by unfold log2; rw [if_pos (by omega)]
    rw [e]; exact log2_nonneg b
theorem bl_four {a : Int} (h : 1 ≤ a) : bl (4 * a) = bl a + 2 := by
  have lo := bl_lo h
  have hi := bl_hi h
  have g := bl_ge h
  have e := bl_unique (a := 4 * a) (n := (bl a - 1).toNat + 2) (by rw [Int.pow_add, show (2 : Int) ^ 2 = 4 by decide]; omega) (by
    rw [show (bl a - 1).toNat + 2 + 1 = (bl a).toNat + 2 by omega, Int.pow_add, show (2 : Int) ^ 2 = 4 by decide]; omega)
  rw [e]; omega
theorem log2_four {a : Int} (h : 1 ≤ a) (h31 : bl a + 2 ≤ 31) : log2 (4 * a) = log2 a + 512 := by
  have g := bl_ge h
  rw [log2_pos h, log2_pos (show 1 ≤ 4 * a by omega), bl_four h, show bl a + 2 - 1 = bl a - 1 + 2 by omega, l2_add]
  have e : mant (4 * a) = mant a := by
    unfold mant
    rw [bl_four h, if_neg (by omega), if_neg (by omega)]
    rw [show (31 - bl a).toNat = 2 + (31 - (bl a + 2)).toNat by omega, Int.pow_add, show (2 : Int) ^ 2 = 4 by decide, ← Int.mul_assoc, Int.mul_comm a 4]
  rw [e]; rfl
end Go.Proofs.Ytdchabinakboeaa.M
