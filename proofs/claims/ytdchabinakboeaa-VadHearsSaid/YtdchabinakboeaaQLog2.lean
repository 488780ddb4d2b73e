/- Logarithms in 256ths, as the program tells them: lemmas for the laws. -/
import Derived.Test.YtdchabinakboeaaQLen
import Derived.Test.YtdchabinakboeaaMLog
import Derived.Test.YtdchabinakboeaaPx4
namespace Go.Proofs.Ytdchabinakboeaa.Q
open Go.RowKit Go.Proofs.Ytdchabinakboeaa.P Go.Proofs.YtdchabinakboeaaW.PrintWords Go.Proofs.YtdchabinakboeaaW.PrintLast Go.Proofs.YtdchabinakboeaaW.PrintMore
open Go.Proofs.Ytdchabinakboeaa.M
set_option linter.unusedVariables false

theorem uw64 {x : Int} (h0 : 0 ≤ x) (h1 : x < 18446744073709551616) : IntKind.u64.wrap x = x := by
  show x % 18446744073709551616 = x
  exact Int.emod_eq_of_lt h0 h1
theorem log2_l0 (n : Nat) : ∀ (m o i : Int), 1073741824 ≤ m → m < 2147483648 → 0 ≤ o → o * 2 ^ n + 2 ^ n ≤ 1000000 → i + n = 8 → 0 ≤ i →
    Ev (fun k => fix_Log2.l0 k m o i) (l2 n m o) := by
  induction n with
  | zero =>
    intro m o i h0 h1 ho hb hi hi0
    refine Ev.step (fun k => by rw [fix_Log2.l0]) ?_
    exact evNeg (by omega) (Ev.now _)
  | succ n ih =>
    intro m o i h0 h1 ho hb hi hi0
    refine Ev.step (fun k => by rw [fix_Log2.l0]) ?_
    refine evPos (by omega) ?_
    have hin := l2_in h0 h1
    have hsq := sq_le (show 0 ≤ m by omega) (show m ≤ 2147483647 by omega)
    have hsq0 : 0 ≤ m * m := Int.mul_nonneg (by omega) (by omega)
    rw [uw64 hsq0 (by omega)]
    have hp : (0 : Int) < 2 ^ n := Int.pow_pos (by omega)
    have ep : (2 : Int) ^ (n + 1) = 2 * 2 ^ n := by rw [Int.pow_succ]; omega
    rw [ep] at hb
    have e0 : o * (2 * 2 ^ n) = o * 2 * 2 ^ n := by rw [Int.mul_assoc]
    have e1 : (o * 2 + 1) * 2 ^ n = o * 2 * 2 ^ n + 2 ^ n := by rw [Int.add_mul]; omega
    have e2 : o * 2 ≤ o * 2 * 2 ^ n := by
      have := Int.mul_le_mul_of_nonneg_left (show (1 : Int) ≤ 2 ^ n by omega) (show 0 ≤ o * 2 by omega)
      omega
    unfold l2
    rw [w64 (x := o * 2) (by omega) (by omega), w64 (x := o * 2 + 1) (by omega) (by omega), w64 (x := i + 1) (by omega) (by omega)]
    refine evIte (fun h => ?_) (fun h => ?_)
    · rw [if_pos h]
      exact ih _ _ _ (by omega) (by omega) (by omega) (by omega) (by omega) (by omega)
    · rw [if_neg h]
      exact ih _ _ _ (by omega) (by omega) (by omega) (by omega) (by omega) (by omega)
theorem bl_le {a : Int} (h1 : a ≤ 9223372036854775807) : bl a ≤ 63 := by
  by_cases h : 1 ≤ a
  · by_cases hc : 64 ≤ bl a
    · have lo := bl_lo h
      have hm : (2 : Int) ^ 63 ≤ 2 ^ (bl a - 1).toNat := by
        have hn : (2 : Nat) ^ 63 ≤ 2 ^ (bl a - 1).toNat := Nat.pow_le_pow_right (by omega) (by omega)
        exact_mod_cast hn
      have e : (2 : Int) ^ 63 = 9223372036854775808 := by decide
      omega
    · omega
  · unfold bl; rw [if_pos (by omega)]; omega
theorem fix_log2 (a : Int) (h1 : a ≤ 9223372036854775807) : Ev (fun k => fix_Log2.f k a) (log2 a) := by
  refine Ev.congr (fun k => by rw [fix_Log2.f]) ?_
  refine evIte (fun h => ?_) (fun h => ?_)
  · exact evConst (by unfold log2; rw [if_pos h])
  · have ha : 1 ≤ a := by omega
    have g := bl_ge ha
    have g2 := bl_le h1
    have mi := mant_in ha
    have hj : ∀ m, m = mant a → Ev (fun k => fix_Log2.j0 k (bl a) m) (log2 a) := by
      intro m hm
      subst hm
      refine Ev.step (fun k => by rw [fix_Log2.j0]) ?_
      rw [log2_pos ha, w64 (x := bl a - 1) (by omega) (by omega)]
      exact log2_l0 8 _ _ 0 mi.1 mi.2 (by omega) (by omega) (by omega) (by omega)
    refine Ev.bind (fix_len a h1) ?_
    rw [uw64 (x := a) (by omega) (by omega)]
    refine evIte (fun hb => ?_) (fun hb => ?_)
    · rw [w64 (x := bl a - 31) (by omega) (by omega)]
      refine evPos (by omega) (hj _ ?_)
      unfold mant shr
      rw [if_pos hb, show IntKind.u64.bits = 64 from rfl, Nat.min_eq_left (by omega)]
    · rw [w64 (x := 31 - bl a) (by omega) (by omega)]
      refine evPos (by omega) (hj _ ?_)
      have e : mant a = a * 2 ^ (31 - bl a).toNat := by unfold mant; rw [if_neg hb]
      unfold shl
      rw [show IntKind.u64.bits = 64 from rfl, Nat.min_eq_left (by omega), ← e]
      exact uw64 (by omega) (by omega)
end Go.Proofs.Ytdchabinakboeaa.Q
