/- Roots, as the program finds them: lemmas for the laws. -/
import Derived.Test.YtlhdoopmlpnhlaaQLog2
import Derived.Test.YtlhdoopmlpnhlaaMSqrt
import Derived.Test.YtlhdoopmlpnhlaaPx9
namespace Go.Proofs.Ytlhdoopmlpnhlaa.Q
open Go.RowKit Go.Proofs.Ytlhdoopmlpnhlaa.P Go.Proofs.YtlhdoopmlpnhlaaW.PrintWords Go.Proofs.YtlhdoopmlpnhlaaW.PrintLast Go.Proofs.YtlhdoopmlpnhlaaW.PrintMore
open Go.Proofs.Ytlhdoopmlpnhlaa.M
set_option linter.unusedVariables false

def bitN : Nat → Int
  | 0 => 0
  | n + 1 => 2 ^ n * 2 ^ n
theorem bitN_next (n : Nat) : bitN (n + 1) / 4 = bitN n := by
  cases n with
  | zero => decide
  | succ n =>
    show 2 ^ (n + 1) * 2 ^ (n + 1) / 4 = 2 ^ n * 2 ^ n
    have e : (2 : Int) ^ (n + 1) * 2 ^ (n + 1) = 4 * (2 ^ n * 2 ^ n) := by
      rw [pow_next, Int.mul_assoc, Int.mul_left_comm (2 ^ n) 2 (2 ^ n)]; omega
    rw [e]
    exact Int.mul_ediv_cancel_left _ (by omega)
theorem sqrt_l0 (a : Int) (ha : a ≤ 9223372036854775807) (n : Nat) : ∀ (R rest r bit : Int), n ≤ 32 → 0 ≤ R → R * R ≤ a → rest = a - R * R → r = R * 2 ^ n → bit = bitN n →
    Ev (fun k => fix_Sqrt.l0 k rest r bit) (sqrtL n a R) := by
  induction n with
  | zero =>
    intro R rest r bit hn h0 h1 hrest hr hb
    refine Ev.step (fun k => by rw [fix_Sqrt.l0]) ?_
    have e : bit = 0 := hb
    have e2 : r = R := by rw [hr]; simp
    have hR : R ≤ 3037000499 := by
      by_cases hc : 3037000500 ≤ R
      · have := sq_lt (a := 3037000500) (b := R) (by omega) hc
        omega
      · omega
    refine evNeg (by omega) ?_
    rw [w64 (by omega) (by omega), e2]
    exact Ev.now _
  | succ n ih =>
    intro R rest r bit hn h0 h1 hrest hr hb
    have hR : R ≤ 3037000499 := by
      by_cases hc : 3037000500 ≤ R
      · have := sq_lt (a := 3037000500) (b := R) (by omega) hc
        omega
      · omega
    have hp1 : (0 : Int) < 2 ^ n := Int.pow_pos (by omega)
    have hp2 : (2 : Int) ^ n ≤ 2 ^ 31 := pow_most (by omega)
    have eb : bit = 2 ^ n * 2 ^ n := hb
    have er : r = 2 * (R * 2 ^ n) := by rw [hr, pow_next, Int.mul_left_comm]
    have z1 := prod_le (x := 2 ^ n) (y := 2 ^ n) (a := 2147483648) (b := 2147483648) (by omega) (by omega)
    have z0 : 0 < (2 : Int) ^ n * 2 ^ n := Int.mul_pos hp1 hp1
    have y1 := prod_le (x := R) (y := 2 ^ n) (a := 3037000499) (b := 2147483648) (by omega) (by omega)
    have y0 : 0 ≤ R * 2 ^ n := Int.mul_nonneg h0 (by omega)
    have x0 : 0 ≤ R * R := Int.mul_nonneg h0 h0
    have es := sq_add R (2 ^ n)
    have e4 : bit / 4 = bitN n := by rw [hb]; exact bitN_next n
    refine Ev.step (fun k => by rw [fix_Sqrt.l0]) ?_
    refine evPos (by omega) ?_
    rw [uw64 (x := r + bit) (by omega) (by omega)]
    have er2 : r / 2 = R * 2 ^ n := by omega
    unfold sqrtL
    refine evIte (fun h => ?_) (fun h => ?_)
    · rw [if_pos (by omega), uw64 (x := rest - (r + bit)) (by omega) (by omega), uw64 (x := r / 2 + bit) (by omega) (by omega)]
      refine ih (R + 2 ^ n) _ _ _ (by omega) (by omega) (by omega) (by omega) ?_ e4
      rw [Int.add_mul]; omega
    · rw [if_neg (by omega)]
      exact ih R _ _ _ (by omega) h0 h1 hrest er2 e4
theorem fix_sqrt (a : Int) (ha : a ≤ 9223372036854775807) : Ev (fun k => fix_Sqrt.f k a) (root a) := by
  refine Ev.congr (fun k => by rw [fix_Sqrt.f]) ?_
  unfold root
  refine evIte (fun h => ?_) (fun h => ?_)
  · rw [if_pos h]; exact Ev.now _
  · rw [if_neg h, uw64 (x := a) (by omega) (by omega)]
    exact sqrt_l0 a ha 32 0 a 0 _ (by omega) (by omega) (by omega) (by omega) (by omega) (by decide)
end Go.Proofs.Ytlhdoopmlpnhlaa.Q
