/- Roots, logarithms and powers undo one another, within a little; without conditions. -/
import Derived.Test.YtlhdoopmlpnhlaaPx28
import Derived.Test.YtlhdoopmlpnhlaaQSqrt
import Derived.Test.YtlhdoopmlpnhlaaQMul
import Derived.Test.YtlhdoopmlpnhlaaQExpLog
import Derived.Test.YtlhdoopmlpnhlaaQAwake1
namespace Go.Proofs.Ytlhdoopmlpnhlaa.Pure
open Go.RowKit Go.Proofs.Ytlhdoopmlpnhlaa.P Go.Proofs.YtlhdoopmlpnhlaaW.PrintWords Go.Proofs.YtlhdoopmlpnhlaaW.PrintLast Go.Proofs.YtlhdoopmlpnhlaaW.PrintMore
open Go.Proofs.Ytlhdoopmlpnhlaa.M Go.Proofs.Ytlhdoopmlpnhlaa.Q
set_option linter.unusedVariables false

theorem exp2_bounds (q : Int) (h0 : 2048 ≤ q) (h1 : q ≤ 7900) : exp2 q ≤ 9223372036854775807 := by
  have e2 : exp2 q = (expN q.toNat : Int) := by unfold exp2; rw [clamp_id (by omega) (by omega)]
  have h := expN_mono (a := q.toNat) (b := 7935) (by omega) (by omega)
  have e : expN 7935 ≤ 9223372036854775807 := by decide +kernel
  omega
theorem holds_j3 (q : Int) (hq : -9223372036854775808 ≤ q ∧ q ≤ 9223372036854775807) : Ev (fun k => madrigallaw1_FixHolds.j3 k q false) true := by
  have hj : ∀ b, (b = false → 2048 ≤ q ∧ q ≤ 7900) → Ev (fun k => madrigallaw1_FixHolds.j4 k q b) true := by
    intro b hb
    refine Ev.step (fun k => by rw [madrigallaw1_FixHolds.j4]) ?_
    refine evIte (fun _ => Ev.now _) (fun h => ?_)
    have h2 := hb (by simpa using h)
    have h3 := exp_log h2.1 h2.2
    have h4 := exp2_bounds q h2.1 h2.2
    refine Ev.bind (fix_exp2 q) (Ev.bind (fix_log2 _ h4) ?_)
    rw [w64 (x := log2 (exp2 q) - q) (by omega) (by omega)]
    refine evPos (by omega) (evConst ?_)
    rw [decide_eq_true (by omega)]
  refine Ev.step (fun k => by rw [madrigallaw1_FixHolds.j3]) ?_
  refine evNeg (by simp) (evIte (fun _ => hj true (by simp)) (fun h => hj _ (fun h2 => ?_)))
  have h3 : ¬ q > 7900 := of_decide_eq_false h2
  omega
theorem FixHolds : madrigallaw1_FixHolds.Pure := by
  intro a q ha hq
  simp only [Lit.wf, IntKind.min, IntKind.max, IntKind.signed, IntKind.bits, Bool.and_eq_true, decide_eq_true_eq, if_true] at ha hq
  refine Ev.rounds (g := fun k => madrigallaw1_FixHolds.f k a q) ?_
  refine Ev.congr (fun k => by rw [madrigallaw1_FixHolds.f]) (Ev.bind awake1 (evPos rfl ?_))
  have h0 : ∀ b, (b = false → 1 ≤ a ∧ a ≤ 4611686018427387904) → Ev (fun k => madrigallaw1_FixHolds.j0 k a q b) true := by
    intro b hb
    refine Ev.step (fun k => by rw [madrigallaw1_FixHolds.j0]) ?_
    refine evIte (fun _ => Ev.now _) (fun h => ?_)
    have hr := hb (by simpa using h)
    have R := root_spec (a := a) (by omega) (by omega)
    have hr1 : 1 ≤ root a := by
      by_cases hc : root a = 0
      · rw [hc] at R; omega
      · omega
    have hr2 : root a ≤ 2147483648 := by
      by_cases hc : 2147483649 ≤ root a
      · have := sq_lt (a := 2147483649) (b := root a) (by omega) hc
        omega
      · omega
    have e := sq_add (root a) 1
    have hj : Ev (fun k => madrigallaw1_FixHolds.j1 k a q false) true := by
      refine Ev.step (fun k => by rw [madrigallaw1_FixHolds.j1]) ?_
      refine evNeg (by simp) (Ev.bind (fix_len a (by omega)) ?_)
      have g := bl_ge (a := a) (by omega)
      have g2 := bl_le (a := a) (by omega)
      have lo := bl_lo (a := a) (by omega)
      have hi := bl_hi (a := a) (by omega)
      have en : (bl a).toNat = (bl a - 1).toNat + 1 := by omega
      rw [en, pow_next] at hi
      have hp : (0 : Int) < 2 ^ (bl a - 1).toNat := Int.pow_pos (by omega)
      refine evNeg (by omega) (evNeg (by omega) ?_)
      rw [w64 (x := bl a - 1) (by omega) (by omega), uw64 (x := bl a - 1) (by omega) (by omega), shr_64 (by omega)]
      have e1 : a / 2 ^ (bl a - 1).toNat = 1 := by
        generalize (2 : Int) ^ (bl a - 1).toNat = p at lo hi hp ⊢
        have hmod := Int.emod_nonneg a (show p ≠ 0 by omega)
        have hlt := Int.emod_lt_of_pos a hp
        have hd := Int.mul_ediv_add_emod a p
        have hq1 : 1 ≤ a / p := by rw [Int.le_ediv_iff_mul_le hp]; omega
        have hq2 : a / p < 2 := by rw [Int.ediv_lt_iff_lt_mul hp]; omega
        omega
      rw [e1]
      refine evPos (by omega) ?_
      have l2r := l2_range 8 (mant a) (bl a - 1)
      refine Ev.step (fun k => by rw [madrigallaw1_FixHolds.j2]) ?_
      refine evNeg (by simp) (Ev.bind (fix_log2 a (by omega)) ?_)
      rw [log2_pos (by omega)]
      rw [w64 (x := bl a - 1) (by omega) (by omega), w64 (x := 256 * (bl a - 1)) (by omega) (by omega), w64 (x := 256 * bl a) (by omega) (by omega)]
      have h256 : (2 : Int) ^ 8 = 256 := by decide
      rw [h256] at l2r
      refine evNeg (by omega) ?_
      rw [decide_eq_false (by omega)]
      exact holds_j3 q (by omega)
    refine Ev.bind (fix_sqrt a (by omega)) ?_
    rw [w64 (x := root a * root a) (by omega) (by omega), w64 (x := root a + 1) (by omega) (by omega), w64 (x := (root a + 1) * (root a + 1)) (by omega) (by omega)]
    refine evNeg (by omega) (evNeg (by omega) (evIte (fun _ => ?_) (fun _ => hj)))
    rw [decide_eq_false (by omega)]
    exact hj
  refine evIte (fun _ => h0 true (by simp)) (fun h1 => h0 _ (fun h2 => ?_))
  have h3 : ¬ a > 4611686018427387904 := of_decide_eq_false h2
  omega
end Go.Proofs.Ytlhdoopmlpnhlaa.Pure
