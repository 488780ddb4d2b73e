/- Cosine and sine lie on the circle, go round, are even and odd, and turn by quarters: without conditions. -/
import Derived.Test.YtlhdoopmlpnhlaaPx29
import Derived.Test.YtlhdoopmlpnhlaaQCos
import Derived.Test.YtlhdoopmlpnhlaaQAwake1
namespace Go.Proofs.Ytlhdoopmlpnhlaa.Pure
open Go.RowKit Go.Proofs.Ytlhdoopmlpnhlaa.P Go.Proofs.YtlhdoopmlpnhlaaW.PrintWords Go.Proofs.YtlhdoopmlpnhlaaW.PrintLast Go.Proofs.YtlhdoopmlpnhlaaW.PrintMore
open Go.Proofs.Ytlhdoopmlpnhlaa.M Go.Proofs.Ytlhdoopmlpnhlaa.Q
set_option linter.unusedVariables false

/-- What a turned angle answers, told by the quarter's number. -/
theorem turns (a : Int) : ∃ c s : Int, cosI a = c ∧ cosI (a % 65536 - 16384) = s ∧ -32768 ≤ c ∧ c ≤ 32768 ∧ -32768 ≤ s ∧ s ≤ 32768 ∧ c * c + s * s ≤ 1074003968 ∧ 1073479680 ≤ c * c + s * s ∧
    cosI (-a) = c ∧ cosI ((-a) % 65536 - 16384) = -s ∧ cosI (a + 65536) = c ∧ cosI (a + 32768) = -c ∧ cosI ((a + 16384) % 65536 - 16384) = c := by
  obtain ⟨m, h0, h1, h⟩ := quads a
  have C := circle h0 h1
  rcases h with h | h | h | h
  · refine ⟨qr m, qr (16384 - m), cos_pos h0 h1 (by omega), cos_pos (by omega) (by omega) (by omega), by omega, by omega, by omega, by omega, by omega, by omega, cos_pos h0 h1 (by omega), cos_neg (by omega) (by omega) (by omega), cos_pos h0 h1 (by omega), cos_neg h0 h1 (by omega), cos_pos h0 h1 (by omega)⟩
  · refine ⟨qr m, -qr (16384 - m), cos_pos h0 h1 (by omega), cos_neg (by omega) (by omega) (by omega), by omega, by omega, by omega, by omega, by rw [Int.neg_mul_neg]; omega, by rw [Int.neg_mul_neg]; omega, cos_pos h0 h1 (by omega), by rw [Int.neg_neg]; exact cos_pos (by omega) (by omega) (by omega), cos_pos h0 h1 (by omega), cos_neg h0 h1 (by omega), cos_pos h0 h1 (by omega)⟩
  · refine ⟨-qr m, -qr (16384 - m), cos_neg h0 h1 (by omega), cos_neg (by omega) (by omega) (by omega), by omega, by omega, by omega, by omega, by rw [Int.neg_mul_neg, Int.neg_mul_neg]; omega, by rw [Int.neg_mul_neg, Int.neg_mul_neg]; omega, cos_neg h0 h1 (by omega), by rw [Int.neg_neg]; exact cos_pos (by omega) (by omega) (by omega), cos_neg h0 h1 (by omega), by rw [Int.neg_neg]; exact cos_pos h0 h1 (by omega), cos_neg h0 h1 (by omega)⟩
  · refine ⟨-qr m, qr (16384 - m), cos_neg h0 h1 (by omega), cos_pos (by omega) (by omega) (by omega), by omega, by omega, by omega, by omega, by rw [Int.neg_mul_neg]; omega, by rw [Int.neg_mul_neg]; omega, cos_neg h0 h1 (by omega), cos_neg (by omega) (by omega) (by omega), cos_neg h0 h1 (by omega), by rw [Int.neg_neg]; exact cos_pos h0 h1 (by omega), cos_neg h0 h1 (by omega)⟩
theorem FixCircle : madrigallaw1_FixCircle.Pure := by
  intro a ha
  simp only [Lit.wf, IntKind.min, IntKind.max, IntKind.signed, IntKind.bits, Bool.and_eq_true, decide_eq_true_eq, if_true] at ha
  obtain ⟨c, s, hc, hs, c0, c1, s0, s1, q0, q1, t1, t2, t3, t4, t5⟩ := turns a
  refine Ev.rounds (g := fun k => madrigallaw1_FixCircle.f k a) ?_
  refine Ev.congr (fun k => by rw [madrigallaw1_FixCircle.f]) (Ev.bind awake1 (evPos rfl ?_))
  have hj : ∀ b, (b = false → -1152921504606846976 ≤ a ∧ a ≤ 1152921504606846976) → Ev (fun k => madrigallaw1_FixCircle.j1 k a c s b) true := by
    intro b hb
    refine Ev.step (fun k => by rw [madrigallaw1_FixCircle.j1]) ?_
    refine evIte (fun _ => Ev.now _) (fun h => ?_)
    have hr := hb (by simpa using h)
    rw [w64 (x := -a) (by omega) (by omega), w64 (x := -s) (by omega) (by omega), w64 (x := -c) (by omega) (by omega), w64 (x := a + 65536) (by omega) (by omega), w64 (x := a + 32768) (by omega) (by omega), w64 (x := a + 16384) (by omega) (by omega)]
    refine Ev.bind (evEq (fix_cos _) t1) (evPos rfl (Ev.bind (evEq (fix_sin _) t2) (evPos rfl (Ev.bind (evEq (fix_cos _) t3) (evPos rfl (Ev.bind (evEq (fix_cos _) t4) (evPos rfl (Ev.bind (evEq (fix_sin _) t5) (evConst ?_)))))))))
    simp
  have hj0 : Ev (fun k => madrigallaw1_FixCircle.j0 k a c s false) true := by
    refine Ev.step (fun k => by rw [madrigallaw1_FixCircle.j0]) ?_
    refine evNeg (by simp) (evIte (fun _ => hj true (by simp)) (fun h => hj _ (fun h2 => ?_)))
    have h3 : ¬ a < -1152921504606846976 := of_decide_eq_false h2
    omega
  refine Ev.bind (evEq (fix_cos a) hc) (Ev.bind (evEq (fix_sin a) hs) ?_)
  have n1 := prod_le (x := c) (y := c) (a := 32768) (b := 32768) (by omega) (by omega)
  have n2 := prod_le (x := s) (y := s) (a := 32768) (b := 32768) (by omega) (by omega)
  rw [w64 (x := c * c) (by omega) (by omega), w64 (x := s * s) (by omega) (by omega), w64 (x := c * c + s * s) (by omega) (by omega), w64 (x := c * c + s * s - 1073741824) (by omega) (by omega)]
  refine evNeg (by omega) (evNeg (by omega) (evNeg (by omega) ?_))
  rw [decide_eq_false (by omega)]
  exact hj0
end Go.Proofs.Ytlhdoopmlpnhlaa.Pure
