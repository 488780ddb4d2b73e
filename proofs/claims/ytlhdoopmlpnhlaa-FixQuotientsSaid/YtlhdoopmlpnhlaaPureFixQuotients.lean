/- What is divided, down, times the divisor is at most the number, and less than one divisor below it: without conditions. -/
import Derived.Test.YtlhdoopmlpnhlaaPx31
import Derived.Test.YtlhdoopmlpnhlaaQDiv
import Derived.Test.YtlhdoopmlpnhlaaQLog2
import Derived.Test.YtlhdoopmlpnhlaaQAwake1
namespace Go.Proofs.Ytlhdoopmlpnhlaa.Pure
open Go.RowKit Go.Proofs.Ytlhdoopmlpnhlaa.P Go.Proofs.YtlhdoopmlpnhlaaW.PrintWords Go.Proofs.YtlhdoopmlpnhlaaW.PrintLast Go.Proofs.YtlhdoopmlpnhlaaW.PrintMore
open Go.Proofs.Ytlhdoopmlpnhlaa.M Go.Proofs.Ytlhdoopmlpnhlaa.Q
set_option linter.unusedVariables false

theorem FixQuotients : madrigallaw1_FixQuotients.Pure := by
  intro a b s ha hb hs
  refine Ev.rounds (g := fun k => madrigallaw1_FixQuotients.f k a b s) ?_
  refine Ev.congr (fun k => by rw [madrigallaw1_FixQuotients.f]) (Ev.bind awake1 (evPos rfl ?_))
  refine evIte (fun _ => Ev.now _) (fun h1 => evIte (fun _ => Ev.now _) (fun h2 => evIte (fun _ => Ev.now _) (fun h3 => evIte (fun _ => Ev.now _) (fun h4 => evIte (fun _ => Ev.now _) (fun h5 => evIte (fun _ => Ev.now _) (fun h6 => ?_))))))
  refine Ev.bind (fix_div a b s (by omega) (by omega) (by omega)) ?_
  have hu := up_bounds (a := a) (s := s) (by omega) (by omega)
  rw [uw64 (x := s) (by omega) (by omega), shl1_64 (by omega) (by omega)]
  rw [w64 (x := a * 2 ^ s.toNat) (by omega) (by omega)]
  generalize a * 2 ^ s.toNat = n at hu ⊢
  have hmod := Int.emod_nonneg n (show b ≠ 0 by omega)
  have hlt := Int.emod_lt_of_pos n (show 0 < b by omega)
  have hd := Int.mul_ediv_add_emod n b
  rw [Int.mul_comm] at hd
  rw [w64 (x := n / b * b) (by omega) (by omega), w64 (x := n - n / b * b) (by omega) (by omega)]
  refine evPos (by omega) (evPos (by omega) (evConst ?_))
  rw [decide_eq_true (by omega)]
end Go.Proofs.Ytlhdoopmlpnhlaa.Pure
