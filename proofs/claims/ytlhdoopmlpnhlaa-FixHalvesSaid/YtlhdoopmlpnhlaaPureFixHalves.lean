/- A rounded product lies within a half of the exact one: without conditions. -/
import Derived.Test.YtlhdoopmlpnhlaaPx32
import Derived.Test.YtlhdoopmlpnhlaaQDiv
import Derived.Test.YtlhdoopmlpnhlaaQLog2
import Derived.Test.YtlhdoopmlpnhlaaQAwake1
namespace Go.Proofs.Ytlhdoopmlpnhlaa.Pure
open Go.RowKit Go.Proofs.Ytlhdoopmlpnhlaa.P Go.Proofs.YtlhdoopmlpnhlaaW.PrintWords Go.Proofs.YtlhdoopmlpnhlaaW.PrintLast Go.Proofs.YtlhdoopmlpnhlaaW.PrintMore
open Go.Proofs.Ytlhdoopmlpnhlaa.M Go.Proofs.Ytlhdoopmlpnhlaa.Q
set_option linter.unusedVariables false

theorem FixHalves : madrigallaw1_FixHalves.Pure := by
  intro a b s ha hb hs
  refine Ev.rounds (g := fun k => madrigallaw1_FixHalves.f k a b s) ?_
  refine Ev.congr (fun k => by rw [madrigallaw1_FixHalves.f]) (Ev.bind awake1 (evPos rfl ?_))
  refine evIte (fun _ => Ev.now _) (fun h1 => evIte (fun _ => Ev.now _) (fun h2 => evIte (fun _ => Ev.now _) (fun h3 => evIte (fun _ => Ev.now _) (fun h4 => evIte (fun _ => Ev.now _) (fun h5 => evIte (fun _ => Ev.now _) (fun h6 => ?_))))))
  refine Ev.bind (fix_mul a b s (by omega) (by omega)) ?_
  have hp := prod_le (x := a) (y := b) (a := 1073741824) (b := 1073741824) (by omega) (by omega)
  have hs0 : s.toNat = (s - 1).toNat + 1 := by omega
  have e2 : (2 : Int) ^ s.toNat = 2 * 2 ^ (s - 1).toNat := by rw [hs0, pow_next]
  have hq := pow_61 (n := (s - 1).toNat) (by omega)
  have hq2 : (2 : Int) ^ (s - 1).toNat ≤ 2 ^ 29 := pow_most (by omega)
  rw [uw64 (x := s) (by omega) (by omega), shl1_64 (by omega) (by omega), shl_64 (x := -1) (by omega) (by omega) (by omega)]
  unfold mul
  rw [if_neg (show ¬ s = 0 by omega), if_neg (show ¬ s < 0 by omega), if_neg (show ¬ s > 62 by omega), fac_id (a := a) (by omega) (by omega), fac_id (a := b) (by omega) (by omega), e2]
  generalize a * b = n at hp ⊢
  generalize (2 : Int) ^ (s - 1).toNat = p at hq hq2 ⊢
  have hmod := Int.emod_nonneg (n + p) (show 2 * p ≠ 0 by omega)
  have hlt := Int.emod_lt_of_pos (n + p) (show 0 < 2 * p by omega)
  have hd := Int.mul_ediv_add_emod (n + p) (2 * p)
  rw [Int.mul_comm] at hd
  rw [w64 (x := n) (by omega) (by omega), w64 (x := (n + p) / (2 * p) * (2 * p)) (by omega) (by omega), w64 (x := (n + p) / (2 * p) * (2 * p) - n) (by omega) (by omega), w64 (x := 2 * ((n + p) / (2 * p) * (2 * p) - n)) (by omega) (by omega)]
  refine evPos (by omega) (evPos (by omega) (evConst ?_))
  rw [decide_eq_true (by omega)]
end Go.Proofs.Ytlhdoopmlpnhlaa.Pure
