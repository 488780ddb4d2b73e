/- More is never less: of roots, logarithms, powers, rounded products: without conditions. -/
import Derived.Test.YtlhdoopmlpnhlaaPx30
import Derived.Test.YtlhdoopmlpnhlaaQSqrt
import Derived.Test.YtlhdoopmlpnhlaaQExp
import Derived.Test.YtlhdoopmlpnhlaaQMul
import Derived.Test.YtlhdoopmlpnhlaaQAwake1
namespace Go.Proofs.Ytlhdoopmlpnhlaa.Pure
open Go.RowKit Go.Proofs.Ytlhdoopmlpnhlaa.P Go.Proofs.YtlhdoopmlpnhlaaW.PrintWords Go.Proofs.YtlhdoopmlpnhlaaW.PrintLast Go.Proofs.YtlhdoopmlpnhlaaW.PrintMore
open Go.Proofs.Ytlhdoopmlpnhlaa.M Go.Proofs.Ytlhdoopmlpnhlaa.Q
set_option linter.unusedVariables false

theorem fix_sat (a : Int) : Ev (fun k => fix_Sat16.f k a) (sat a) :=
  Ev.congr (fun k => by rw [fix_Sat16.f]) (Ev.bind (fix_clamp a _ _) (Ev.now _))
theorem sat_mono {a b : Int} (h : a ≤ b) : sat a ≤ sat b := by
  unfold sat clamp; repeat' split
  all_goals omega
theorem FixRises : madrigallaw1_FixRises.Pure := by
  intro a b c s ha hb hc hs
  simp only [Lit.wf, IntKind.min, IntKind.max, IntKind.signed, IntKind.bits, Bool.and_eq_true, decide_eq_true_eq, if_true] at ha hb hc hs
  refine Ev.rounds (g := fun k => madrigallaw1_FixRises.f k a b c s) ?_
  refine Ev.congr (fun k => by rw [madrigallaw1_FixRises.f]) (Ev.bind awake1 (evPos rfl ?_))
  refine evIte (fun _ => Ev.now _) (fun h => ?_)
  have hab : a ≤ b := by omega
  have hl : Ev (fun k => (fix_Len.f k a).bind fun t266 => ((fix_Len.f k b).bind fun t267 => (some (decide (t266 ≤ t267))))) true :=
    Ev.bind (fix_len a (by omega)) (Ev.bind (fix_len b (by omega)) (evConst (by rw [decide_eq_true (bl_mono hab)])))
  refine Ev.bind (fix_sqrt a (by omega)) (Ev.bind (fix_sqrt b (by omega)) (evPos (root_mono hab (by omega)) ?_))
  refine Ev.bind (fix_log2 a (by omega)) (Ev.bind (fix_log2 b (by omega)) (evPos (log2_mono hab) ?_))
  refine Ev.bind (fix_exp2 a) (Ev.bind (fix_exp2 b) (evPos (exp2_mono hab) ?_))
  refine Ev.bind (fix_sat a) (Ev.bind (fix_sat b) (evPos (sat_mono hab) ?_))
  refine evIte (fun _ => hl) (fun h1 => evIte (fun _ => hl) (fun h2 => evIte (fun _ => hl) (fun h3 => ?_)))
  exact Ev.bind (fix_mul a c s (by omega) (by omega)) (Ev.bind (fix_mul b c s (by omega) (by omega)) (evPos (mul_mono hab (by omega)) hl))
end Go.Proofs.Ytlhdoopmlpnhlaa.Pure
