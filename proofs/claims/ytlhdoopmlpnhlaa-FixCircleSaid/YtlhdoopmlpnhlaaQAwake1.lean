/- The examples ahead of the laws of chapter 1 hold: a closed statement, told once. -/
import Derived.Test.YtlhdoopmlpnhlaaQ0
import Derived.Test.YtlhdoopmlpnhlaaPx13
import Derived.KernelRfl
namespace Go.Proofs.Ytlhdoopmlpnhlaa.Q
open Go.RowKit Go.Proofs.Ytlhdoopmlpnhlaa.P Go.Proofs.YtlhdoopmlpnhlaaW.PrintWords Go.Proofs.YtlhdoopmlpnhlaaW.PrintLast Go.Proofs.YtlhdoopmlpnhlaaW.PrintMore
set_option linter.unusedVariables false

theorem awake1 : Ev (fun k => madrigallaw1_awake.f k) true := Ev.of madrigallaw1_awake.mono (k := 100) (by kernel_rfl)
end Go.Proofs.Ytlhdoopmlpnhlaa.Q
