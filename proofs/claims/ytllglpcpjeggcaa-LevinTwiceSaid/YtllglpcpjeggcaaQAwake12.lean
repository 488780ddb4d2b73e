/- The examples ahead of the laws of chapter 12 hold: a closed statement, told once. -/
import Derived.Test.YtllglpcpjeggcaaQ0
import Derived.Test.YtllglpcpjeggcaaPx25
import Derived.KernelRfl
namespace Go.Proofs.Ytllglpcpjeggcaa.Q
open Go.RowKit Go.Proofs.Ytllglpcpjeggcaa.P Go.Proofs.YtllglpcpjeggcaaW.PrintWords Go.Proofs.YtllglpcpjeggcaaW.PrintLast Go.Proofs.YtllglpcpjeggcaaW.PrintMore
set_option linter.unusedVariables false

theorem awake12 : Ev (fun k => madrigallaw12_awake.f k) true := Ev.of madrigallaw12_awake.mono (k := 2000) (by kernel_rfl)
end Go.Proofs.Ytllglpcpjeggcaa.Q
