/- The examples ahead of the laws of chapter 2 hold: a closed statement, told once. -/
import Derived.Test.YtkhcckemcamcbaaQ0
import Derived.Test.YtkhcckemcamcbaaPx17
import Derived.KernelRfl
namespace Go.Proofs.Ytkhcckemcamcbaa.Q
open Go.RowKit Go.Proofs.Ytkhcckemcamcbaa.P Go.Proofs.YtkhcckemcamcbaaW.PrintWords Go.Proofs.YtkhcckemcamcbaaW.PrintLast Go.Proofs.YtkhcckemcamcbaaW.PrintMore
set_option linter.unusedVariables false

theorem awake2 : Ev (fun k => madrigallaw2_awake.f k) true := Ev.of madrigallaw2_awake.mono (k := 400) (by kernel_rfl)
end Go.Proofs.Ytkhcckemcamcbaa.Q
