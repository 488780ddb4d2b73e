/- What the document tells of two rates: a closed statement. -/
import Derived.Test.YtcicenmmpbgmoaaPx15
import Derived.KernelRfl
namespace Go.Proofs.Ytcicenmmpbgmoaa.Pure
open Go.RowKit Go.Proofs.Ytcicenmmpbgmoaa.P Go.Proofs.YtcicenmmpbgmoaaW.PrintWords Go.Proofs.YtcicenmmpbgmoaaW.PrintLast Go.Proofs.YtcicenmmpbgmoaaW.PrintMore

theorem awake22 : madrigallaw22_awake.f 400 = some true := by kernel_rfl
theorem awakeEv22 : Ev (fun k => madrigallaw22_awake.f k) true := Ev.of madrigallaw22_awake.mono awake22
end Go.Proofs.Ytcicenmmpbgmoaa.Pure
