/- What the document tells of two rates: a closed statement. -/
import Derived.Test.YtcicenmmpbgmoaaPx15
import Derived.KernelRfl
namespace Go.Proofs.Ytcicenmmpbgmoaa.Pure
open Go.RowKit Go.Proofs.Ytcicenmmpbgmoaa.P

theorem awake22 : madrigallaw22_awake.f 400 = some true := by kernel_rfl
end Go.Proofs.Ytcicenmmpbgmoaa.Pure
