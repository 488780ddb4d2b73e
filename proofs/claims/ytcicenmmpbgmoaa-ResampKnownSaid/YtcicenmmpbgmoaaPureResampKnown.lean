/- The examples of chapter 22 (other rates) answer as they are told: a closed statement, without conditions. -/
import Derived.Test.YtcicenmmpbgmoaaPx16
import Derived.KernelRfl
namespace Go.Proofs.Ytcicenmmpbgmoaa.Pure
open Go.RowKit Go.Proofs.Ytcicenmmpbgmoaa.P

theorem ResampKnown : madrigallaw22_ResampKnown.Pure := ⟨400, by kernel_rfl⟩
end Go.Proofs.Ytcicenmmpbgmoaa.Pure
