/- The examples of chapter 2 (tables) answer as they are told: a closed statement, without conditions. -/
import Derived.Test.YtkhcckemcamcbaaPx18
import Derived.KernelRfl
namespace Go.Proofs.Ytkhcckemcamcbaa.Pure
open Go.RowKit Go.Proofs.Ytkhcckemcamcbaa.P

theorem TabsKnown : madrigallaw2_TabsKnown.Pure := ⟨400, by kernel_rfl⟩
end Go.Proofs.Ytkhcckemcamcbaa.Pure
