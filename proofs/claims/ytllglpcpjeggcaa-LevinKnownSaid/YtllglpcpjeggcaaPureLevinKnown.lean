/- The examples of chapter 12 (the filter that foretells) answer as they are told: a closed statement, without conditions. -/
import Derived.Test.YtllglpcpjeggcaaPx26
import Derived.KernelRfl
namespace Go.Proofs.Ytllglpcpjeggcaa.Pure
open Go.RowKit Go.Proofs.Ytllglpcpjeggcaa.P Go.Proofs.YtllglpcpjeggcaaW.PrintWords Go.Proofs.YtllglpcpjeggcaaW.PrintLast

theorem LevinKnown : madrigallaw12_LevinKnown.Pure := ⟨4000, by kernel_rfl⟩
end Go.Proofs.Ytllglpcpjeggcaa.Pure
