/- The examples of chapter 1 (whole numbers) answer as they are told: a closed statement, without conditions. -/
import Derived.Test.YtlhdoopmlpnhlaaPx14
import Derived.KernelRfl
namespace Go.Proofs.Ytlhdoopmlpnhlaa.Pure
open Go.RowKit Go.Proofs.Ytlhdoopmlpnhlaa.P Go.Proofs.YtlhdoopmlpnhlaaW.PrintWords Go.Proofs.YtlhdoopmlpnhlaaW.PrintLast

theorem FixKnown : madrigallaw1_FixKnown.Pure := ⟨100, by kernel_rfl⟩
end Go.Proofs.Ytlhdoopmlpnhlaa.Pure
