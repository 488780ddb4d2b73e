/- The examples of chapter 13 (is somebody speaking?) answer as they are told: a closed statement, without conditions. -/
import Derived.Test.YtdchabinakboeaaPx11
import Derived.KernelRfl
namespace Go.Proofs.Ytdchabinakboeaa.Pure
open Go.RowKit Go.Proofs.Ytdchabinakboeaa.P Go.Proofs.YtdchabinakboeaaW.PrintWords Go.Proofs.YtdchabinakboeaaW.PrintLast

theorem VadKnown : madrigallaw13_VadKnown.Pure := ⟨40, by kernel_rfl⟩

end Go.Proofs.Ytdchabinakboeaa.Pure
