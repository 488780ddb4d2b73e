/- The examples of chapter 6 (frequencies of a voice) answer as they are told: a closed statement, without conditions. -/
import Derived.Test.YtdchabinakboeaaPx32
import Derived.KernelRfl
namespace Go.Proofs.Ytdchabinakboeaa.Pure
open Go.RowKit Go.Proofs.Ytdchabinakboeaa.P

theorem LsfKnown : madrigallaw6_LsfKnown.Pure := ⟨400, by kernel_rfl⟩
end Go.Proofs.Ytdchabinakboeaa.Pure
