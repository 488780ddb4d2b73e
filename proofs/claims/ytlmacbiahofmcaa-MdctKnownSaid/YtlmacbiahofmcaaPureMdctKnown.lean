/- The examples of chapter 15 (from time to frequencies) answer as they are told: a closed statement, without conditions. -/
import Derived.Test.YtlmacbiahofmcaaPx21
import Derived.KernelRfl
namespace Go.Proofs.Ytlmacbiahofmcaa.Pure
open Go.RowKit Go.Proofs.Ytlmacbiahofmcaa.P

theorem MdctKnown : madrigallaw15_MdctKnown.Pure := ⟨400, by kernel_rfl⟩
end Go.Proofs.Ytlmacbiahofmcaa.Pure
