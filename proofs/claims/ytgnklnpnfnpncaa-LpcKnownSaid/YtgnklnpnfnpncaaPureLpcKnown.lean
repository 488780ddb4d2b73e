/- The examples of chapter 7 (predictions) answer as they are told: a closed statement, without conditions. -/
import Derived.Test.YtgnklnpnfnpncaaPx15
import Derived.KernelRfl
namespace Go.Proofs.Ytgnklnpnfnpncaa.Pure
open Go.RowKit Go.Proofs.Ytgnklnpnfnpncaa.P

theorem LpcKnown : madrigallaw7_LpcKnown.Pure := ⟨400, by kernel_rfl⟩
end Go.Proofs.Ytgnklnpnfnpncaa.Pure
