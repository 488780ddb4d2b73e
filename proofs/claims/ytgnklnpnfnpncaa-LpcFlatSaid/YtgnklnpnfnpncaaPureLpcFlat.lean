/- Frequencies that lie alike apart make a filter of nearly nothing: of both orders, looked at; without conditions. -/
import Derived.Test.YtgnklnpnfnpncaaPx20
import Derived.Test.YtgnklnpnfnpncaaQ0
import Derived.KernelRfl
namespace Go.Proofs.Ytgnklnpnfnpncaa.Pure
open Go.RowKit Go.Proofs.Ytgnklnpnfnpncaa.P Go.Proofs.YtgnklnpnfnpncaaW.PrintWords Go.Proofs.YtgnklnpnfnpncaaW.PrintLast Go.Proofs.YtgnklnpnfnpncaaW.PrintMore
open Go.Proofs.Ytgnklnpnfnpncaa.Q
set_option linter.unusedVariables false

theorem flat10 : madrigallaw7_LpcFlat.f 400 10 = some true := by kernel_rfl
theorem flat16 : madrigallaw7_LpcFlat.f 400 16 = some true := by kernel_rfl
theorem flat_awake : Ev (fun k => madrigallaw7_awake.f k) true := Ev.of madrigallaw7_awake.mono (k := 400) (by kernel_rfl)
theorem LpcFlat : madrigallaw7_LpcFlat.Pure := by
  intro o _
  by_cases h : o = 10
  · subst h; exact ⟨400, flat10⟩
  · by_cases h2 : o = 16
    · subst h2; exact ⟨400, flat16⟩
    · refine Ev.rounds (g := fun k => madrigallaw7_LpcFlat.f k o) ?_
      refine Ev.congr (fun k => by rw [madrigallaw7_LpcFlat.f]) (Ev.bind flat_awake (evPos rfl (evNeg h ?_)))
      refine Ev.step (fun k => by rw [madrigallaw7_LpcFlat.j0]) ?_
      exact evPos (by simpa using h2) (Ev.now _)
end Go.Proofs.Ytgnklnpnfnpncaa.Pure
