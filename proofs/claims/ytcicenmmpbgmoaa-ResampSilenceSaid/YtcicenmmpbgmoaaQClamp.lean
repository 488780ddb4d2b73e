/- Clamping, as the program does it: lemmas for the laws. -/
import Derived.Test.YtcicenmmpbgmoaaQ0
import Derived.Test.YtcicenmmpbgmoaaM0
import Derived.Test.YtcicenmmpbgmoaaPx4
namespace Go.Proofs.Ytcicenmmpbgmoaa.Q
open Go.RowKit Go.Proofs.Ytcicenmmpbgmoaa.P Go.Proofs.YtcicenmmpbgmoaaW.PrintWords Go.Proofs.YtcicenmmpbgmoaaW.PrintLast Go.Proofs.YtcicenmmpbgmoaaW.PrintMore
open Go.Proofs.Ytcicenmmpbgmoaa.M
set_option linter.unusedVariables false

theorem fix_clamp (a lo hi : Int) : Ev (fun k => fix_Clamp.f k a lo hi) (clamp a lo hi) := by
  have hj : ∀ b, Ev (fun k => fix_Clamp.j0 k a lo hi b) (if b = true then lo else if a > hi then hi else a) := by
    intro b
    refine Ev.step (fun k => by rw [fix_Clamp.j0]) ?_
    refine evConst ?_
    cases b <;> simp <;> split <;> rfl
  refine Ev.congr (fun k => by rw [fix_Clamp.f]) ?_
  refine evIte (fun h => ?_) (fun h => ?_)
  · exact evEq (hj true) (by unfold clamp; simp [h])
  · exact evEq (hj _) (by unfold clamp; simp [h])
end Go.Proofs.Ytcicenmmpbgmoaa.Q
