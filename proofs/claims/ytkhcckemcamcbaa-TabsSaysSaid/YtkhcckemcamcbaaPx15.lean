/- The machine side of the laws of one chapter, without conditions: each call of a Go function comes to what the Lean function of its name answers. Written for this claim by a program of the prover. -/
import Derived.Test.YtkhcckemcamcbaaPx0
namespace Go.Proofs.Ytkhcckemcamcbaa.P
open Go.RowKit Go.Proofs.YtkhcckemcamcbaaW.PrintWords Go.Proofs.YtkhcckemcamcbaaW.PrintLast Go.Proofs.YtkhcckemcamcbaaW.PrintMore
attribute [local go_sem] max2_int min2_int max_two min_two max_three min_three max_four min_four   -- for this text's walks alone
set_option linter.unusedVariables false
set_option linter.unusedSimpArgs false

/-! ### tabs_Filters: function 30 -/
def tabs_Filters.f  : Option (Int):=some 8
set_option maxHeartbeats 8000000 in
set_option maxRecDepth 100000 in
theorem tabs_Filters.calls  (r : Int) (w : World) (h : tabs_Filters.f  = some r) :
  Calls Try.prog 30 #[] w fun e w' => e = .returned (.int .i64 r) ∧ Drawn0 w w':=by
 have H : (some 8) = some r:=h
 clear h
 obtain rfl:=Option.some.inj H
 go_enter Try.func30,Try.ntmps30
 go_wp2
 go_ret
 exact ⟨by first|rfl|(simp;done)|(simp [*];done),by repeat (first|exact Drawn0.refl _|apply Drawn0.step)⟩

end Go.Proofs.Ytkhcckemcamcbaa.P
