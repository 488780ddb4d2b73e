/- The machine side of the laws of one chapter, without conditions: each call of a Go function comes to what the Lean function of its name answers. Written for this claim by a program of the prover. -/
import Derived.Test.YtlmacbiahofmcaaPx0
namespace Go.Proofs.Ytlmacbiahofmcaa.P
open Go.RowKit Go.Proofs.YtlmacbiahofmcaaW.PrintWords Go.Proofs.YtlmacbiahofmcaaW.PrintLast Go.Proofs.YtlmacbiahofmcaaW.PrintMore
attribute [local go_sem] max2_int min2_int max_two min_two max_three min_three max_four min_four   -- for this text's walks alone
set_option linter.unusedVariables false
set_option linter.unusedSimpArgs false

/-! ### madrigalref10_GoodBlock: function 15 -/
def madrigalref10_GoodBlock.f (a0 : Int) (a1 : Int) : Option (Bool):=if a0 ≥ 4 then (if a0 ≤ 480 then (if a1 ≥ 2 then (if a1 ≤ a0 then (some ((Int.tmod (wrap64 (a0 - a1)) 2) == 0)) else (some false)) else (some false)) else (some false)) else (some false)
set_option maxHeartbeats 8000000 in
set_option maxRecDepth 100000 in
theorem madrigalref10_GoodBlock.calls (a0 : Int) (a1 : Int) (r : Bool) (w : World) (h : madrigalref10_GoodBlock.f a0 a1 = some r) :
  Calls Try.prog 15 #[.int .i64 a0,.int .i64 a1] w fun e w' => e = .returned (.bool r) ∧ Drawn0 w w':=by
 have H : (if a0 ≥ 4 then (if a0 ≤ 480 then (if a1 ≥ 2 then (if a1 ≤ a0 then (some ((Int.tmod (wrap64 (a0 - a1)) 2) == 0)) else (some false)) else (some false)) else (some false)) else (some false)) = some r:=h
 clear h
 by_cases c3 : a0 ≥ 4
 ·rw [if_pos c3] at H
  have c3b0 : decide (4 ≤ a0) = true:=decide_eq_true c3
  clear c3
  by_cases c4 : a0 ≤ 480
  ·rw [if_pos c4] at H
   have c4b0:=decide_eq_true c4
   clear c4
   by_cases c5 : a1 ≥ 2
   ·rw [if_pos c5] at H
    have c5b0 : decide (2 ≤ a1) = true:=decide_eq_true c5
    clear c5
    by_cases c6 : a1 ≤ a0
    ·rw [if_pos c6] at H
     have c6b0:=decide_eq_true c6
     clear c6
     obtain rfl:=Option.some.inj H
     go_enter Try.func15,Try.ntmps15
     go_wp2
     go_ret
     exact ⟨by first|rfl|(simp;done)|(simp [*];done),by repeat (first|exact Drawn0.refl _|apply Drawn0.step)⟩
    ·rw [if_neg c6] at H
     have c6b0:=decide_eq_false c6
     clear c6
     obtain rfl:=Option.some.inj H
     go_enter Try.func15,Try.ntmps15
     go_wp2
     go_ret
     exact ⟨by first|rfl|(simp;done)|(simp [*];done),by repeat (first|exact Drawn0.refl _|apply Drawn0.step)⟩
   ·rw [if_neg c5] at H
    have c5b0 : decide (2 ≤ a1) = false:=decide_eq_false c5
    clear c5
    obtain rfl:=Option.some.inj H
    go_enter Try.func15,Try.ntmps15
    go_wp2
    go_ret
    exact ⟨by first|rfl|(simp;done)|(simp [*];done),by repeat (first|exact Drawn0.refl _|apply Drawn0.step)⟩
  ·rw [if_neg c4] at H
   have c4b0:=decide_eq_false c4
   clear c4
   obtain rfl:=Option.some.inj H
   go_enter Try.func15,Try.ntmps15
   go_wp2
   go_ret
   exact ⟨by first|rfl|(simp;done)|(simp [*];done),by repeat (first|exact Drawn0.refl _|apply Drawn0.step)⟩
 ·rw [if_neg c3] at H
  have c3b0 : decide (4 ≤ a0) = false:=decide_eq_false c3
  clear c3
  obtain rfl:=Option.some.inj H
  go_enter Try.func15,Try.ntmps15
  go_wp2
  go_ret
  exact ⟨by first|rfl|(simp;done)|(simp [*];done),by repeat (first|exact Drawn0.refl _|apply Drawn0.step)⟩

end Go.Proofs.Ytlmacbiahofmcaa.P
