/- The machine side of the laws of one chapter, without conditions: each call of a Go function comes to what the Lean function of its name answers. Written for this claim by a program of the prover. -/
import Derived.Test.YtkhcckemcamcbaaPx0
namespace Go.Proofs.Ytkhcckemcamcbaa.P
open Go.RowKit Go.Proofs.YtkhcckemcamcbaaW.PrintWords Go.Proofs.YtkhcckemcamcbaaW.PrintLast Go.Proofs.YtkhcckemcamcbaaW.PrintMore
attribute [local go_sem] max2_int min2_int max_two min_two max_three min_three max_four min_four   -- for this text's walks alone
set_option linter.unusedVariables false
set_option linter.unusedSimpArgs false

/-! ### madrigalref1_Rate: function 21 -/
def madrigalref1_Rate.f (a0 : Int) : Option (Bool):=if a0 = 8000 then (some true) else (if a0 = 16000 then (some true) else (some (a0 == 24000)))
set_option maxHeartbeats 8000000 in
set_option maxRecDepth 100000 in
theorem madrigalref1_Rate.calls (a0 : Int) (r : Bool) (w : World) (h : madrigalref1_Rate.f a0 = some r) :
  Calls Try.prog 21 #[.int .i64 a0] w fun e w' => e = .returned (.bool r) ∧ Drawn0 w w':=by
 have H : (if a0 = 8000 then (some true) else (if a0 = 16000 then (some true) else (some (a0 == 24000)))) = some r:=h
 clear h
 by_cases c2 : a0 = 8000
 ·rw [if_pos c2] at H
  have c2b0 : (a0 == 8000) = true:=beq_iff_eq.mpr c2
  have c2b1 : (a0 != 8000) = false:=bne_eq_false_iff_eq.mpr c2
  clear c2
  obtain rfl:=Option.some.inj H
  go_enter Try.func21,Try.ntmps21
  go_wp2
  go_ret
  exact ⟨by first|rfl|(simp;done)|(simp [*];done),by repeat (first|exact Drawn0.refl _|apply Drawn0.step)⟩
 ·rw [if_neg c2] at H
  have c2b0 : (a0 == 8000) = false:=beq_eq_false_iff_ne.mpr c2
  have c2b1 : (a0 != 8000) = true:=bne_iff_ne.mpr c2
  by_cases c3 : a0 = 16000
  ·rw [if_pos c3] at H
   have c3b0 : (a0 == 16000) = true:=beq_iff_eq.mpr c3
   have c3b1 : (a0 != 16000) = false:=bne_eq_false_iff_eq.mpr c3
   clear c3
   obtain rfl:=Option.some.inj H
   go_enter Try.func21,Try.ntmps21
   go_wp2
   go_ret
   exact ⟨by first|rfl|(simp;done)|(simp [*];done),by repeat (first|exact Drawn0.refl _|apply Drawn0.step)⟩
  ·rw [if_neg c3] at H
   have c3b0 : (a0 == 16000) = false:=beq_eq_false_iff_ne.mpr c3
   have c3b1 : (a0 != 16000) = true:=bne_iff_ne.mpr c3
   obtain rfl:=Option.some.inj H
   go_enter Try.func21,Try.ntmps21
   go_wp2
   go_ret
   exact ⟨by first|rfl|(simp;done)|(simp [*];done),by repeat (first|exact Drawn0.refl _|apply Drawn0.step)⟩

/-! ### madrigalref1_Order: function 23 -/
def madrigalref1_Order.f (a0 : Int) : Option (Int):=if a0 = 8000 then (some 10) else (if a0 = 16000 then (some 16) else (some 0))
set_option maxHeartbeats 8000000 in
set_option maxRecDepth 100000 in
theorem madrigalref1_Order.calls (a0 : Int) (r : Int) (w : World) (h : madrigalref1_Order.f a0 = some r) :
  Calls Try.prog 23 #[.int .i64 a0] w fun e w' => e = .returned (.int .i64 r) ∧ Drawn0 w w':=by
 have H : (if a0 = 8000 then (some 10) else (if a0 = 16000 then (some 16) else (some 0))) = some r:=h
 clear h
 by_cases c2 : a0 = 8000
 ·rw [if_pos c2] at H
  have c2b0 : (a0 == 8000) = true:=beq_iff_eq.mpr c2
  have c2b1 : (a0 != 8000) = false:=bne_eq_false_iff_eq.mpr c2
  clear c2
  obtain rfl:=Option.some.inj H
  go_enter Try.func23,Try.ntmps23
  go_wp2
  go_ret
  exact ⟨by first|rfl|(simp;done)|(simp [*];done),by repeat (first|exact Drawn0.refl _|apply Drawn0.step)⟩
 ·rw [if_neg c2] at H
  have c2b0 : (a0 == 8000) = false:=beq_eq_false_iff_ne.mpr c2
  have c2b1 : (a0 != 8000) = true:=bne_iff_ne.mpr c2
  by_cases c3 : a0 = 16000
  ·rw [if_pos c3] at H
   have c3b0 : (a0 == 16000) = true:=beq_iff_eq.mpr c3
   have c3b1 : (a0 != 16000) = false:=bne_eq_false_iff_eq.mpr c3
   clear c3
   obtain rfl:=Option.some.inj H
   go_enter Try.func23,Try.ntmps23
   go_wp2
   go_ret
   exact ⟨by first|rfl|(simp;done)|(simp [*];done),by repeat (first|exact Drawn0.refl _|apply Drawn0.step)⟩
  ·rw [if_neg c3] at H
   have c3b0 : (a0 == 16000) = false:=beq_eq_false_iff_ne.mpr c3
   have c3b1 : (a0 != 16000) = true:=bne_iff_ne.mpr c3
   obtain rfl:=Option.some.inj H
   go_enter Try.func23,Try.ntmps23
   go_wp2
   go_ret
   exact ⟨by first|rfl|(simp;done)|(simp [*];done),by repeat (first|exact Drawn0.refl _|apply Drawn0.step)⟩

end Go.Proofs.Ytkhcckemcamcbaa.P
