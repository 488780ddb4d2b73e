/- The machine side of the laws of one chapter, without conditions: each call of a Go function comes to what the Lean function of its name answers. Written for this claim by a program of the prover. -/
import Derived.Test.YtcicenmmpbgmoaaPx0
namespace Go.Proofs.Ytcicenmmpbgmoaa.P
open Go.RowKit Go.Proofs.YtcicenmmpbgmoaaW.PrintWords Go.Proofs.YtcicenmmpbgmoaaW.PrintLast Go.Proofs.YtcicenmmpbgmoaaW.PrintMore
attribute [local go_sem] max2_int min2_int max_two min_two max_three min_three max_four min_four   -- for this text's walks alone
set_option linter.unusedVariables false
set_option linter.unusedSimpArgs false

/-! ### resamp_rate: function 33 -/
def resamp_rate.f (a0 : Int) : Option (Bool):=if a0 = 8000 then (some true) else (if a0 = 12000 then (some true) else (if a0 = 16000 then (some true) else (if a0 = 24000 then (some true) else (if a0 = 48000 then (some true) else (some false)))))
set_option maxHeartbeats 8000000 in
set_option maxRecDepth 100000 in
theorem resamp_rate.calls (a0 : Int) (r : Bool) (w : World) (h : resamp_rate.f a0 = some r) :
  Calls Try.prog 33 #[.int .i64 a0] w fun e w' => e = .returned (.bool r) ∧ Drawn0 w w':=by
 have H : (if a0 = 8000 then (some true) else (if a0 = 12000 then (some true) else (if a0 = 16000 then (some true) else (if a0 = 24000 then (some true) else (if a0 = 48000 then (some true) else (some false)))))) = some r:=h
 clear h
 by_cases c2 : a0 = 8000
 ·rw [if_pos c2] at H
  have c2b0 : (a0 == 8000) = true:=beq_iff_eq.mpr c2
  have c2b1 : (a0 != 8000) = false:=bne_eq_false_iff_eq.mpr c2
  clear c2
  obtain rfl:=Option.some.inj H
  go_enter Try.func33,Try.ntmps33
  go_wp2
  go_ret
  exact ⟨by first|rfl|(simp;done)|(simp [*];done),by repeat (first|exact Drawn0.refl _|apply Drawn0.step)⟩
 ·rw [if_neg c2] at H
  have c2b0 : (a0 == 8000) = false:=beq_eq_false_iff_ne.mpr c2
  have c2b1 : (a0 != 8000) = true:=bne_iff_ne.mpr c2
  by_cases c3 : a0 = 12000
  ·rw [if_pos c3] at H
   have c3b0 : (a0 == 12000) = true:=beq_iff_eq.mpr c3
   have c3b1 : (a0 != 12000) = false:=bne_eq_false_iff_eq.mpr c3
   clear c3
   obtain rfl:=Option.some.inj H
   go_enter Try.func33,Try.ntmps33
   go_wp2
   go_ret
   exact ⟨by first|rfl|(simp;done)|(simp [*];done),by repeat (first|exact Drawn0.refl _|apply Drawn0.step)⟩
  ·rw [if_neg c3] at H
   have c3b0 : (a0 == 12000) = false:=beq_eq_false_iff_ne.mpr c3
   have c3b1 : (a0 != 12000) = true:=bne_iff_ne.mpr c3
   by_cases c4 : a0 = 16000
   ·rw [if_pos c4] at H
    have c4b0 : (a0 == 16000) = true:=beq_iff_eq.mpr c4
    have c4b1 : (a0 != 16000) = false:=bne_eq_false_iff_eq.mpr c4
    clear c4
    obtain rfl:=Option.some.inj H
    go_enter Try.func33,Try.ntmps33
    go_wp2
    go_ret
    exact ⟨by first|rfl|(simp;done)|(simp [*];done),by repeat (first|exact Drawn0.refl _|apply Drawn0.step)⟩
   ·rw [if_neg c4] at H
    have c4b0 : (a0 == 16000) = false:=beq_eq_false_iff_ne.mpr c4
    have c4b1 : (a0 != 16000) = true:=bne_iff_ne.mpr c4
    by_cases c5 : a0 = 24000
    ·rw [if_pos c5] at H
     have c5b0 : (a0 == 24000) = true:=beq_iff_eq.mpr c5
     have c5b1 : (a0 != 24000) = false:=bne_eq_false_iff_eq.mpr c5
     clear c5
     obtain rfl:=Option.some.inj H
     go_enter Try.func33,Try.ntmps33
     go_wp2
     go_ret
     exact ⟨by first|rfl|(simp;done)|(simp [*];done),by repeat (first|exact Drawn0.refl _|apply Drawn0.step)⟩
    ·rw [if_neg c5] at H
     have c5b0 : (a0 == 24000) = false:=beq_eq_false_iff_ne.mpr c5
     have c5b1 : (a0 != 24000) = true:=bne_iff_ne.mpr c5
     by_cases c6 : a0 = 48000
     ·rw [if_pos c6] at H
      have c6b0 : (a0 == 48000) = true:=beq_iff_eq.mpr c6
      have c6b1 : (a0 != 48000) = false:=bne_eq_false_iff_eq.mpr c6
      clear c6
      obtain rfl:=Option.some.inj H
      go_enter Try.func33,Try.ntmps33
      go_wp2
      go_ret
      exact ⟨by first|rfl|(simp;done)|(simp [*];done),by repeat (first|exact Drawn0.refl _|apply Drawn0.step)⟩
     ·rw [if_neg c6] at H
      have c6b0 : (a0 == 48000) = false:=beq_eq_false_iff_ne.mpr c6
      have c6b1 : (a0 != 48000) = true:=bne_iff_ne.mpr c6
      obtain rfl:=Option.some.inj H
      go_enter Try.func33,Try.ntmps33
      go_wp2
      go_ret
      exact ⟨by first|rfl|(simp;done)|(simp [*];done),by repeat (first|exact Drawn0.refl _|apply Drawn0.step)⟩

/-! ### resamp_Good: function 16 -/
def resamp_Good.f (a0 : Int) (a1 : Int) : Option (Bool):=(resamp_rate.f a0).bind fun t101 => (if t101 = true then ((resamp_rate.f a1).bind fun t102 => (some t102)) else (some false))
set_option maxHeartbeats 8000000 in
set_option maxRecDepth 100000 in
theorem resamp_Good.calls (a0 : Int) (a1 : Int) (r : Bool) (w : World) (h : resamp_Good.f a0 a1 = some r) :
  Calls Try.prog 16 #[.int .i64 a0,.int .i64 a1] w fun e w' => e = .returned (.bool r) ∧ Drawn0 w w':=by
 have H : ((resamp_rate.f a0).bind fun t101 => (if t101 = true then ((resamp_rate.f a1).bind fun t102 => (some t102)) else (some false))) = some r:=h
 clear h
 replace H:=Option.bind_eq_some_iff.mp H
 obtain ⟨t101,A30,H⟩:=H
 (try dsimp only at H)
 have A3:=ak_ A30
 clear A30
 by_cases c4 : t101 = true
 ·subst c4
  have H1 : ((resamp_rate.f a1).bind fun t102 => (some t102)) = some r:=by rw [if_pos rfl] at H;exact H
  clear H
  have H:=H1
  clear H1
  replace H:=Option.bind_eq_some_iff.mp H
  obtain ⟨t102,A50,H⟩:=H
  (try dsimp only at H)
  have A5:=ak_ A50
  clear A50
  obtain rfl:=Option.some.inj H
  go_enter Try.func16,Try.ntmps16
  go_wp2_with (first|((with_reducible refine gate_callee (f:=33) rfl ?_);refine goesL_ (some 6) rfl rfl Try.func33 (by kernel_rfl) rfl #[.int .i64 a0] rfl (by (try simp only [List.map_toArray,List.map_cons,List.map_nil]);first|done|rfl|(simp only [List.length_drop,List.length_take];rfl)) ?_;(with_reducible refine (resamp_rate.calls a0 true _ A3.out).mono ?_);rintro e w' ⟨rfl,⟨nd,rfl⟩⟩;refine ⟨_,rfl,?_⟩)|(go_at_call 33;(with_reducible refine (resamp_rate.calls a1 t102 _ A5.out).mono ?_);rintro e w' ⟨rfl,⟨nd,rfl⟩⟩))
  go_ret
  exact ⟨by first|rfl|(simp;done)|(simp [*];done),by repeat (first|exact Drawn0.refl _|apply Drawn0.step)⟩
 ·replace c4:=Bool.eq_false_iff.mpr c4
  subst c4
  have H1 : (some false) = some r:=by rw [if_neg (show ¬ (false = true) by decide)] at H;exact H
  clear H
  have H:=H1
  clear H1
  obtain rfl:=Option.some.inj H
  go_enter Try.func16,Try.ntmps16
  go_wp2_with (first|((with_reducible refine gate_callee (f:=33) rfl ?_);refine goesL_ (some 6) rfl rfl Try.func33 (by kernel_rfl) rfl #[.int .i64 a0] rfl (by (try simp only [List.map_toArray,List.map_cons,List.map_nil]);first|done|rfl|(simp only [List.length_drop,List.length_take];rfl)) ?_;(with_reducible refine (resamp_rate.calls a0 false _ A3.out).mono ?_);rintro e w' ⟨rfl,⟨nd,rfl⟩⟩;refine ⟨_,rfl,?_⟩))
  go_ret
  exact ⟨by first|rfl|(simp;done)|(simp [*];done),by repeat (first|exact Drawn0.refl _|apply Drawn0.step)⟩

end Go.Proofs.Ytcicenmmpbgmoaa.P
