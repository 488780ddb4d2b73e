/- The machine side of the laws of one chapter, without conditions: each call of a Go function comes to what the Lean function of its name answers. Written for this claim by a program of the prover. -/
import Derived.Test.YtcicenmmpbgmoaaPx0
namespace Go.Proofs.Ytcicenmmpbgmoaa.P
open Go.RowKit Go.Proofs.YtcicenmmpbgmoaaW.PrintWords Go.Proofs.YtcicenmmpbgmoaaW.PrintLast Go.Proofs.YtcicenmmpbgmoaaW.PrintMore
attribute [local go_sem] max2_int min2_int max_two min_two max_three min_three max_four min_four   -- for this text's walks alone
set_option linter.unusedVariables false
set_option linter.unusedSimpArgs false

/-! ### madrigalref1_Clamp: function 40 -/
def madrigalref1_Clamp.j0 : Nat → Int → Int → Int → Bool → Option (Int)
 | 0,_,_,_,_ => none
 | k + 1,x0,x1,x2,x7 => if x7 = true then (some x1) else (if x0 > x2 then (some x2) else (some x0))
def madrigalref1_Clamp.f (k : Nat) (a0 : Int) (a1 : Int) (a2 : Int) : Option (Int):=if a0 < a1 then (madrigalref1_Clamp.j0 k a0 a1 a2 true) else (madrigalref1_Clamp.j0 k a0 a1 a2 (decide (a1 > a2)))
theorem madrigalref1_Clamp.mono_l : ∀ k,(∀ y0 y1 y2 y3,LeO (madrigalref1_Clamp.j0 k y0 y1 y2 y3) (madrigalref1_Clamp.j0 (k + 1) y0 y1 y2 y3))
 | 0 => fun _ _ _ _ r h => by simp [madrigalref1_Clamp.j0] at h
 | k + 1 => by
  have ih0:=madrigalref1_Clamp.mono_l k
  all_goals (intros;first|unfold madrigalref1_Clamp.j0)
  all_goals (repeat' first|(with_reducible first|exact ih0 _ _ _ _|exact LeO.refl _|exact LeO.none _|refine LeO.ite ?_ ?_|refine LeO.bind ?_ (fun _ => ?_))|exact ih0 _ _ _ _|exact LeO.none _|refine LeO.ite ?_ ?_|refine LeO.bind ?_ (fun _ => ?_))
theorem madrigalref1_Clamp.mono : ∀ a0 a1 a2 k,LeO (madrigalref1_Clamp.f k a0 a1 a2) (madrigalref1_Clamp.f (k + 1) a0 a1 a2):=by
 intro a0 a1 a2 k
 have ih0:=madrigalref1_Clamp.mono_l k
 unfold madrigalref1_Clamp.f
 repeat' first|(with_reducible first|exact ih0 _ _ _ _|exact LeO.refl _|exact LeO.none _|refine LeO.ite ?_ ?_|refine LeO.bind ?_ (fun _ => ?_))|exact ih0 _ _ _ _|exact LeO.none _|refine LeO.ite ?_ ?_|refine LeO.bind ?_ (fun _ => ?_)
set_option maxHeartbeats 8000000 in
set_option maxRecDepth 100000 in
theorem madrigalref1_Clamp.calls (k : Nat) (a0 : Int) (a1 : Int) (a2 : Int) (r : Int) (w : World) (h : madrigalref1_Clamp.f k a0 a1 a2 = some r) :
  Calls Try.prog 40 #[.int .i64 a0,.int .i64 a1,.int .i64 a2] w fun e w' => e = .returned (.int .i64 r) ∧ Drawn0 w w':=by
 have H : (if a0 < a1 then (madrigalref1_Clamp.j0 k a0 a1 a2 true) else (madrigalref1_Clamp.j0 k a0 a1 a2 (decide (a1 > a2)))) = some r:=h
 clear h
 have HC4:=ak_ H
 clear H
 go_enter Try.func40,Try.ntmps40
 go_upto_region 1 with (fail)
 go_cut [7] (fun v7 wc => ∃ (kq : Nat) (x7_3 : Bool),v7 = .bool x7_3 ∧ Aside0 (madrigalref1_Clamp.j0 kq a0 a1 a2 x7_3 = some r) ∧ Aside0 (kq ≤ k) ∧ Drawn0 w wc)
 case first =>
  have H:=HC4.out
  clear HC4
  by_cases c5 : a0 < a1
  ·rw [if_pos c5] at H
   have c5b0:=decide_eq_true c5
   clear c5
   (first|rw [c5b0]|(simp only [i64_w,i32_w];rw [c5b0])|skip)
   have H':=ak_ H
   clear H
   go_wp2
   refine Met.intro ?_
   go_step
   (repeat apply Exists.intro)
   first|refine ⟨?rel38,rfl⟩|(refine ⟨?rel38,?st38⟩;case' st38 => (first|rw [c5b0]|simp only [c5b0]))
   case rel38 => exact ⟨_,(true),(by first|rfl|(simp;done)|(simp [*];done)),H',⟨by first|omega|exact Nat.le_refl _⟩,by repeat (first|exact Drawn0.refl _|apply Drawn0.step)⟩
  ·rw [if_neg c5] at H
   have c5b0:=decide_eq_false c5
   clear c5
   (first|rw [c5b0]|(simp only [i64_w,i32_w];rw [c5b0])|skip)
   have H':=ak_ H
   clear H
   go_wp2
   refine Met.intro ?_
   go_step
   (repeat apply Exists.intro)
   first|refine ⟨?rel47,rfl⟩|(refine ⟨?rel47,?st47⟩;case' st47 => (first|rw [c5b0]|simp only [c5b0]))
   case rel47 => exact ⟨_,(decide (a1 > a2)),(by first|rfl|(simp;done)|(simp [*];done)),H',⟨by first|omega|exact Nat.le_refl _⟩,by repeat (first|exact Drawn0.refl _|apply Drawn0.step)⟩
 case rest =>
  clear HC4
  try clear p2
  try clear c4
  try clear c5
  try clear c5b0
  obtain ⟨kq,x7_3,rfl,HA,HJ3,⟨mc3,rfl⟩⟩:=hcut
  (try simp only [i64_w,i32_w])
  cases kq with
  | zero => exact absurd HA.out (by simp [madrigalref1_Clamp.j0])
  | succ kj3 =>
   have H:=HA.out
   clear HA
   simp only [madrigalref1_Clamp.j0] at H
   by_cases c6 : x7_3 = true
   ·subst c6
    have H1 : (some a1) = some r:=by rw [if_pos rfl] at H;exact H
    clear H
    have H:=H1
    clear H1
    obtain rfl:=Option.some.inj H
    go_wp2
    go_ret
    exact ⟨by first|rfl|(simp;done)|(simp [*];done),by repeat (first|exact Drawn0.refl _|apply Drawn0.step)⟩
   ·replace c6:=Bool.eq_false_iff.mpr c6
    subst c6
    have H1 : (if a0 > a2 then (some a2) else (some a0)) = some r:=by rw [if_neg (show ¬ (false = true) by decide)] at H;exact H
    clear H
    have H:=H1
    clear H1
    by_cases c7 : a0 > a2
    ·rw [if_pos c7] at H
     have c7b0 : decide (a2 < a0) = true:=decide_eq_true c7
     clear c7
     obtain rfl:=Option.some.inj H
     go_wp2
     go_ret
     exact ⟨by first|rfl|(simp;done)|(simp [*];done),by repeat (first|exact Drawn0.refl _|apply Drawn0.step)⟩
    ·rw [if_neg c7] at H
     have c7b0 : decide (a2 < a0) = false:=decide_eq_false c7
     clear c7
     obtain rfl:=Option.some.inj H
     go_wp2
     go_ret
     exact ⟨by first|rfl|(simp;done)|(simp [*];done),by repeat (first|exact Drawn0.refl _|apply Drawn0.step)⟩

end Go.Proofs.Ytcicenmmpbgmoaa.P
