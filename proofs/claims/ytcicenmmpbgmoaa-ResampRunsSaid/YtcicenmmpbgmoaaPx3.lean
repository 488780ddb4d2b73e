/- The machine side of the laws of one chapter, without conditions: each call of a Go function comes to what the Lean function of its name answers. Written for this claim by a program of the prover. -/
import Derived.Test.YtcicenmmpbgmoaaPx0
namespace Go.Proofs.Ytcicenmmpbgmoaa.P
open Go.RowKit Go.Proofs.YtcicenmmpbgmoaaW.PrintWords Go.Proofs.YtcicenmmpbgmoaaW.PrintLast Go.Proofs.YtcicenmmpbgmoaaW.PrintMore
attribute [local go_sem] max2_int min2_int max_two min_two max_three min_three max_four min_four   -- for this text's walks alone
set_option linter.unusedVariables false
set_option linter.unusedSimpArgs false

/-! ### resamp_parts: function 27 -/
def resamp_parts.l0 : Nat → Int → Int → Int → Int → Option (Int × Int)
 | 0,_,_,_,_ => none
 | k + 1,x0,x1,x6,x7 => if x7 > 0 then (if x7 = 0 then (none) else (resamp_parts.l0 k x0 x1 x7 (Int.tmod x6 x7))) else (if x6 = 0 then (none) else (some (wrap64 (Int.tdiv x1 x6),wrap64 (Int.tdiv x0 x6))))
def resamp_parts.f (k : Nat) (a0 : Int) (a1 : Int) : Option (Int × Int):=resamp_parts.l0 k a0 a1 a0 a1
theorem resamp_parts.mono_l : ∀ k,(∀ y0 y1 y2 y3,LeO (resamp_parts.l0 k y0 y1 y2 y3) (resamp_parts.l0 (k + 1) y0 y1 y2 y3))
 | 0 => fun _ _ _ _ r h => by simp [resamp_parts.l0] at h
 | k + 1 => by
  have ih0:=resamp_parts.mono_l k
  all_goals (intros;first|unfold resamp_parts.l0)
  all_goals (repeat' first|(with_reducible first|exact ih0 _ _ _ _|exact LeO.refl _|exact LeO.none _|refine LeO.ite ?_ ?_|refine LeO.bind ?_ (fun _ => ?_))|exact ih0 _ _ _ _|exact LeO.none _|refine LeO.ite ?_ ?_|refine LeO.bind ?_ (fun _ => ?_))
theorem resamp_parts.mono : ∀ a0 a1 k,LeO (resamp_parts.f k a0 a1) (resamp_parts.f (k + 1) a0 a1):=by
 intro a0 a1 k
 have ih0:=resamp_parts.mono_l k
 unfold resamp_parts.f
 repeat' first|(with_reducible first|exact ih0 _ _ _ _|exact LeO.refl _|exact LeO.none _|refine LeO.ite ?_ ?_|refine LeO.bind ?_ (fun _ => ?_))|exact ih0 _ _ _ _|exact LeO.none _|refine LeO.ite ?_ ?_|refine LeO.bind ?_ (fun _ => ?_)
set_option maxHeartbeats 8000000 in
set_option maxRecDepth 100000 in
theorem resamp_parts.calls (k : Nat) (a0 : Int) (a1 : Int) (r1 : Int) (r2 : Int) (w : World) (h : resamp_parts.f k a0 a1 = some (r1,r2)) :
  Calls Try.prog 27 #[.int .i64 a0,.int .i64 a1] w fun e w' => e = .returned (.tuple #[.int .i64 r1,.int .i64 r2]) ∧ Drawn0 w w':=by
 have H : (resamp_parts.l0 k a0 a1 a0 a1) = some (r1,r2):=h
 clear h
 have H':=ak_ H
 clear H
 go_enter Try.func27,Try.ntmps27
 go_wp2
 repeat (go_quiet (fail);try go_wp2)
 go_loopg [6,7] k (fun kq v6 v7 w' => ∃ (x6_1 : Int) (x7_1 : Int),v6 = .int .i64 x6_1 ∧ v7 = .int .i64 x7_1 ∧ Aside0 (resamp_parts.l0 kq a0 a1 x6_1 x7_1 = some (r1,r2)) ∧ Aside0 (kq ≤ k) ∧ Drawn0 w w')
 case atStart => exact ⟨(a0),(a1),(by first|rfl|(simp;done)|(simp [*];done)),(by first|rfl|(simp;done)|(simp [*];done)),H',⟨Nat.le_refl _⟩,by repeat (first|exact Drawn0.refl _|apply Drawn0.step)⟩
 case round =>
  clear H'
  try clear c2
  try clear p2
  obtain ⟨x6_1,x7_1,rfl,rfl,HA,HK1,⟨m1,rfl⟩⟩:=hrel
  (try simp only [i64_w,i32_w])
  cases gk with
  | zero => exact absurd HA.out (by simp [resamp_parts.l0])
  | succ k1 =>
   have H:=HA.out
   clear HA
   simp only [resamp_parts.l0] at H
   by_cases c3 : x7_1 > 0
   ·rw [if_pos c3] at H
    have c3b0 : decide (0 < x7_1) = true:=decide_eq_true c3
    clear c3
    by_cases c4 : x7_1 = 0
    ·rw [if_pos c4] at H
     exact absurd H (by simp)
    ·rw [if_neg c4] at H
     have c4b0 : (x7_1 == 0) = false:=beq_eq_false_iff_ne.mpr c4
     have c4b1 : (x7_1 != 0) = true:=bne_iff_ne.mpr c4
     have H':=ak_ H
     clear H
     go_wp2
     repeat (go_quiet (fail);try go_wp2)
     go_roundg k1
     case measure => have:=HK1.out;omega
     case rel => exact ⟨(x7_1),(Int.tmod x6_1 x7_1),(by first|rfl|(simp;done)|(simp [*];done)),(by first|rfl|(simp;done)|(simp [*];done)),H',⟨by have:=HK1.out;omega⟩,by repeat (first|exact Drawn0.refl _|apply Drawn0.step)⟩
   ·rw [if_neg c3] at H
    have c3b0 : decide (0 < x7_1) = false:=decide_eq_false c3
    clear c3
    by_cases c5 : x6_1 = 0
    ·rw [if_pos c5] at H
     exact absurd H (by simp)
    ·rw [if_neg c5] at H
     have c5b0 : (x6_1 == 0) = false:=beq_eq_false_iff_ne.mpr c5
     have c5b1 : (x6_1 != 0) = true:=bne_iff_ne.mpr c5
     simp only [Option.some.injEq,Prod.mk.injEq] at H
     obtain ⟨rfl,rfl⟩:=H
     go_wp2
     repeat (go_quiet (fail);try go_wp2)
     go_ret2
     exact ⟨by first|rfl|(simp;done)|(simp [*];done),by repeat (first|exact Drawn0.refl _|apply Drawn0.step)⟩

/-! ### resamp_down: function 29 -/
def resamp_down.f (a0 : Int) (a1 : Int) : Option (Int):=if a1 = 0 then (none) else (if (Int.tmod a0 a1) = 0 then (some (wrap64 (Int.tdiv a0 a1))) else (if ((decide (a0 < 0)) != (decide (a1 < 0))) = true then (some (wrap64 ((wrap64 (Int.tdiv a0 a1)) - 1))) else (some (wrap64 (Int.tdiv a0 a1)))))
set_option maxHeartbeats 8000000 in
set_option maxRecDepth 100000 in
theorem resamp_down.calls (a0 : Int) (a1 : Int) (r : Int) (w : World) (h : resamp_down.f a0 a1 = some r) :
  Calls Try.prog 29 #[.int .i64 a0,.int .i64 a1] w fun e w' => e = .returned (.int .i64 r) ∧ Drawn0 w w':=by
 have H : (if a1 = 0 then (none) else (if (Int.tmod a0 a1) = 0 then (some (wrap64 (Int.tdiv a0 a1))) else (if ((decide (a0 < 0)) != (decide (a1 < 0))) = true then (some (wrap64 ((wrap64 (Int.tdiv a0 a1)) - 1))) else (some (wrap64 (Int.tdiv a0 a1)))))) = some r:=h
 clear h
 by_cases c3 : a1 = 0
 ·rw [if_pos c3] at H
  exact absurd H (by simp)
 ·rw [if_neg c3] at H
  have c3b0 : (a1 == 0) = false:=beq_eq_false_iff_ne.mpr c3
  have c3b1 : (a1 != 0) = true:=bne_iff_ne.mpr c3
  by_cases c4 : (Int.tmod a0 a1) = 0
  ·rw [if_pos c4] at H
   have c4b0 : ((Int.tmod a0 a1) == 0) = true:=beq_iff_eq.mpr c4
   have c4b1 : ((Int.tmod a0 a1) != 0) = false:=bne_eq_false_iff_eq.mpr c4
   clear c4
   obtain rfl:=Option.some.inj H
   go_enter Try.func29,Try.ntmps29
   go_wp2
   go_ret
   exact ⟨by first|rfl|(simp;done)|(simp [*];done),by repeat (first|exact Drawn0.refl _|apply Drawn0.step)⟩
  ·rw [if_neg c4] at H
   have c4b0 : ((Int.tmod a0 a1) == 0) = false:=beq_eq_false_iff_ne.mpr c4
   have c4b1 : ((Int.tmod a0 a1) != 0) = true:=bne_iff_ne.mpr c4
   by_cases c5 : ((decide (a0 < 0)) != (decide (a1 < 0))) = true
   ·rw [if_pos c5] at H
    have c5b0 : ((decide (a0 < 0)) != (decide (a1 < 0))) = true:=c5
    (try (have c5b1 : decide ((decide (a0 < 0)) = (decide (a1 < 0))) = false:=by simpa using c5))
    (try (have c5b2 : ((decide (a0 < 0)) == (decide (a1 < 0))) = false:=by simpa using c5))
    (try (have c5b3 : ¬ ((decide (a0 < 0)) = (decide (a1 < 0))):=by simpa using c5))
    clear c5
    obtain rfl:=Option.some.inj H
    go_enter Try.func29,Try.ntmps29
    go_wp2
    go_ret
    exact ⟨by first|rfl|(simp;done)|(simp [*];done),by repeat (first|exact Drawn0.refl _|apply Drawn0.step)⟩
   ·rw [if_neg c5] at H
    have c5b0 : ((decide (a0 < 0)) != (decide (a1 < 0))) = false:=by simpa using c5
    (try (have c5b1 : decide ((decide (a0 < 0)) = (decide (a1 < 0))) = true:=by simpa using c5))
    (try (have c5b2 : ((decide (a0 < 0)) == (decide (a1 < 0))) = true:=by simpa using c5))
    clear c5
    obtain rfl:=Option.some.inj H
    go_enter Try.func29,Try.ntmps29
    go_wp2
    go_ret
    exact ⟨by first|rfl|(simp;done)|(simp [*];done),by repeat (first|exact Drawn0.refl _|apply Drawn0.step)⟩

end Go.Proofs.Ytcicenmmpbgmoaa.P
