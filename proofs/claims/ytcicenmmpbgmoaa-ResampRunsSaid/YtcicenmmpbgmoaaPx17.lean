/- The machine side of the laws of one chapter, without conditions: each call of a Go function comes to what the Lean function of its name answers. Written for this claim by a program of the prover. -/
import Derived.Test.YtcicenmmpbgmoaaPx0
namespace Go.Proofs.Ytcicenmmpbgmoaa.P
open Go.RowKit Go.Proofs.YtcicenmmpbgmoaaW.PrintWords Go.Proofs.YtcicenmmpbgmoaaW.PrintLast Go.Proofs.YtcicenmmpbgmoaaW.PrintMore
attribute [local go_sem] max2_int min2_int max_two min_two max_three min_three max_four min_four   -- for this text's walks alone
set_option linter.unusedVariables false
set_option linter.unusedSimpArgs false

/-! ### madrigalref10_Known: function 15 -/
def madrigalref10_Known.f (a0 : Int) : Option (Bool):=if a0 = 8000 then (some true) else (if a0 = 12000 then (some true) else (if a0 = 16000 then (some true) else (if a0 = 24000 then (some true) else (some (a0 == 48000)))))
set_option maxHeartbeats 8000000 in
set_option maxRecDepth 100000 in
theorem madrigalref10_Known.calls (a0 : Int) (r : Bool) (w : World) (h : madrigalref10_Known.f a0 = some r) :
  Calls Try.prog 15 #[.int .i64 a0] w fun e w' => e = .returned (.bool r) ∧ Drawn0 w w':=by
 have H : (if a0 = 8000 then (some true) else (if a0 = 12000 then (some true) else (if a0 = 16000 then (some true) else (if a0 = 24000 then (some true) else (some (a0 == 48000)))))) = some r:=h
 clear h
 by_cases c2 : a0 = 8000
 ·rw [if_pos c2] at H
  have c2b0 : (a0 == 8000) = true:=beq_iff_eq.mpr c2
  have c2b1 : (a0 != 8000) = false:=bne_eq_false_iff_eq.mpr c2
  clear c2
  obtain rfl:=Option.some.inj H
  go_enter Try.func15,Try.ntmps15
  go_wp2
  go_ret
  exact ⟨by first|rfl|(simp;done)|(simp [*];done),by repeat (first|exact Drawn0.refl _|apply Drawn0.step)⟩
 ·rw [if_neg c2] at H
  have c2b0 : (a0 == 8000) = false:=beq_eq_false_iff_ne.mpr c2
  have c2b1 : (a0 != 8000) = true:=bne_iff_ne.mpr c2
  by_cases c3 : a0 = 12000
  ·rw [if_pos c3] at H
   have c3b0 : (a0 == 12000) = true:=beq_iff_eq.mpr c3
   have c3b1 : (a0 != 12000) = false:=bne_eq_false_iff_eq.mpr c3
   clear c3
   obtain rfl:=Option.some.inj H
   go_enter Try.func15,Try.ntmps15
   go_wp2
   go_ret
   exact ⟨by first|rfl|(simp;done)|(simp [*];done),by repeat (first|exact Drawn0.refl _|apply Drawn0.step)⟩
  ·rw [if_neg c3] at H
   have c3b0 : (a0 == 12000) = false:=beq_eq_false_iff_ne.mpr c3
   have c3b1 : (a0 != 12000) = true:=bne_iff_ne.mpr c3
   by_cases c4 : a0 = 16000
   ·rw [if_pos c4] at H
    have c4b0 : (a0 == 16000) = true:=beq_iff_eq.mpr c4
    have c4b1 : (a0 != 16000) = false:=bne_eq_false_iff_eq.mpr c4
    clear c4
    obtain rfl:=Option.some.inj H
    go_enter Try.func15,Try.ntmps15
    go_wp2
    go_ret
    exact ⟨by first|rfl|(simp;done)|(simp [*];done),by repeat (first|exact Drawn0.refl _|apply Drawn0.step)⟩
   ·rw [if_neg c4] at H
    have c4b0 : (a0 == 16000) = false:=beq_eq_false_iff_ne.mpr c4
    have c4b1 : (a0 != 16000) = true:=bne_iff_ne.mpr c4
    by_cases c5 : a0 = 24000
    ·rw [if_pos c5] at H
     have c5b0 : (a0 == 24000) = true:=beq_iff_eq.mpr c5
     have c5b1 : (a0 != 24000) = false:=bne_eq_false_iff_eq.mpr c5
     clear c5
     obtain rfl:=Option.some.inj H
     go_enter Try.func15,Try.ntmps15
     go_wp2
     go_ret
     exact ⟨by first|rfl|(simp;done)|(simp [*];done),by repeat (first|exact Drawn0.refl _|apply Drawn0.step)⟩
    ·rw [if_neg c5] at H
     have c5b0 : (a0 == 24000) = false:=beq_eq_false_iff_ne.mpr c5
     have c5b1 : (a0 != 24000) = true:=bne_iff_ne.mpr c5
     obtain rfl:=Option.some.inj H
     go_enter Try.func15,Try.ntmps15
     go_wp2
     go_ret
     exact ⟨by first|rfl|(simp;done)|(simp [*];done),by repeat (first|exact Drawn0.refl _|apply Drawn0.step)⟩

/-! ### madrigalref10_Parts: function 17 -/
def madrigalref10_Parts.l0 : Nat → Int → Int → Int → Int → Option (Int × Int)
 | 0,_,_,_,_ => none
 | k + 1,x0,x1,x6,x7 => if x7 > 0 then (if x7 = 0 then (none) else (madrigalref10_Parts.l0 k x0 x1 x7 (Int.tmod x6 x7))) else (if x6 = 0 then (none) else (some (wrap64 (Int.tdiv x1 x6),wrap64 (Int.tdiv x0 x6))))
def madrigalref10_Parts.f (k : Nat) (a0 : Int) (a1 : Int) : Option (Int × Int):=madrigalref10_Parts.l0 k a0 a1 a0 a1
theorem madrigalref10_Parts.mono_l : ∀ k,(∀ y0 y1 y2 y3,LeO (madrigalref10_Parts.l0 k y0 y1 y2 y3) (madrigalref10_Parts.l0 (k + 1) y0 y1 y2 y3))
 | 0 => fun _ _ _ _ r h => by simp [madrigalref10_Parts.l0] at h
 | k + 1 => by
  have ih0:=madrigalref10_Parts.mono_l k
  all_goals (intros;first|unfold madrigalref10_Parts.l0)
  all_goals (repeat' first|(with_reducible first|exact ih0 _ _ _ _|exact LeO.refl _|exact LeO.none _|refine LeO.ite ?_ ?_|refine LeO.bind ?_ (fun _ => ?_))|exact ih0 _ _ _ _|exact LeO.none _|refine LeO.ite ?_ ?_|refine LeO.bind ?_ (fun _ => ?_))
theorem madrigalref10_Parts.mono : ∀ a0 a1 k,LeO (madrigalref10_Parts.f k a0 a1) (madrigalref10_Parts.f (k + 1) a0 a1):=by
 intro a0 a1 k
 have ih0:=madrigalref10_Parts.mono_l k
 unfold madrigalref10_Parts.f
 repeat' first|(with_reducible first|exact ih0 _ _ _ _|exact LeO.refl _|exact LeO.none _|refine LeO.ite ?_ ?_|refine LeO.bind ?_ (fun _ => ?_))|exact ih0 _ _ _ _|exact LeO.none _|refine LeO.ite ?_ ?_|refine LeO.bind ?_ (fun _ => ?_)
set_option maxHeartbeats 8000000 in
set_option maxRecDepth 100000 in
theorem madrigalref10_Parts.calls (k : Nat) (a0 : Int) (a1 : Int) (r1 : Int) (r2 : Int) (w : World) (h : madrigalref10_Parts.f k a0 a1 = some (r1,r2)) :
  Calls Try.prog 17 #[.int .i64 a0,.int .i64 a1] w fun e w' => e = .returned (.tuple #[.int .i64 r1,.int .i64 r2]) ∧ Drawn0 w w':=by
 have H : (madrigalref10_Parts.l0 k a0 a1 a0 a1) = some (r1,r2):=h
 clear h
 have H':=ak_ H
 clear H
 go_enter Try.func17,Try.ntmps17
 go_wp2
 repeat (go_quiet (fail);try go_wp2)
 go_loopg [6,7] k (fun kq v6 v7 w' => ∃ (x6_1 : Int) (x7_1 : Int),v6 = .int .i64 x6_1 ∧ v7 = .int .i64 x7_1 ∧ Aside0 (madrigalref10_Parts.l0 kq a0 a1 x6_1 x7_1 = some (r1,r2)) ∧ Aside0 (kq ≤ k) ∧ Drawn0 w w')
 case atStart => exact ⟨(a0),(a1),(by first|rfl|(simp;done)|(simp [*];done)),(by first|rfl|(simp;done)|(simp [*];done)),H',⟨Nat.le_refl _⟩,by repeat (first|exact Drawn0.refl _|apply Drawn0.step)⟩
 case round =>
  clear H'
  try clear c1
  try clear p2
  obtain ⟨x6_1,x7_1,rfl,rfl,HA,HK1,⟨m1,rfl⟩⟩:=hrel
  (try simp only [i64_w,i32_w])
  cases gk with
  | zero => exact absurd HA.out (by simp [madrigalref10_Parts.l0])
  | succ k1 =>
   have H:=HA.out
   clear HA
   simp only [madrigalref10_Parts.l0] at H
   by_cases c3 : x7_1 > 0
   ·rw [if_pos c3] at H
    have c3b0 : decide (0 < x7_1) = true:=decide_eq_true c3
    clear c3
    by_cases c4 : x7_1 = 0
    ·rw [if_pos c4] at H
     exact absurd H (by simp)
    ·rw [if_neg c4] at H
     have c4b0 : (x7_1 == 0) = false:=beq_eq_false_iff_ne.mpr c4
     have c4b1 : (x7_1 != 0) = true:=bne_iff_ne.mpr c4
     have H':=ak_ H
     clear H
     go_wp2
     repeat (go_quiet (fail);try go_wp2)
     go_roundg k1
     case measure => have:=HK1.out;omega
     case rel => exact ⟨(x7_1),(Int.tmod x6_1 x7_1),(by first|rfl|(simp;done)|(simp [*];done)),(by first|rfl|(simp;done)|(simp [*];done)),H',⟨by have:=HK1.out;omega⟩,by repeat (first|exact Drawn0.refl _|apply Drawn0.step)⟩
   ·rw [if_neg c3] at H
    have c3b0 : decide (0 < x7_1) = false:=decide_eq_false c3
    clear c3
    by_cases c5 : x6_1 = 0
    ·rw [if_pos c5] at H
     exact absurd H (by simp)
    ·rw [if_neg c5] at H
     have c5b0 : (x6_1 == 0) = false:=beq_eq_false_iff_ne.mpr c5
     have c5b1 : (x6_1 != 0) = true:=bne_iff_ne.mpr c5
     simp only [Option.some.injEq,Prod.mk.injEq] at H
     obtain ⟨rfl,rfl⟩:=H
     go_wp2
     repeat (go_quiet (fail);try go_wp2)
     go_ret2
     exact ⟨by first|rfl|(simp;done)|(simp [*];done),by repeat (first|exact Drawn0.refl _|apply Drawn0.step)⟩

end Go.Proofs.Ytcicenmmpbgmoaa.P
