/- The machine side of the laws of one chapter, without conditions: each call of a Go function comes to what the Lean function of its name answers. Written for this claim by a program of the prover. -/
import Derived.Test.YtcicenmmpbgmoaaPx0
import Derived.Test.YtcicenmmpbgmoaaPx20
namespace Go.Proofs.Ytcicenmmpbgmoaa.P
open Go.RowKit Go.Proofs.YtcicenmmpbgmoaaW.PrintWords Go.Proofs.YtcicenmmpbgmoaaW.PrintLast Go.Proofs.YtcicenmmpbgmoaaW.PrintMore
attribute [local go_sem] max2_int min2_int max_two min_two max_three min_three max_four min_four   -- for this text's walks alone
set_option linter.unusedVariables false
set_option linter.unusedSimpArgs false

/-! ### madrigalref1_series: function 45 -/
def madrigalref1_series.l0 : Nat → Int → Int → List Int → Int → Option (Int)
 | 0,_,_,_,_ => none
 | k + 1,x0,x1,x2,x7 => if x7 < (x2.length : Int) then (if 0 ≤ x7 then ((madrigalref1_Mul.f k x0 x1 30).bind fun t288 => (madrigalref1_series.l0 k x0 (wrap64 ((rd x2 x7) + t288)) x2 (wrap64 (x7 + 1)))) else (none)) else (some x1)
def madrigalref1_series.f (k : Nat) (a0 : Int) (a1 : Int) (l2 : List Int) : Option (Int):=madrigalref1_series.l0 k a0 a1 l2 0
theorem madrigalref1_series.mono_l : ∀ k,(∀ y0 y1 y2 y3,LeO (madrigalref1_series.l0 k y0 y1 y2 y3) (madrigalref1_series.l0 (k + 1) y0 y1 y2 y3))
 | 0 => fun _ _ _ _ r h => by simp [madrigalref1_series.l0] at h
 | k + 1 => by
  have ih0:=madrigalref1_series.mono_l k
  all_goals (intros;first|unfold madrigalref1_series.l0)
  all_goals (repeat' first|(with_reducible first|exact ih0 _ _ _ _|exact madrigalref1_Mul.mono _ _ _ _|exact LeO.refl _|exact LeO.none _|refine LeO.ite ?_ ?_|refine LeO.bind ?_ (fun _ => ?_))|exact ih0 _ _ _ _|exact madrigalref1_Mul.mono _ _ _ _|exact LeO.none _|refine LeO.ite ?_ ?_|refine LeO.bind ?_ (fun _ => ?_))
theorem madrigalref1_series.mono : ∀ a0 a1 a2 k,LeO (madrigalref1_series.f k a0 a1 a2) (madrigalref1_series.f (k + 1) a0 a1 a2):=by
 intro a0 a1 a2 k
 have ih0:=madrigalref1_series.mono_l k
 unfold madrigalref1_series.f
 repeat' first|(with_reducible first|exact ih0 _ _ _ _|exact madrigalref1_Mul.mono _ _ _ _|exact LeO.refl _|exact LeO.none _|refine LeO.ite ?_ ?_|refine LeO.bind ?_ (fun _ => ?_))|exact ih0 _ _ _ _|exact madrigalref1_Mul.mono _ _ _ _|exact LeO.none _|refine LeO.ite ?_ ?_|refine LeO.bind ?_ (fun _ => ?_)
set_option maxHeartbeats 8000000 in
set_option maxRecDepth 100000 in
theorem madrigalref1_series.calls (k : Nat) (a0 : Int) (a1 : Int) (A2 : Option Addr) (c2 : Nat) (l2 : List Int) (r : Int) (w : World) (hr2 : Kd.C (Kd.int .i64) w A2 l2.length l2) (hc2 : l2.length ≤ c2) (h : madrigalref1_series.f k a0 a1 l2 = some r) :
  Calls Try.prog 45 #[.int .i64 a0,.int .i64 a1,.slice A2 l2.length c2] w fun e w' => e = .returned (.int .i64 r) ∧ Drawn0 w w':=by
 have HR2:=ak_ hr2
 have HC2:=ak_ hc2
 clear hr2 hc2
 have H : (madrigalref1_series.l0 k a0 a1 l2 0) = some r:=h
 clear h
 have H':=ak_ H
 clear H
 go_enter Try.func45,Try.ntmps45
 go_wp2
 repeat (go_quiet (fail);try go_wp2)
 go_loopg [1,7] k (fun kq v1 v7 w' => ∃ (x1_1 : Int) (x7_1 : Int),v1 = .int .i64 x1_1 ∧ v7 = .int .i64 x7_1 ∧ Aside0 (madrigalref1_series.l0 kq a0 x1_1 l2 x7_1 = some r) ∧ Aside0 (kq ≤ k) ∧ Drawn0 w w')
 case atStart => exact ⟨(a1),(0),(by first|rfl|(simp;done)|(simp [*];done)),(by first|rfl|(simp;done)|(simp [*];done)),H',⟨Nat.le_refl _⟩,by repeat (first|exact Drawn0.refl _|apply Drawn0.step)⟩
 case round =>
  clear H'
  try clear c2
  try clear p2
  obtain ⟨x1_1,x7_1,rfl,rfl,HA,HK1,⟨m1,rfl⟩⟩:=hrel
  (try simp only [i64_w,i32_w])
  cases gk with
  | zero => exact absurd HA.out (by simp [madrigalref1_series.l0])
  | succ k1 =>
   have H:=HA.out
   clear HA
   simp only [madrigalref1_series.l0] at H
   by_cases c4 : x7_1 < (l2.length : Int)
   ·rw [if_pos c4] at H
    have c4b0:=decide_eq_true c4
    clear c4
    by_cases c5 : 0 ≤ x7_1
    ·rw [if_pos c5] at H
     have c5b0:=decide_eq_true c5
     clear c5
     replace H:=Option.bind_eq_some_iff.mp H
     obtain ⟨t288,A60,H⟩:=H
     (try dsimp only at H)
     have A6:=ak_ A60
     clear A60
     have H':=ak_ H
     clear H
     have p287 : 0 ≤ (x7_1 : Int):=of_decide_eq_true (by first|(with_reducible assumption)|assumption)
     have q287 : x7_1 < (l2.length : Int):=of_decide_eq_true (by first|(with_reducible assumption)|assumption)
     obtain ⟨ad287,e287,hx287_0⟩:=Kd.at_int HR2.out x7_1 p287 q287
     cases e287
     replace p287:=eq_true p287
     replace q287:=eq_true q287
     go_wp2_with (first|(go_at_call 37;(with_reducible refine (madrigalref1_Mul.calls k1 a0 x1_1 30 t288 _ A6.out).mono ?_);rintro e w' ⟨rfl,⟨nd,rfl⟩⟩;(try first|exact ⟨rfl,_,World.drewN_drewN _ _ _⟩|exact ⟨rfl,_,Eq.trans (World.drewN_drewN _ _ _) (congrArg (World.drewN _) (Nat.add_assoc _ _ _))⟩)))
     repeat (go_quiet (first|(go_at_call 37;(with_reducible refine (madrigalref1_Mul.calls k1 a0 x1_1 30 t288 _ A6.out).mono ?_);rintro e w' ⟨rfl,⟨nd,rfl⟩⟩;(try first|exact ⟨rfl,_,World.drewN_drewN _ _ _⟩|exact ⟨rfl,_,Eq.trans (World.drewN_drewN _ _ _) (congrArg (World.drewN _) (Nat.add_assoc _ _ _))⟩)));try go_wp2_with (first|(go_at_call 37;(with_reducible refine (madrigalref1_Mul.calls k1 a0 x1_1 30 t288 _ A6.out).mono ?_);rintro e w' ⟨rfl,⟨nd,rfl⟩⟩;(try first|exact ⟨rfl,_,World.drewN_drewN _ _ _⟩|exact ⟨rfl,_,Eq.trans (World.drewN_drewN _ _ _) (congrArg (World.drewN _) (Nat.add_assoc _ _ _))⟩))))
     go_roundg k1
     case measure => have:=HK1.out;omega
     case rel => exact ⟨(wrap64 ((rd l2 x7_1) + t288)),(wrap64 (x7_1 + 1)),(by first|rfl|(simp;done)|(simp [*];done)),(by first|rfl|(simp;done)|(simp [*];done)),H',⟨by have:=HK1.out;omega⟩,by repeat (first|exact Drawn0.refl _|apply Drawn0.step)⟩
    ·rw [if_neg c5] at H
     exact absurd H (by simp)
   ·rw [if_neg c4] at H
    have c4b0:=decide_eq_false c4
    clear c4
    obtain rfl:=Option.some.inj H
    go_wp2
    repeat (go_quiet (fail);try go_wp2)
    go_ret
    exact ⟨by first|rfl|(simp;done)|(simp [*];done),by repeat (first|exact Drawn0.refl _|apply Drawn0.step)⟩

end Go.Proofs.Ytcicenmmpbgmoaa.P
