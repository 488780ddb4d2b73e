/- The machine side of the laws of one chapter, without conditions: each call of a Go function comes to what the Lean function of its name answers. Written for this claim by a program of the prover. -/
import Derived.Test.YtllglpcpjeggcaaPx0
import Derived.Test.YtllglpcpjeggcaaPx27
namespace Go.Proofs.Ytllglpcpjeggcaa.P
open Go.RowKit Go.Proofs.YtllglpcpjeggcaaW.PrintWords Go.Proofs.YtllglpcpjeggcaaW.PrintLast Go.Proofs.YtllglpcpjeggcaaW.PrintMore
attribute [local go_sem] max2_int min2_int max_two min_two max_three min_three max_four min_four   -- for this text's walks alone
set_option linter.unusedVariables false
set_option linter.unusedSimpArgs false

/-! ### madrigalref6_Power: function 21 -/
def madrigalref6_Power.l0 : Nat → List Int → Int → Int → Option (Int)
 | 0,_,_,_ => none
 | k + 1,x0,x3,x4 => if x4 < (x0.length : Int) then (if x4 < 960 then (if 0 ≤ x4 then ((madrigalref1_Clamp.f k (rd x0 x4) (-1048576) 1048576).bind fun t556 => (madrigalref6_Power.l0 k x0 (wrap64 (x3 + (wrap64 (t556 * t556)))) (wrap64 (x4 + 1)))) else (none)) else (some x3)) else (some x3)
def madrigalref6_Power.f (k : Nat) (l0 : List Int) : Option (Int):=madrigalref6_Power.l0 k l0 0 0
theorem madrigalref6_Power.mono_l : ∀ k,(∀ y0 y1 y2,LeO (madrigalref6_Power.l0 k y0 y1 y2) (madrigalref6_Power.l0 (k + 1) y0 y1 y2))
 | 0 => fun _ _ _ r h => by simp [madrigalref6_Power.l0] at h
 | k + 1 => by
  have ih0:=madrigalref6_Power.mono_l k
  all_goals (intros;first|unfold madrigalref6_Power.l0)
  all_goals (repeat' first|(with_reducible first|exact ih0 _ _ _|exact madrigalref1_Clamp.mono _ _ _ _|exact LeO.refl _|exact LeO.none _|refine LeO.ite ?_ ?_|refine LeO.bind ?_ (fun _ => ?_))|exact ih0 _ _ _|exact madrigalref1_Clamp.mono _ _ _ _|exact LeO.none _|refine LeO.ite ?_ ?_|refine LeO.bind ?_ (fun _ => ?_))
theorem madrigalref6_Power.mono : ∀ a0 k,LeO (madrigalref6_Power.f k a0) (madrigalref6_Power.f (k + 1) a0):=by
 intro a0 k
 have ih0:=madrigalref6_Power.mono_l k
 unfold madrigalref6_Power.f
 repeat' first|(with_reducible first|exact ih0 _ _ _|exact madrigalref1_Clamp.mono _ _ _ _|exact LeO.refl _|exact LeO.none _|refine LeO.ite ?_ ?_|refine LeO.bind ?_ (fun _ => ?_))|exact ih0 _ _ _|exact madrigalref1_Clamp.mono _ _ _ _|exact LeO.none _|refine LeO.ite ?_ ?_|refine LeO.bind ?_ (fun _ => ?_)
set_option maxHeartbeats 8000000 in
set_option maxRecDepth 100000 in
theorem madrigalref6_Power.calls (k : Nat) (A0 : Option Addr) (c0 : Nat) (l0 : List Int) (r : Int) (w : World) (hr0 : Kd.C (Kd.int .i64) w A0 l0.length l0) (hc0 : l0.length ≤ c0) (h : madrigalref6_Power.f k l0 = some r) :
  Calls Try.prog 21 #[.slice A0 l0.length c0] w fun e w' => e = .returned (.int .i64 r) ∧ Drawn0 w w':=by
 have HR0:=ak_ hr0
 have HC0:=ak_ hc0
 clear hr0 hc0
 have H : (madrigalref6_Power.l0 k l0 0 0) = some r:=h
 clear h
 have H':=ak_ H
 clear H
 go_enter Try.func21,Try.ntmps21
 go_wp2
 go_loopg [3,4] k (fun kq v3 v4 w' => ∃ (x3_1 : Int) (x4_1 : Int),v3 = .int .i64 x3_1 ∧ v4 = .int .i64 x4_1 ∧ Aside0 (madrigalref6_Power.l0 kq l0 x3_1 x4_1 = some r) ∧ Aside0 (kq ≤ k) ∧ Drawn0 w w')
 case atStart => exact ⟨(0),(0),(by first|rfl|(simp;done)|(simp [*];done)),(by first|rfl|(simp;done)|(simp [*];done)),H',⟨Nat.le_refl _⟩,by repeat (first|exact Drawn0.refl _|apply Drawn0.step)⟩
 case round =>
  clear H'
  obtain ⟨x3_1,x4_1,rfl,rfl,HA,HK1,⟨m1,rfl⟩⟩:=hrel
  (try simp only [i64_w,i32_w])
  cases gk with
  | zero => exact absurd HA.out (by simp [madrigalref6_Power.l0])
  | succ k1 =>
   have H:=HA.out
   clear HA
   simp only [madrigalref6_Power.l0] at H
   by_cases c2 : x4_1 < (l0.length : Int)
   ·rw [if_pos c2] at H
    have c2b0:=decide_eq_true c2
    clear c2
    by_cases c3 : x4_1 < 960
    ·rw [if_pos c3] at H
     have c3b0:=decide_eq_true c3
     clear c3
     by_cases c4 : 0 ≤ x4_1
     ·rw [if_pos c4] at H
      have c4b0:=decide_eq_true c4
      clear c4
      replace H:=Option.bind_eq_some_iff.mp H
      obtain ⟨t556,A50,H⟩:=H
      (try dsimp only at H)
      have A5:=ak_ A50
      clear A50
      have H':=ak_ H
      clear H
      have p555 : 0 ≤ (x4_1 : Int):=of_decide_eq_true (by first|(with_reducible assumption)|assumption)
      have q555 : x4_1 < (l0.length : Int):=of_decide_eq_true (by first|(with_reducible assumption)|assumption)
      obtain ⟨ad555,e555,hx555_0⟩:=Kd.at_int HR0.out x4_1 p555 q555
      cases e555
      replace p555:=eq_true p555
      replace q555:=eq_true q555
      go_wp2_with (first|((with_reducible refine gate_callee (f:=32) rfl ?_);refine goesL_ (some 20) rfl rfl Try.func32 (by kernel_rfl) rfl #[.int .i64 (rd l0 x4_1),.int .i64 (-1048576),.int .i64 1048576] rfl (by (try simp only [List.map_toArray,List.map_cons,List.map_nil]);first|done|rfl|(simp only [List.length_drop,List.length_take];rfl)) ?_;(with_reducible refine (madrigalref1_Clamp.calls k1 (rd l0 x4_1) (-1048576) 1048576 t556 _ A5.out).mono ?_);rintro e w' ⟨rfl,⟨nd,rfl⟩⟩;refine ⟨_,rfl,?_⟩))
      go_roundg k1
      case measure => have:=HK1.out;omega
      case rel => exact ⟨(wrap64 (x3_1 + (wrap64 (t556 * t556)))),(wrap64 (x4_1 + 1)),(by first|rfl|(simp;done)|(simp [*];done)),(by first|rfl|(simp;done)|(simp [*];done)),H',⟨by have:=HK1.out;omega⟩,by repeat (first|exact Drawn0.refl _|apply Drawn0.step)⟩
     ·rw [if_neg c4] at H
      exact absurd H (by simp)
    ·rw [if_neg c3] at H
     have c3b0:=decide_eq_false c3
     clear c3
     obtain rfl:=Option.some.inj H
     go_wp2
     go_ret
     exact ⟨by first|rfl|(simp;done)|(simp [*];done),by repeat (first|exact Drawn0.refl _|apply Drawn0.step)⟩
   ·rw [if_neg c2] at H
    have c2b0:=decide_eq_false c2
    clear c2
    obtain rfl:=Option.some.inj H
    go_wp2
    go_ret
    exact ⟨by first|rfl|(simp;done)|(simp [*];done),by repeat (first|exact Drawn0.refl _|apply Drawn0.step)⟩

end Go.Proofs.Ytllglpcpjeggcaa.P
