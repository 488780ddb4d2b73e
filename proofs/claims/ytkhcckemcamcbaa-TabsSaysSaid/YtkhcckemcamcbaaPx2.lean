/- The machine side of the laws of one chapter, without conditions: each call of a Go function comes to what the Lean function of its name answers. Written for this claim by a program of the prover. -/
import Derived.Test.YtkhcckemcamcbaaPx0
namespace Go.Proofs.Ytkhcckemcamcbaa.P
open Go.RowKit Go.Proofs.YtkhcckemcamcbaaW.PrintWords Go.Proofs.YtkhcckemcamcbaaW.PrintLast Go.Proofs.YtkhcckemcamcbaaW.PrintMore
attribute [local go_sem] max2_int min2_int max_two min_two max_three min_three max_four min_four   -- for this text's walks alone
set_option linter.unusedVariables false
set_option linter.unusedSimpArgs false

/-! ### tabs_Good: function 11 -/
mutual
def tabs_Good.j0 : Nat → List Int → Bool → Option (Bool)
 | 0,_,_ => none
 | k + 1,x0,x26 => if x26 = true then (some false) else (tabs_Good.l0 k x0 1)
def tabs_Good.l0 : Nat → List Int → Int → Option (Bool)
 | 0,_,_ => none
 | k + 1,x0,x3 => if x3 < (x0.length : Int) then (if 0 ≤ x3 then (if 0 ≤ (wrap64 (x3 - 1)) then (if (wrap64 (x3 - 1)) < (x0.length : Int) then (if (rd x0 x3) ≥ (rd x0 (wrap64 (x3 - 1))) then (some false) else (tabs_Good.l0 k x0 (wrap64 (x3 + 1)))) else (none)) else (none)) else (none)) else (some true)
end
def tabs_Good.f (k : Nat) (l0 : List Int) : Option (Bool):=if (l0.length : Int) < 1 then (tabs_Good.j0 k l0 true) else (if (l0.length : Int) > 256 then (tabs_Good.j0 k l0 true) else (if 0 ≤ (wrap64 ((l0.length : Int) - 1)) then (if (wrap64 ((l0.length : Int) - 1)) < (l0.length : Int) then (if (rd l0 (wrap64 ((l0.length : Int) - 1))) = 0 then (if 0 < (l0.length : Int) then (tabs_Good.j0 k l0 (decide ((rd l0 0) ≥ 256))) else (none)) else (tabs_Good.j0 k l0 true)) else (none)) else (none)))
theorem tabs_Good.mono_l : ∀ k,(∀ y0 y1,LeO (tabs_Good.j0 k y0 y1) (tabs_Good.j0 (k + 1) y0 y1)) ∧ (∀ y0 y1,LeO (tabs_Good.l0 k y0 y1) (tabs_Good.l0 (k + 1) y0 y1))
 | 0 => ⟨fun _ _ r h => by simp [tabs_Good.j0] at h,fun _ _ r h => by simp [tabs_Good.l0] at h⟩
 | k + 1 => by
  obtain ⟨ih0,ih1⟩:=tabs_Good.mono_l k
  refine ⟨?_,?_⟩
  all_goals (intros;first|unfold tabs_Good.j0|unfold tabs_Good.l0)
  all_goals (repeat' first|(with_reducible first|exact ih0 _ _|exact ih1 _ _|exact LeO.refl _|exact LeO.none _|refine LeO.ite ?_ ?_|refine LeO.bind ?_ (fun _ => ?_))|exact ih0 _ _|exact ih1 _ _|exact LeO.none _|refine LeO.ite ?_ ?_|refine LeO.bind ?_ (fun _ => ?_))
theorem tabs_Good.mono : ∀ a0 k,LeO (tabs_Good.f k a0) (tabs_Good.f (k + 1) a0):=by
 intro a0 k
 obtain ⟨ih0,ih1⟩:=tabs_Good.mono_l k
 unfold tabs_Good.f
 repeat' first|(with_reducible first|exact ih0 _ _|exact ih1 _ _|exact LeO.refl _|exact LeO.none _|refine LeO.ite ?_ ?_|refine LeO.bind ?_ (fun _ => ?_))|exact ih0 _ _|exact ih1 _ _|exact LeO.none _|refine LeO.ite ?_ ?_|refine LeO.bind ?_ (fun _ => ?_)
set_option maxHeartbeats 8000000 in
set_option maxRecDepth 100000 in
theorem tabs_Good.calls (k : Nat) (A0 : Option Addr) (c0 : Nat) (l0 : List Int) (r : Bool) (w : World) (hr0 : Kd.C (Kd.int .i64) w A0 l0.length l0) (hc0 : l0.length ≤ c0) (h : tabs_Good.f k l0 = some r) :
  Calls Try.prog 11 #[.slice A0 l0.length c0] w fun e w' => e = .returned (.bool r) ∧ Drawn0 w w':=by
 have HR0:=ak_ hr0
 have HC0:=ak_ hc0
 clear hr0 hc0
 have H : (if (l0.length : Int) < 1 then (tabs_Good.j0 k l0 true) else (if (l0.length : Int) > 256 then (tabs_Good.j0 k l0 true) else (if 0 ≤ (wrap64 ((l0.length : Int) - 1)) then (if (wrap64 ((l0.length : Int) - 1)) < (l0.length : Int) then (if (rd l0 (wrap64 ((l0.length : Int) - 1))) = 0 then (if 0 < (l0.length : Int) then (tabs_Good.j0 k l0 (decide ((rd l0 0) ≥ 256))) else (none)) else (tabs_Good.j0 k l0 true)) else (none)) else (none)))) = some r:=h
 clear h
 have HC2:=ak_ H
 clear H
 go_enter Try.func11,Try.ntmps11
 go_upto_region 1 with (fail)
 repeat (go_quiet (fail);go_upto_region 1 with (fail))
 go_cut [26] (fun v26 wc => ∃ (kq : Nat) (x26_1 : Bool),v26 = .bool x26_1 ∧ Aside0 (tabs_Good.j0 kq l0 x26_1 = some r) ∧ Aside0 (kq ≤ k) ∧ Drawn0 w wc)
 case first =>
  have H:=HC2.out
  clear HC2
  by_cases c3 : (l0.length : Int) < 1
  ·rw [if_pos c3] at H
   have c3b0:=decide_eq_true c3
   have c3b1 : decide (l0.length < 1) = true:=decide_eq_true (by omega)
   clear c3
   (first|rw [c3b0]|(simp only [i64_w,i32_w];rw [c3b0])|skip)
   have H':=ak_ H
   clear H
   go_wp2
   repeat (go_quiet (fail);try go_wp2)
   refine Met.intro ?_
   go_step
   (repeat apply Exists.intro)
   first|refine ⟨?rel50,rfl⟩|(refine ⟨?rel50,?st50⟩;case' st50 => (first|rw [c3b0]|simp only [c3b0]))
   case rel50 => exact ⟨_,(true),(by first|rfl|(simp;done)|(simp [*];done)),H',⟨by first|omega|exact Nat.le_refl _⟩,by repeat (first|exact Drawn0.refl _|apply Drawn0.step)⟩
  ·rw [if_neg c3] at H
   have c3b0:=decide_eq_false c3
   have c3b1 : decide (l0.length < 1) = false:=decide_eq_false (by omega)
   clear c3
   (first|rw [c3b0]|(simp only [i64_w,i32_w];rw [c3b0])|skip)
   by_cases c4 : (l0.length : Int) > 256
   ·rw [if_pos c4] at H
    have c4b0 : decide (256 < (l0.length : Int)) = true:=decide_eq_true c4
    have c4b1 : decide (256 < l0.length) = true:=decide_eq_true (by omega)
    clear c4
    have H':=ak_ H
    clear H
    go_wp2
    repeat (go_quiet (fail);try go_wp2)
    refine Met.intro ?_
    go_step
    (repeat apply Exists.intro)
    first|refine ⟨?rel66,rfl⟩|(refine ⟨?rel66,?st66⟩;case' st66 => (first|rw [c4b0]|simp only [c4b0]))
    case rel66 => exact ⟨_,(true),(by first|rfl|(simp;done)|(simp [*];done)),H',⟨by first|omega|exact Nat.le_refl _⟩,by repeat (first|exact Drawn0.refl _|apply Drawn0.step)⟩
   ·rw [if_neg c4] at H
    have c4b0 : decide (256 < (l0.length : Int)) = false:=decide_eq_false c4
    have c4b1 : decide (256 < l0.length) = false:=decide_eq_false (by omega)
    clear c4
    obtain ⟨ji5,hji5⟩ : ∃ j_ : Int,(wrap64 ((l0.length : Int) - 1)) = j_:=⟨_,rfl⟩
    replace H : (if 0 ≤ (ji5) then (if (ji5) < (l0.length : Int) then (if (rd l0 (ji5)) = 0 then (if 0 < (l0.length : Int) then (tabs_Good.j0 k l0 (decide ((rd l0 0) ≥ 256))) else (none)) else (tabs_Good.j0 k l0 true)) else (none)) else (none)) = some r:=by first|(rw [hji5] at H;exact H)|(simp only [hji5] at H ⊢;exact H)
    have hji5w : (IntKind.i64.wrap ((l0.length : Int) - 1)) = ji5:=(i64_w _).trans hji5
    by_cases c6 : 0 ≤ (ji5)
    ·rw [if_pos c6] at H
     have c6b0:=decide_eq_true c6
     clear c6
     by_cases c7 : (ji5) < (l0.length : Int)
     ·rw [if_pos c7] at H
      have c7b0:=decide_eq_true c7
      clear c7
      by_cases c8 : (rd l0 (ji5)) = 0
      ·rw [if_pos c8] at H
       have c8b0 : ((rd l0 (ji5)) == 0) = true:=beq_iff_eq.mpr c8
       have c8b1 : ((rd l0 (ji5)) != 0) = false:=bne_eq_false_iff_eq.mpr c8
       clear c8
       by_cases c9 : 0 < (l0.length : Int)
       ·rw [if_pos c9] at H
        have c9b0:=decide_eq_true c9
        have c9b1 : decide (0 < l0.length) = true:=decide_eq_true (by omega)
        clear c9
        have H':=ak_ H
        clear H
        have p101 : 0 ≤ ((ji5) : Int):=of_decide_eq_true (by first|(with_reducible assumption)|assumption)
        have q101 : (ji5) < (l0.length : Int):=of_decide_eq_true (by first|(with_reducible assumption)|assumption)
        obtain ⟨ad101,e101,hx101_0⟩:=Kd.at_int HR0.out (ji5) p101 q101
        cases e101
        replace p101:=eq_true p101
        replace q101:=eq_true q101
        have p102 : 0 ≤ (0 : Int):=(by omega)
        have q102 : 0 < (l0.length : Int):=of_decide_eq_true (by first|(with_reducible assumption)|assumption)
        obtain ⟨ad102,e102,hx102_0⟩:=Kd.at_int HR0.out 0 p102 q102
        obtain rfl : ad101 = ad102:=(by injection e102)
        have qi102 : (0 < l0.length) = True:=eq_true (by omega)
        (try rw [show ((0 : Int)).toNat = 0 from rfl] at hx102_0)
        (try rw [Addr.add_zero'] at hx102_0)
        replace p102:=eq_true p102
        replace q102:=eq_true q102
        go_wp2
        repeat (go_quiet (fail);try go_wp2)
        refine Met.intro ?_
        go_step
        (repeat apply Exists.intro)
        first|refine ⟨?rel112,rfl⟩|(refine ⟨?rel112,?st112⟩;case' st112 => (first|rw [c9b0]|simp only [c9b0]))
        case rel112 => exact ⟨_,(decide ((rd l0 0) ≥ 256)),(by first|rfl|(simp;done)|(simp [*];done)),H',⟨by first|omega|exact Nat.le_refl _⟩,by repeat (first|exact Drawn0.refl _|apply Drawn0.step)⟩
       ·rw [if_neg c9] at H
        exact absurd H (by simp)
      ·rw [if_neg c8] at H
       have c8b0 : ((rd l0 (ji5)) == 0) = false:=beq_eq_false_iff_ne.mpr c8
       have c8b1 : ((rd l0 (ji5)) != 0) = true:=bne_iff_ne.mpr c8
       have H':=ak_ H
       clear H
       have p101 : 0 ≤ ((ji5) : Int):=of_decide_eq_true (by first|(with_reducible assumption)|assumption)
       have q101 : (ji5) < (l0.length : Int):=of_decide_eq_true (by first|(with_reducible assumption)|assumption)
       obtain ⟨ad101,e101,hx101_0⟩:=Kd.at_int HR0.out (ji5) p101 q101
       cases e101
       replace p101:=eq_true p101
       replace q101:=eq_true q101
       go_wp2
       repeat (go_quiet (fail);try go_wp2)
       go_meet
       case rel => exact ⟨_,(true),(by first|rfl|(simp;done)|(simp [*];done)),H',⟨by first|omega|exact Nat.le_refl _⟩,by repeat (first|exact Drawn0.refl _|apply Drawn0.step)⟩
     ·rw [if_neg c7] at H
      exact absurd H (by simp)
    ·rw [if_neg c6] at H
     exact absurd H (by simp)
 case rest =>
  clear HC2
  try clear c1
  try clear p1
  try clear q1
  try clear hx1
  try clear qi1
  try clear p2
  try clear c3
  try clear c3b0
  try clear c3b1
  try clear c4
  try clear c4b0
  try clear c4b1
  try clear c6
  try clear c6b0
  try clear p6
  try clear c7
  try clear c7b0
  try clear c8
  try clear c8b0
  try clear c8b1
  try clear c9
  try clear c9b0
  try clear c9b1
  try clear hx101_0
  try clear hx102_0
  try clear p101
  try clear p102
  try clear q101
  try clear q102
  obtain ⟨kq,x26_1,rfl,HA,HJ1,⟨mc1,rfl⟩⟩:=hcut
  (try simp only [i64_w,i32_w])
  cases kq with
  | zero => exact absurd HA.out (by simp [tabs_Good.j0])
  | succ kj1 =>
   have H:=HA.out
   clear HA
   simp only [tabs_Good.j0] at H
   by_cases c10 : x26_1 = true
   ·subst c10
    have H1 : (some false) = some r:=by rw [if_pos rfl] at H;exact H
    clear H
    have H:=H1
    clear H1
    obtain rfl:=Option.some.inj H
    go_wp2
    repeat (go_quiet (fail);try go_wp2)
    go_ret
    exact ⟨by first|rfl|(simp;done)|(simp [*];done),by repeat (first|exact Drawn0.refl _|apply Drawn0.step)⟩
   ·replace c10:=Bool.eq_false_iff.mpr c10
    subst c10
    have H1 : (tabs_Good.l0 kj1 l0 1) = some r:=by rw [if_neg (show ¬ (false = true) by decide)] at H;exact H
    clear H
    have H:=H1
    clear H1
    have H':=ak_ H
    clear H
    go_wp2
    repeat (go_quiet (fail);try go_wp2)
    go_loopg [3] kj1 (fun kq v3 w' => ∃ (x3_2 : Int),v3 = .int .i64 x3_2 ∧ Aside0 (tabs_Good.l0 kq l0 x3_2 = some r) ∧ Aside0 (kq ≤ kj1) ∧ Drawn0 w w')
    case atStart => exact ⟨(1),(by first|rfl|(simp;done)|(simp [*];done)),H',⟨Nat.le_refl _⟩,by repeat (first|exact Drawn0.refl _|apply Drawn0.step)⟩
    case round =>
     clear H'
     try clear c1
     try clear p1
     try clear q1
     try clear hx1
     try clear qi1
     try clear p2
     try clear c3
     try clear c3b0
     try clear c3b1
     try clear c4
     try clear c4b0
     try clear c4b1
     try clear c6
     try clear c6b0
     try clear p6
     try clear c7
     try clear c7b0
     try clear c8
     try clear c8b0
     try clear c8b1
     try clear c9
     try clear c9b0
     try clear c9b1
     try clear c10
     try clear p10
     try clear q10
     try clear hx10
     try clear qi10
     try clear hx101_0
     try clear hx102_0
     try clear p1
     try clear p101
     try clear p102
     try clear p2
     try clear p6
     try clear q1
     try clear q101
     try clear q102
     obtain ⟨x3_2,rfl,HA,HK2,⟨m2,rfl⟩⟩:=hrel
     (try simp only [i64_w,i32_w])
     cases gk with
     | zero => exact absurd HA.out (by simp [tabs_Good.l0])
     | succ k2 =>
      have H:=HA.out
      clear HA
      simp only [tabs_Good.l0] at H
      by_cases c11 : x3_2 < (l0.length : Int)
      ·rw [if_pos c11] at H
       have c11b0:=decide_eq_true c11
       clear c11
       by_cases c12 : 0 ≤ x3_2
       ·rw [if_pos c12] at H
        have c12b0:=decide_eq_true c12
        clear c12
        obtain ⟨ji13,hji13⟩ : ∃ j_ : Int,(wrap64 (x3_2 - 1)) = j_:=⟨_,rfl⟩
        replace H : (if 0 ≤ (ji13) then (if (ji13) < (l0.length : Int) then (if (rd l0 x3_2) ≥ (rd l0 (ji13)) then (some false) else (tabs_Good.l0 k2 l0 (wrap64 (x3_2 + 1)))) else (none)) else (none)) = some r:=by first|(rw [hji13] at H;exact H)|(simp only [hji13] at H ⊢;exact H)
        have hji13w : (IntKind.i64.wrap (x3_2 - 1)) = ji13:=(i64_w _).trans hji13
        by_cases c14 : 0 ≤ (ji13)
        ·rw [if_pos c14] at H
         have c14b0:=decide_eq_true c14
         clear c14
         by_cases c15 : (ji13) < (l0.length : Int)
         ·rw [if_pos c15] at H
          have c15b0:=decide_eq_true c15
          clear c15
          by_cases c16 : (rd l0 x3_2) ≥ (rd l0 (ji13))
          ·rw [if_pos c16] at H
           have c16b0 : decide ((rd l0 (ji13)) ≤ (rd l0 x3_2)) = true:=decide_eq_true c16
           clear c16
           obtain rfl:=Option.some.inj H
           have p103 : 0 ≤ (x3_2 : Int):=of_decide_eq_true (by first|(with_reducible assumption)|assumption)
           have q103 : x3_2 < (l0.length : Int):=of_decide_eq_true (by first|(with_reducible assumption)|assumption)
           obtain ⟨ad103,e103,hx103_0⟩:=Kd.at_int HR0.out x3_2 p103 q103
           cases e103
           replace p103:=eq_true p103
           replace q103:=eq_true q103
           have p104 : 0 ≤ ((ji13) : Int):=of_decide_eq_true (by first|(with_reducible assumption)|assumption)
           have q104 : (ji13) < (l0.length : Int):=of_decide_eq_true (by first|(with_reducible assumption)|assumption)
           obtain ⟨ad104,e104,hx104_0⟩:=Kd.at_int HR0.out (ji13) p104 q104
           obtain rfl : ad103 = ad104:=(by injection e104)
           replace p104:=eq_true p104
           replace q104:=eq_true q104
           go_wp2
           repeat (go_quiet (fail);try go_wp2)
           go_ret
           exact ⟨by first|rfl|(simp;done)|(simp only [← hji13] <;> (first|rfl|simp))|(simp [*];done),by repeat (first|exact Drawn0.refl _|apply Drawn0.step)⟩
          ·rw [if_neg c16] at H
           have c16b0 : decide ((rd l0 (ji13)) ≤ (rd l0 x3_2)) = false:=decide_eq_false c16
           clear c16
           have H':=ak_ H
           clear H
           have p103 : 0 ≤ (x3_2 : Int):=of_decide_eq_true (by first|(with_reducible assumption)|assumption)
           have q103 : x3_2 < (l0.length : Int):=of_decide_eq_true (by first|(with_reducible assumption)|assumption)
           obtain ⟨ad103,e103,hx103_0⟩:=Kd.at_int HR0.out x3_2 p103 q103
           cases e103
           replace p103:=eq_true p103
           replace q103:=eq_true q103
           have p104 : 0 ≤ ((ji13) : Int):=of_decide_eq_true (by first|(with_reducible assumption)|assumption)
           have q104 : (ji13) < (l0.length : Int):=of_decide_eq_true (by first|(with_reducible assumption)|assumption)
           obtain ⟨ad104,e104,hx104_0⟩:=Kd.at_int HR0.out (ji13) p104 q104
           obtain rfl : ad103 = ad104:=(by injection e104)
           replace p104:=eq_true p104
           replace q104:=eq_true q104
           go_wp2
           repeat (go_quiet (fail);try go_wp2)
           go_roundg k2
           case measure => have:=HJ1.out;have:=HK2.out;omega
           case rel => exact ⟨(wrap64 (x3_2 + 1)),(by first|rfl|(simp;done)|(simp [*];done)),H',⟨by have:=HJ1.out;have:=HK2.out;omega⟩,by repeat (first|exact Drawn0.refl _|apply Drawn0.step)⟩
         ·rw [if_neg c15] at H
          exact absurd H (by simp)
        ·rw [if_neg c14] at H
         exact absurd H (by simp)
       ·rw [if_neg c12] at H
        exact absurd H (by simp)
      ·rw [if_neg c11] at H
       have c11b0:=decide_eq_false c11
       clear c11
       obtain rfl:=Option.some.inj H
       go_wp2
       repeat (go_quiet (fail);try go_wp2)
       go_ret
       exact ⟨by first|rfl|(simp;done)|(simp [*];done),by repeat (first|exact Drawn0.refl _|apply Drawn0.step)⟩

end Go.Proofs.Ytkhcckemcamcbaa.P
