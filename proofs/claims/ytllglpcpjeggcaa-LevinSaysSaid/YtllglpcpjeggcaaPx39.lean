/- The machine side of the laws of one chapter, without conditions: each call of a Go function comes to what the Lean function of its name answers. Written for this claim by a program of the prover. -/
import Derived.Test.YtllglpcpjeggcaaPx0
import Derived.Test.YtllglpcpjeggcaaPx3
import Derived.Test.YtllglpcpjeggcaaPx7
import Derived.Test.YtllglpcpjeggcaaPx10
import Derived.Test.YtllglpcpjeggcaaPx11
import Derived.Test.YtllglpcpjeggcaaPx12
import Derived.Test.YtllglpcpjeggcaaPx24
import Derived.Test.YtllglpcpjeggcaaPx25
import Derived.Test.YtllglpcpjeggcaaPx29
import Derived.Test.YtllglpcpjeggcaaPx36
import Derived.Test.YtllglpcpjeggcaaPx37
import Derived.Test.YtllglpcpjeggcaaPx38
namespace Go.Proofs.Ytllglpcpjeggcaa.P
open Go.RowKit Go.Proofs.YtllglpcpjeggcaaW.PrintWords Go.Proofs.YtllglpcpjeggcaaW.PrintLast Go.Proofs.YtllglpcpjeggcaaW.PrintMore
attribute [local go_sem] max2_int min2_int max_two min_two max_three min_three max_four min_four   -- for this text's walks alone
set_option linter.unusedVariables false
set_option linter.unusedSimpArgs false

/-! ### madrigallaw12_LevinSays: function 4 -/
mutual
def madrigallaw12_LevinSays.j0 : Nat → List Int → Int → List Int → List Int → Bool → Option (Bool)
 | 0,_,_,_,_,_ => none
 | k + 1,x0,x1,x2,x3,x27 => if x27 = true then (some true) else ((some (([] : List Int) : List Int)).bind fun y558 => (if y558.length + x0.length < 17592186044416 then ((levin_Auto.f k (y558 ++ x0) x1).bind fun bt564 => (if (x0.length : Int) > 960 then (madrigallaw12_LevinSays.j1 k x0 x1 x2 x3 bt564.1 bt564.2 true) else (if x1 < 1 then (madrigallaw12_LevinSays.j1 k x0 x1 x2 x3 bt564.1 bt564.2 true) else (madrigallaw12_LevinSays.j1 k x0 x1 x2 x3 bt564.1 bt564.2 (decide (x1 > 32)))))) else (none)))
def madrigallaw12_LevinSays.j1 : Nat → List Int → Int → List Int → List Int → List Int → Int → Bool → Option (Bool)
 | 0,_,_,_,_,_,_,_ => none
 | k + 1,x0,x1,x2,x3,x9,x10,x46 => if x46 = true then (if x10 = 1 then (if (x9.length : Int) = 0 then (madrigallaw12_LevinSays.j2 k x0 x2 x3) else (none)) else (none)) else (if x10 = 0 then ((madrigalref6_Auto.f k x0 x1).bind fun t568 => ((madrigallaw12_same.f k x9 t568).bind fun t571 => (if t571 = true then (madrigallaw12_LevinSays.j2 k x0 x2 x3) else (none)))) else (none))
def madrigallaw12_LevinSays.j2 : Nat → List Int → List Int → List Int → Option (Bool)
 | 0,_,_,_ => none
 | k + 1,x0,x2,x3 => (some (([] : List Int) : List Int)).bind fun y572 => (if y572.length + x2.length < 17592186044416 then ((levin_Solve.f k (y572 ++ x2)).bind fun bt578 => (if (x2.length : Int) < 2 then (madrigallaw12_LevinSays.j3 k x0 x2 x3 bt578.2 bt578.1 true) else (madrigallaw12_LevinSays.j3 k x0 x2 x3 bt578.2 bt578.1 (decide ((x2.length : Int) > 33))))) else (none))
def madrigallaw12_LevinSays.j3 : Nat → List Int → List Int → List Int → Int → List Int → Bool → Option (Bool)
 | 0,_,_,_,_,_,_ => none
 | k + 1,x0,x2,x3,x10,x11,x78 => if x78 = true then (if x10 = 1 then (if (x11.length : Int) = 0 then (madrigallaw12_LevinSays.j4 k x0 x3) else (none)) else (none)) else (if x10 = 0 then ((madrigalref6_Solve.f k x2).bind fun t582 => ((madrigallaw12_same.f k x11 t582).bind fun t585 => (if t585 = true then ((lpc_Stable.f k x11).bind fun t586 => (if t586 = true then (madrigallaw12_LevinSays.j4 k x0 x3) else (none))) else (none)))) else (none))
def madrigallaw12_LevinSays.j4 : Nat → List Int → List Int → Option (Bool)
 | 0,_,_ => none
 | k + 1,x0,x3 => (levin_Rest.f k x0 x3).bind fun bt587 => (if (x0.length : Int) > 960 then (madrigallaw12_LevinSays.j5 k x0 x3 bt587.2 bt587.1 true) else (madrigallaw12_LevinSays.j5 k x0 x3 bt587.2 bt587.1 (decide ((x3.length : Int) > 32))))
def madrigallaw12_LevinSays.j5 : Nat → List Int → List Int → Int → List Int → Bool → Option (Bool)
 | 0,_,_,_,_,_ => none
 | k + 1,x0,x3,x10,x12,x113 => if x113 = true then (if x10 = 1 then (madrigallaw12_LevinSays.j6 k x0 ((x12.length : Int) != 0)) else (madrigallaw12_LevinSays.j6 k x0 true)) else (if x10 = 0 then ((madrigalref6_Rest.f k x0 x3).bind fun t593 => ((madrigallaw12_same.f k x12 t593).bind fun t596 => (madrigallaw12_LevinSays.j7 k x0 (!t596)))) else (madrigallaw12_LevinSays.j7 k x0 true))
def madrigallaw12_LevinSays.j6 : Nat → List Int → Bool → Option (Bool)
 | 0,_,_ => none
 | k + 1,x0,x120 => if x120 = true then (none) else ((levin_Power.f k x0).bind fun t591 => ((madrigalref6_Power.f k x0).bind fun t592 => (some (t591 == t592))))
def madrigallaw12_LevinSays.j7 : Nat → List Int → Bool → Option (Bool)
 | 0,_,_ => none
 | k + 1,x0,x130 => if x130 = true then (none) else ((levin_Power.f k x0).bind fun t597 => ((madrigalref6_Power.f k x0).bind fun t598 => (some (t597 == t598))))
end
def madrigallaw12_LevinSays.f (k : Nat) (l0 : List Int) (a1 : Int) (l2 : List Int) (l3 : List Int) : Option (Bool):=(madrigallaw12_awake.f k).bind fun t557 => (if t557 = true then (if (l0.length : Int) > 1000 then (madrigallaw12_LevinSays.j0 k l0 a1 l2 l3 true) else (if (l2.length : Int) > 40 then (madrigallaw12_LevinSays.j0 k l0 a1 l2 l3 true) else (madrigallaw12_LevinSays.j0 k l0 a1 l2 l3 (decide ((l3.length : Int) > 40))))) else (none))
theorem madrigallaw12_LevinSays.mono_l : ∀ k,(∀ y0 y1 y2 y3 y4,LeO (madrigallaw12_LevinSays.j0 k y0 y1 y2 y3 y4) (madrigallaw12_LevinSays.j0 (k + 1) y0 y1 y2 y3 y4)) ∧ (∀ y0 y1 y2 y3 y4 y5 y6,LeO (madrigallaw12_LevinSays.j1 k y0 y1 y2 y3 y4 y5 y6) (madrigallaw12_LevinSays.j1 (k + 1) y0 y1 y2 y3 y4 y5 y6)) ∧ (∀ y0 y1 y2,LeO (madrigallaw12_LevinSays.j2 k y0 y1 y2) (madrigallaw12_LevinSays.j2 (k + 1) y0 y1 y2)) ∧ (∀ y0 y1 y2 y3 y4 y5,LeO (madrigallaw12_LevinSays.j3 k y0 y1 y2 y3 y4 y5) (madrigallaw12_LevinSays.j3 (k + 1) y0 y1 y2 y3 y4 y5)) ∧ (∀ y0 y1,LeO (madrigallaw12_LevinSays.j4 k y0 y1) (madrigallaw12_LevinSays.j4 (k + 1) y0 y1)) ∧ (∀ y0 y1 y2 y3 y4,LeO (madrigallaw12_LevinSays.j5 k y0 y1 y2 y3 y4) (madrigallaw12_LevinSays.j5 (k + 1) y0 y1 y2 y3 y4)) ∧ (∀ y0 y1,LeO (madrigallaw12_LevinSays.j6 k y0 y1) (madrigallaw12_LevinSays.j6 (k + 1) y0 y1)) ∧ (∀ y0 y1,LeO (madrigallaw12_LevinSays.j7 k y0 y1) (madrigallaw12_LevinSays.j7 (k + 1) y0 y1))
 | 0 => ⟨fun _ _ _ _ _ r h => by simp [madrigallaw12_LevinSays.j0] at h,fun _ _ _ _ _ _ _ r h => by simp [madrigallaw12_LevinSays.j1] at h,fun _ _ _ r h => by simp [madrigallaw12_LevinSays.j2] at h,fun _ _ _ _ _ _ r h => by simp [madrigallaw12_LevinSays.j3] at h,fun _ _ r h => by simp [madrigallaw12_LevinSays.j4] at h,fun _ _ _ _ _ r h => by simp [madrigallaw12_LevinSays.j5] at h,fun _ _ r h => by simp [madrigallaw12_LevinSays.j6] at h,fun _ _ r h => by simp [madrigallaw12_LevinSays.j7] at h⟩
 | k + 1 => by
  obtain ⟨ih0,ih1,ih2,ih3,ih4,ih5,ih6,ih7⟩:=madrigallaw12_LevinSays.mono_l k
  refine ⟨?_,?_,?_,?_,?_,?_,?_,?_⟩
  all_goals (intros;first|unfold madrigallaw12_LevinSays.j0|unfold madrigallaw12_LevinSays.j1|unfold madrigallaw12_LevinSays.j2|unfold madrigallaw12_LevinSays.j3|unfold madrigallaw12_LevinSays.j4|unfold madrigallaw12_LevinSays.j5|unfold madrigallaw12_LevinSays.j6|unfold madrigallaw12_LevinSays.j7)
  all_goals (repeat' first|(with_reducible first|exact ih0 _ _ _ _ _|exact ih1 _ _ _ _ _ _ _|exact ih2 _ _ _|exact ih3 _ _ _ _ _ _|exact ih4 _ _|exact ih5 _ _ _ _ _|exact ih6 _ _|exact ih7 _ _|exact levin_Auto.mono _ _ _|exact levin_Power.mono _ _|exact levin_Rest.mono _ _ _|exact levin_Solve.mono _ _|exact lpc_Stable.mono _ _|exact madrigallaw12_awake.mono _|exact madrigallaw12_same.mono _ _ _|exact madrigalref6_Auto.mono _ _ _|exact madrigalref6_Power.mono _ _|exact madrigalref6_Rest.mono _ _ _|exact madrigalref6_Solve.mono _ _|exact LeO.refl _|exact LeO.none _|refine LeO.ite ?_ ?_|refine LeO.bind ?_ (fun _ => ?_))|exact ih0 _ _ _ _ _|exact ih1 _ _ _ _ _ _ _|exact ih2 _ _ _|exact ih3 _ _ _ _ _ _|exact ih4 _ _|exact ih5 _ _ _ _ _|exact ih6 _ _|exact ih7 _ _|exact levin_Auto.mono _ _ _|exact levin_Power.mono _ _|exact levin_Rest.mono _ _ _|exact levin_Solve.mono _ _|exact lpc_Stable.mono _ _|exact madrigallaw12_awake.mono _|exact madrigallaw12_same.mono _ _ _|exact madrigalref6_Auto.mono _ _ _|exact madrigalref6_Power.mono _ _|exact madrigalref6_Rest.mono _ _ _|exact madrigalref6_Solve.mono _ _|exact LeO.none _|refine LeO.ite ?_ ?_|refine LeO.bind ?_ (fun _ => ?_))
theorem madrigallaw12_LevinSays.mono : ∀ a0 a1 a2 a3 k,LeO (madrigallaw12_LevinSays.f k a0 a1 a2 a3) (madrigallaw12_LevinSays.f (k + 1) a0 a1 a2 a3):=by
 intro a0 a1 a2 a3 k
 obtain ⟨ih0,ih1,ih2,ih3,ih4,ih5,ih6,ih7⟩:=madrigallaw12_LevinSays.mono_l k
 unfold madrigallaw12_LevinSays.f
 repeat' first|(with_reducible first|exact ih0 _ _ _ _ _|exact ih1 _ _ _ _ _ _ _|exact ih2 _ _ _|exact ih3 _ _ _ _ _ _|exact ih4 _ _|exact ih5 _ _ _ _ _|exact ih6 _ _|exact ih7 _ _|exact levin_Auto.mono _ _ _|exact levin_Power.mono _ _|exact levin_Rest.mono _ _ _|exact levin_Solve.mono _ _|exact lpc_Stable.mono _ _|exact madrigallaw12_awake.mono _|exact madrigallaw12_same.mono _ _ _|exact madrigalref6_Auto.mono _ _ _|exact madrigalref6_Power.mono _ _|exact madrigalref6_Rest.mono _ _ _|exact madrigalref6_Solve.mono _ _|exact LeO.refl _|exact LeO.none _|refine LeO.ite ?_ ?_|refine LeO.bind ?_ (fun _ => ?_))|exact ih0 _ _ _ _ _|exact ih1 _ _ _ _ _ _ _|exact ih2 _ _ _|exact ih3 _ _ _ _ _ _|exact ih4 _ _|exact ih5 _ _ _ _ _|exact ih6 _ _|exact ih7 _ _|exact levin_Auto.mono _ _ _|exact levin_Power.mono _ _|exact levin_Rest.mono _ _ _|exact levin_Solve.mono _ _|exact lpc_Stable.mono _ _|exact madrigallaw12_awake.mono _|exact madrigallaw12_same.mono _ _ _|exact madrigalref6_Auto.mono _ _ _|exact madrigalref6_Power.mono _ _|exact madrigalref6_Rest.mono _ _ _|exact madrigalref6_Solve.mono _ _|exact LeO.none _|refine LeO.ite ?_ ?_|refine LeO.bind ?_ (fun _ => ?_)
set_option maxHeartbeats 8000000 in
set_option maxRecDepth 100000 in
theorem madrigallaw12_LevinSays.calls (k : Nat) (A0 : Option Addr) (c0 : Nat) (l0 : List Int) (a1 : Int) (A2 : Option Addr) (c2 : Nat) (l2 : List Int) (A3 : Option Addr) (c3 : Nat) (l3 : List Int) (r : Bool) (w : World) (hr0 : Kd.C (Kd.int .i64) w A0 l0.length l0) (hc0 : l0.length ≤ c0) (hr2 : Kd.C (Kd.int .i64) w A2 l2.length l2) (hc2 : l2.length ≤ c2) (hr3 : Kd.C (Kd.int .i64) w A3 l3.length l3) (hc3 : l3.length ≤ c3) (h : madrigallaw12_LevinSays.f k l0 a1 l2 l3 = some r) :
  Calls Try.prog 4 #[.slice A0 l0.length c0,.int .i64 a1,.slice A2 l2.length c2,.slice A3 l3.length c3] w fun e w' => e = .returned (.bool r) ∧ Below w.heap.size w w':=by
 have HR0:=ak_ hr0
 have HC0:=ak_ hc0
 clear hr0 hc0
 have HR2:=ak_ hr2
 have HC2:=ak_ hc2
 clear hr2 hc2
 have HR3:=ak_ hr3
 have HC3:=ak_ hc3
 clear hr3 hc3
 have HB:=ak_ (Below.refl w.heap.size w)
 have H : ((madrigallaw12_awake.f k).bind fun t557 => (if t557 = true then (if (l0.length : Int) > 1000 then (madrigallaw12_LevinSays.j0 k l0 a1 l2 l3 true) else (if (l2.length : Int) > 40 then (madrigallaw12_LevinSays.j0 k l0 a1 l2 l3 true) else (madrigallaw12_LevinSays.j0 k l0 a1 l2 l3 (decide ((l3.length : Int) > 40))))) else (none))) = some r:=h
 clear h
 replace H:=Option.bind_eq_some_iff.mp H
 obtain ⟨t557,A50,H⟩:=H
 (try dsimp only at H)
 have A5:=ak_ A50
 clear A50
 by_cases c6 : t557 = true
 ·subst c6
  have H1 : (if (l0.length : Int) > 1000 then (madrigallaw12_LevinSays.j0 k l0 a1 l2 l3 true) else (if (l2.length : Int) > 40 then (madrigallaw12_LevinSays.j0 k l0 a1 l2 l3 true) else (madrigallaw12_LevinSays.j0 k l0 a1 l2 l3 (decide ((l3.length : Int) > 40))))) = some r:=by rw [if_pos rfl] at H;exact H
  clear H
  have H:=H1
  clear H1
  have HC7:=ak_ H
  clear H
  go_enter Try.func4,Try.ntmps4
  go_upto_region 3 with (first|((with_reducible refine gate_callee (f:=10) rfl ?_);refine goesL_ (some 13) rfl rfl Try.func10 (by kernel_rfl) rfl #[] rfl (by (try simp only [List.map_toArray,List.map_cons,List.map_nil]);first|done|rfl|(simp only [List.length_drop,List.length_take];rfl)) ?_;(with_reducible refine (madrigallaw12_awake.calls k  true _ A5.out).mono ?_);rintro e w8 ⟨rfl,hb⟩;refine ⟨_,rfl,?_⟩;have n0_:=ak_ (below_step (by repeat (first|(with_reducible first|exact HB.out|apply ba_|apply bb_|apply bc_)|exact HB.out)) hb);clear HB;have HB:=n0_;clear n0_;(try clear hb)))
  (try simp only [Act.put,List.setIfInBounds_toArray,List.set_cons_zero,List.set_cons_succ])
  go_cut [27] (fun v27 wc => ∃ (kq : Nat) (x27_6 : Bool),v27 = .bool x27_6 ∧ Aside0 (madrigallaw12_LevinSays.j0 kq l0 a1 l2 l3 x27_6 = some r) ∧ Aside0 (kq ≤ k) ∧ Aside0 (Below w.heap.size w wc))
  case first =>
   have H:=HC7.out
   clear HC7
   by_cases c9 : (l0.length : Int) > 1000
   ·rw [if_pos c9] at H
    have c9b0 : decide (1000 < (l0.length : Int)) = true:=decide_eq_true c9
    have c9b1 : decide (1000 < l0.length) = true:=decide_eq_true (by omega)
    clear c9
    (first|rw [c9b0]|(simp only [i64_w,i32_w];rw [c9b0])|skip)
    have H':=ak_ H
    clear H
    go_wp2
    refine Met.intro ?_
    go_step
    (repeat apply Exists.intro)
    first|refine ⟨?rel85,rfl⟩|(refine ⟨?rel85,?st85⟩;case' st85 => (first|rw [c9b0]|simp only [c9b0]))
    case rel85 => exact ⟨_,(true),(by first|rfl|(simp;done)|(simp [*];done)),H',⟨by first|omega|exact Nat.le_refl _⟩,⟨by repeat (first|(with_reducible first|exact HB.out|apply ba_|apply bb_|apply bc_)|exact HB.out)⟩⟩
   ·rw [if_neg c9] at H
    have c9b0 : decide (1000 < (l0.length : Int)) = false:=decide_eq_false c9
    have c9b1 : decide (1000 < l0.length) = false:=decide_eq_false (by omega)
    clear c9
    (first|rw [c9b0]|(simp only [i64_w,i32_w];rw [c9b0])|skip)
    by_cases c10 : (l2.length : Int) > 40
    ·rw [if_pos c10] at H
     have c10b0 : decide (40 < (l2.length : Int)) = true:=decide_eq_true c10
     have c10b1 : decide (40 < l2.length) = true:=decide_eq_true (by omega)
     clear c10
     have H':=ak_ H
     clear H
     go_wp2
     refine Met.intro ?_
     go_step
     (repeat apply Exists.intro)
     first|refine ⟨?rel100,rfl⟩|(refine ⟨?rel100,?st100⟩;case' st100 => (first|rw [c10b0]|simp only [c10b0]))
     case rel100 => exact ⟨_,(true),(by first|rfl|(simp;done)|(simp [*];done)),H',⟨by first|omega|exact Nat.le_refl _⟩,⟨by repeat (first|(with_reducible first|exact HB.out|apply ba_|apply bb_|apply bc_)|exact HB.out)⟩⟩
    ·rw [if_neg c10] at H
     have c10b0 : decide (40 < (l2.length : Int)) = false:=decide_eq_false c10
     have c10b1 : decide (40 < l2.length) = false:=decide_eq_false (by omega)
     clear c10
     have H':=ak_ H
     clear H
     go_wp2
     refine Met.intro ?_
     go_step
     (repeat apply Exists.intro)
     first|refine ⟨?rel109,rfl⟩|(refine ⟨?rel109,?st109⟩;case' st109 => (first|rw [c10b0]|simp only [c10b0]))
     case rel109 => exact ⟨_,(decide ((l3.length : Int) > 40)),(by first|rfl|(simp;done)|(simp [*];done)),H',⟨by first|omega|exact Nat.le_refl _⟩,⟨by repeat (first|(with_reducible first|exact HB.out|apply ba_|apply bb_|apply bc_)|exact HB.out)⟩⟩
  case rest =>
   clear HC7
   try clear c1
   try clear c2
   try clear p2
   try clear c3
   try clear c4
   try clear c6
   try clear c9
   try clear c9b0
   try clear c9b1
   try clear c10
   try clear c10b0
   try clear c10b1
   obtain ⟨kq,x27_6,rfl,HA,HJ6,HB⟩:=hcut
   (try simp only [i64_w,i32_w])
   cases kq with
   | zero => exact absurd HA.out (by simp [madrigallaw12_LevinSays.j0])
   | succ kj6 =>
    have H:=HA.out
    clear HA
    simp only [madrigallaw12_LevinSays.j0] at H
    by_cases c11 : x27_6 = true
    ·subst c11
     have H1 : (some true) = some r:=by rw [if_pos rfl] at H;exact H
     clear H
     have H:=H1
     clear H1
     obtain rfl:=Option.some.inj H
     go_wp2
     go_ret
     exact ⟨by first|rfl|(simp [errW_none,errW_some] <;> rfl)|(simp [*,errW_none,errW_some] <;> rfl),by repeat (first|(with_reducible first|exact HB.out|apply ba_|apply bb_|apply bc_)|exact HB.out)⟩
    ·replace c11:=Bool.eq_false_iff.mpr c11
     subst c11
     have H1 : ((some (([] : List Int) : List Int)).bind fun y558 => (if y558.length + l0.length < 17592186044416 then ((levin_Auto.f kj6 (y558 ++ l0) a1).bind fun bt564 => (if (l0.length : Int) > 960 then (madrigallaw12_LevinSays.j1 kj6 l0 a1 l2 l3 bt564.1 bt564.2 true) else (if a1 < 1 then (madrigallaw12_LevinSays.j1 kj6 l0 a1 l2 l3 bt564.1 bt564.2 true) else (madrigallaw12_LevinSays.j1 kj6 l0 a1 l2 l3 bt564.1 bt564.2 (decide (a1 > 32)))))) else (none))) = some r:=by rw [if_neg (show ¬ (false = true) by decide)] at H;exact H
     clear H
     have H:=H1
     clear H1
     obtain ⟨y558,hy558⟩ : ∃ y_ : List Int,y_ = (([] : List Int)):=⟨_,rfl⟩
     replace H : (if y558.length + l0.length < 17592186044416 then ((levin_Auto.f kj6 (y558 ++ l0) a1).bind fun bt564 => (if (l0.length : Int) > 960 then (madrigallaw12_LevinSays.j1 kj6 l0 a1 l2 l3 bt564.1 bt564.2 true) else (if a1 < 1 then (madrigallaw12_LevinSays.j1 kj6 l0 a1 l2 l3 bt564.1 bt564.2 true) else (madrigallaw12_LevinSays.j1 kj6 l0 a1 l2 l3 bt564.1 bt564.2 (decide (a1 > 32)))))) else (none)) = some r:=by first|(rw [hy558];with_reducible exact H)|(have H2_:=(Option.bind_some _ _).symm.trans H;rw [hy558];with_reducible exact H2_)|(have H2_:=(Option.bind_some _ _).symm.trans H;with_reducible exact H2_)|with_reducible exact H|(rw [hy558];exact H)|exact H
     have Ny558:=ak_ hy558
     clear hy558
     by_cases c12 : y558.length + l0.length < 17592186044416
     ·rw [if_pos c12] at H
      have LMc12:=ak_ c12
      clear c12
      obtain ⟨y561,hy561⟩ : ∃ y_ : List Int,y_ = (y558 ++ l0):=⟨_,rfl⟩
      replace H : ((levin_Auto.f kj6 y561 a1).bind fun bt564 => (if (l0.length : Int) > 960 then (madrigallaw12_LevinSays.j1 kj6 l0 a1 l2 l3 bt564.1 bt564.2 true) else (if a1 < 1 then (madrigallaw12_LevinSays.j1 kj6 l0 a1 l2 l3 bt564.1 bt564.2 true) else (madrigallaw12_LevinSays.j1 kj6 l0 a1 l2 l3 bt564.1 bt564.2 (decide (a1 > 32)))))) = some r:=by first|(rw [hy561];with_reducible exact H)|(have H2_:=(Option.bind_some _ _).symm.trans H;rw [hy561];with_reducible exact H2_)|(have H2_:=(Option.bind_some _ _).symm.trans H;with_reducible exact H2_)|with_reducible exact H|(rw [hy561];exact H)|exact H
      have Ny561:=ak_ hy561
      clear hy561
      replace H:=Option.bind_eq_some_iff.mp H
      obtain ⟨⟨t564,t565⟩,A130,H⟩:=H
      (try dsimp only at H)
      have A13:=ak_ A130
      clear A130
      have HC14:=ak_ H
      clear H
      go_upto_region 6 with (first|((with_reducible refine gate_dst (N:=29) rfl ?_);(try (refine gate_guard (by rfl) ?_;dsimp only));refine Kd.R_lit (Kd.int .i64) _ 2 ?hg (N:=29) ?hd (xs:=([] : List Int)) (inner:=[]) (ok:=fun _ => True) (okp:=fun _ => True) ?hr ?hp (fun _ hk => hk) trivial (Below.refl _ _) (Nat.le_refl _) (by simp) ?_;(case hd => rfl);(case hg => rfl);(case hr => first|(go_simp;done)|(go_simp;rfl));(case hp => exact (Reps.none _ _));intro v559 w15 ho16 hb hg_ hnew_;clear hg_ hnew_;(first|rw [← Ny558.out] at ho16|(simp only [Int.reduceToNat] at ho16;rw [← Ny558.out] at ho16));have n0_:=ak_ (Kd.R_lower ho16 (below_size (by repeat (first|(with_reducible first|exact HB.out|apply ba_|apply bb_|apply bc_)|exact HB.out))));have n1_:=ak_ (below_step (by repeat (first|(with_reducible first|exact HB.out|apply ba_|apply bb_|apply bc_)|exact HB.out)) hb);clear HB;have HO560:=n0_;have HB:=n1_;clear n0_ n1_;clear hb ho16)|((with_reducible refine gate_builtin (b:=.append) (xs:=#[.tmp 29,.tmp 30]) rfl ?_);(try (refine gate_guard (by rfl) ?_;dsimp only));at_builtin;refine Kd.R_append_rows (Kd.int .i64) (w0:=w) w.heap.size rfl (.tmp 29) (.tmp 30) 23 2 (.int .i64 0) 8 rfl Try.underlying23 info2 rfl (by decide) (by omega) v559 y558 l0 _ _ _ (fun _ => True) (fun _ => False) rfl rfl ?aO ?aR (fun _ _ h => h) (fun _ h => h.elim) ?aF ?aB ?aS ?aL ?_;(case aR => repeat (first|exact (Kd.C_below HR0.out HB.out)|(with_reducible refine Kd.C_alloc ?_ _)|(with_reducible refine Kd.C_drewN ?_ _)|(with_reducible refine Kd.C_drew ?_)));(case aB => exact (by repeat (first|(with_reducible first|exact HB.out|apply ba_|apply bb_|apply bc_)|exact HB.out)));(case aF => exact (fun _ _ => trivial));(case aO => exact (by (with_reducible repeat (first|apply ra_|apply rb_|apply rc_));exact HO560.out));(case aS => exact (below_size (by repeat (first|(with_reducible first|exact HB.out|apply ba_|apply bb_|apply bc_)|exact HB.out))));(case aL => have:=LMc12.out;omega);intro v562 w17 ho hb hg hat;rw [← Ny561.out] at ho;have n0_:=ak_ (hb);have n1_:=ak_ (ho);clear HB;clear HO560;have HB:=n0_;have HO563:=n1_;clear n0_ n1_;clear ho hb hg hat;obtain ⟨Ao18,co18,eo18⟩:=Kd.R_slice HO563.out;subst eo18)|((with_reducible refine gate_callee (f:=11) rfl ?_);refine goesL_ (some 33) rfl rfl Try.func11 (by kernel_rfl) rfl #[.slice Ao18 y561.length co18,.int .i64 a1] rfl (by (try simp only [List.map_toArray,List.map_cons,List.map_nil]);first|done|rfl|(simp only [List.length_drop,List.length_take];rfl)) ?_;(with_reducible refine (levin_Auto.calls kj6 _ _ y561 a1 t564 t565 _ ?side1 ?side2 A13.out).mono ?_);(case side1 => repeat (first|exact (Kd.R_reads' HO563.out).2.2|(with_reducible refine Kd.C_alloc ?_ _)|(with_reducible refine Kd.C_drewN ?_ _)|(with_reducible refine Kd.C_drew ?_)));(case side2 => exact (Kd.R_reads' HO563.out).2.1);rintro e w19 ⟨v566,rfl,ho0,hb⟩;refine ⟨_,rfl,?_⟩;have n0_:=ak_ (Kd.R_elder' (by (with_reducible repeat (first|apply ra_|apply rb_|apply rc_));exact HO563.out) (Kd.R_base ho0) hb);have n1_:=ak_ (Kd.R_lower (Kd.R_new' ho0 (Kd.R_lt (by (with_reducible repeat (first|apply ra_|apply rb_|apply rc_));exact HO563.out))) (below_size (by repeat (first|(with_reducible first|exact HB.out|apply ba_|apply bb_|apply bc_)|exact HB.out))));have n2_:=ak_ (below_step (by repeat (first|(with_reducible first|exact HB.out|apply ba_|apply bb_|apply bc_)|exact HB.out)) hb);clear HO563;clear HB;have HO563:=n0_;have HO567:=n1_;have HB:=n2_;clear n0_ n1_ n2_;(try clear hb);(try clear ho0)))
      (try simp only [Act.put,List.setIfInBounds_toArray,List.set_cons_zero,List.set_cons_succ])
      go_cut [46] (fun v46 wc => ∃ (kq : Nat) (x46_13 : Bool),v46 = .bool x46_13 ∧ Aside0 (madrigallaw12_LevinSays.j1 kq l0 a1 l2 l3 t564 t565 x46_13 = some r) ∧ Aside0 (kq ≤ kj6) ∧ Aside0 (Kd.R (Kd.int .i64) 2 wc w.heap.size (fun _ => True) v566 t564) ∧ Aside0 (Below w.heap.size w wc))
      case first =>
       have H:=HC14.out
       clear HC14
       by_cases c20 : (l0.length : Int) > 960
       ·rw [if_pos c20] at H
        have c20b0 : decide (960 < (l0.length : Int)) = true:=decide_eq_true c20
        have c20b1 : decide (960 < l0.length) = true:=decide_eq_true (by omega)
        clear c20
        (first|rw [c20b0]|(simp only [i64_w,i32_w];rw [c20b0])|skip)
        have H':=ak_ H
        clear H
        go_wp2
        refine Met.intro ?_
        go_step
        (repeat apply Exists.intro)
        first|refine ⟨?rel183,rfl⟩|(refine ⟨?rel183,?st183⟩;case' st183 => (first|rw [c20b0]|simp only [c20b0]))
        case rel183 => exact ⟨_,(true),(by first|rfl|(simp;done)|(simp [*];done)),H',⟨by have:=HJ6.out;first|omega|exact Nat.le_refl _⟩,⟨by (with_reducible repeat (first|apply ra_|apply rb_|apply rc_));exact Kd.R_mono HO567.out (fun _ hk => trivial)⟩,⟨by repeat (first|(with_reducible first|exact HB.out|apply ba_|apply bb_|apply bc_)|exact HB.out)⟩⟩
       ·rw [if_neg c20] at H
        have c20b0 : decide (960 < (l0.length : Int)) = false:=decide_eq_false c20
        have c20b1 : decide (960 < l0.length) = false:=decide_eq_false (by omega)
        clear c20
        (first|rw [c20b0]|(simp only [i64_w,i32_w];rw [c20b0])|skip)
        by_cases c21 : a1 < 1
        ·rw [if_pos c21] at H
         have c21b0:=decide_eq_true c21
         clear c21
         have H':=ak_ H
         clear H
         go_wp2
         refine Met.intro ?_
         go_step
         (repeat apply Exists.intro)
         first|refine ⟨?rel197,rfl⟩|(refine ⟨?rel197,?st197⟩;case' st197 => (first|rw [c21b0]|simp only [c21b0]))
         case rel197 => exact ⟨_,(true),(by first|rfl|(simp;done)|(simp [*];done)),H',⟨by have:=HJ6.out;first|omega|exact Nat.le_refl _⟩,⟨by (with_reducible repeat (first|apply ra_|apply rb_|apply rc_));exact Kd.R_mono HO567.out (fun _ hk => trivial)⟩,⟨by repeat (first|(with_reducible first|exact HB.out|apply ba_|apply bb_|apply bc_)|exact HB.out)⟩⟩
        ·rw [if_neg c21] at H
         have c21b0:=decide_eq_false c21
         clear c21
         have H':=ak_ H
         clear H
         go_wp2
         refine Met.intro ?_
         go_step
         (repeat apply Exists.intro)
         first|refine ⟨?rel205,rfl⟩|(refine ⟨?rel205,?st205⟩;case' st205 => (first|rw [c21b0]|simp only [c21b0]))
         case rel205 => exact ⟨_,(decide (a1 > 32)),(by first|rfl|(simp;done)|(simp [*];done)),H',⟨by have:=HJ6.out;first|omega|exact Nat.le_refl _⟩,⟨by (with_reducible repeat (first|apply ra_|apply rb_|apply rc_));exact Kd.R_mono HO567.out (fun _ hk => trivial)⟩,⟨by repeat (first|(with_reducible first|exact HB.out|apply ba_|apply bb_|apply bc_)|exact HB.out)⟩⟩
      case rest =>
       clear HC14
       try clear c1
       try clear c2
       try clear p2
       try clear c3
       try clear c4
       try clear c6
       try clear c9
       try clear c9b0
       try clear c9b1
       try clear c10
       try clear c10b0
       try clear c10b1
       try clear c11
       try clear c12
       try clear c20
       try clear c20b0
       try clear c20b1
       try clear c21
       try clear c21b0
       try clear p2
       obtain ⟨kq,x46_13,rfl,HA,HJ13,HO_9,HB⟩:=hcut
       (try simp only [i64_w,i32_w])
       cases kq with
       | zero => exact absurd HA.out (by simp [madrigallaw12_LevinSays.j1])
       | succ kj13 =>
        have H:=HA.out
        clear HA
        simp only [madrigallaw12_LevinSays.j1] at H
        have HC22:=ak_ H
        clear H
        go_upto_if 46 with (fail)
        go_cut [] (fun wc => ∃ (kq : Nat),Aside0 (madrigallaw12_LevinSays.j2 kq l0 l2 l3 = some r) ∧ Aside0 (kq ≤ kj13) ∧ Aside0 (Below w.heap.size w wc))
        case first =>
         have H:=HC22.out
         clear HC22
         by_cases c23 : x46_13 = true
         ·subst c23
          have H1 : (if t565 = 1 then (if (t564.length : Int) = 0 then (madrigallaw12_LevinSays.j2 kj13 l0 l2 l3) else (none)) else (none)) = some r:=by rw [if_pos rfl] at H;exact H
          clear H
          have H:=H1
          clear H1
          by_cases c24 : t565 = 1
          ·rw [if_pos c24] at H
           have c24b0 : (t565 == 1) = true:=beq_iff_eq.mpr c24
           have c24b1 : (t565 != 1) = false:=bne_eq_false_iff_eq.mpr c24
           clear c24
           (first|rw [c24b0]|(simp only [i64_w,i32_w];rw [c24b0])|skip)
           by_cases c25 : (t564.length : Int) = 0
           ·rw [if_pos c25] at H
            have c25b0 : ((t564.length : Int) == 0) = true:=beq_iff_eq.mpr c25
            have c25b1 : ((t564.length : Int) != 0) = false:=bne_eq_false_iff_eq.mpr c25
            clear c25
            have H':=ak_ H
            clear H
            obtain ⟨Ao26,co26,eo26⟩:=Kd.R_slice HO_9.out
            subst eo26
            go_wp2
            go_meet
            case rel => exact ⟨_,H',⟨by have:=HJ6.out;have:=HJ13.out;first|omega|exact Nat.le_refl _⟩,⟨by repeat (first|(with_reducible first|exact HB.out|apply ba_|apply bb_|apply bc_)|exact HB.out)⟩⟩
           ·rw [if_neg c25] at H
            exact absurd H (by simp)
          ·rw [if_neg c24] at H
           exact absurd H (by simp)
         ·replace c23:=Bool.eq_false_iff.mpr c23
          subst c23
          have H1 : (if t565 = 0 then ((madrigalref6_Auto.f kj13 l0 a1).bind fun t568 => ((madrigallaw12_same.f kj13 t564 t568).bind fun t571 => (if t571 = true then (madrigallaw12_LevinSays.j2 kj13 l0 l2 l3) else (none)))) else (none)) = some r:=by rw [if_neg (show ¬ (false = true) by decide)] at H;exact H
          clear H
          have H:=H1
          clear H1
          by_cases c27 : t565 = 0
          ·rw [if_pos c27] at H
           have c27b0 : (t565 == 0) = true:=beq_iff_eq.mpr c27
           have c27b1 : (t565 != 0) = false:=bne_eq_false_iff_eq.mpr c27
           clear c27
           replace H:=Option.bind_eq_some_iff.mp H
           obtain ⟨t568,A280,H⟩:=H
           (try dsimp only at H)
           have A28:=ak_ A280
           clear A280
           replace H:=Option.bind_eq_some_iff.mp H
           obtain ⟨t571,A290,H⟩:=H
           (try dsimp only at H)
           have A29:=ak_ A290
           clear A290
           by_cases c30 : t571 = true
           ·subst c30
            have H1 : (madrigallaw12_LevinSays.j2 kj13 l0 l2 l3) = some r:=by rw [if_pos rfl] at H;exact H
            clear H
            have H:=H1
            clear H1
            have H':=ak_ H
            clear H
            go_wp2_with (first|(go_at_call 17;(with_reducible refine (madrigalref6_Auto.calls kj13 _ _ l0 a1 t568 _ ?side1 ?side2 A28.out).mono ?_);(case side1 => repeat (first|exact (Kd.C_below HR0.out HB.out)|(with_reducible refine Kd.C_alloc ?_ _)|(with_reducible refine Kd.C_drewN ?_ _)|(with_reducible refine Kd.C_drew ?_)));(case side2 => exact HC0.out);rintro e w31 ⟨v569,rfl,ho0,hb⟩;have n0_:=ak_ (Kd.R_elder' (by (with_reducible repeat (first|apply ra_|apply rb_|apply rc_));exact HO_9.out) (Kd.R_base ho0) hb);have n1_:=ak_ (Kd.R_lower (Kd.R_new' ho0 (Kd.R_lt (by (with_reducible repeat (first|apply ra_|apply rb_|apply rc_));exact HO_9.out))) (below_size (by repeat (first|(with_reducible first|exact HB.out|apply ba_|apply bb_|apply bc_)|exact HB.out))));have n2_:=ak_ (below_step (by repeat (first|(with_reducible first|exact HB.out|apply ba_|apply bb_|apply bc_)|exact HB.out)) hb);clear HO_9;clear HB;have HO_9:=n0_;have HO570:=n1_;have HB:=n2_;clear n0_ n1_ n2_;(try clear hb);(try clear ho0);obtain ⟨Ao32,co32,eo32⟩:=Kd.R_slice HO_9.out;subst eo32;obtain ⟨Ao33,co33,eo33⟩:=Kd.R_slice HO570.out;subst eo33)|(go_at_call 15;(with_reducible refine (madrigallaw12_same.calls kj13 _ _ t564 _ _ t568 true _ ?side1 ?side2 ?side3 ?side4 A29.out).mono ?_);(case side1 => repeat (first|exact (Kd.R_reads' HO_9.out).2.2|(with_reducible refine Kd.C_alloc ?_ _)|(with_reducible refine Kd.C_drewN ?_ _)|(with_reducible refine Kd.C_drew ?_)));(case side2 => exact (Kd.R_reads' HO_9.out).2.1);(case side3 => repeat (first|exact (Kd.R_reads' HO570.out).2.2|(with_reducible refine Kd.C_alloc ?_ _)|(with_reducible refine Kd.C_drewN ?_ _)|(with_reducible refine Kd.C_drew ?_)));(case side4 => exact (Kd.R_reads' HO570.out).2.1);rintro e w' ⟨rfl,⟨nd,rfl⟩⟩))
            go_meet
            case rel => exact ⟨_,H',⟨by have:=HJ6.out;have:=HJ13.out;first|omega|exact Nat.le_refl _⟩,⟨by repeat (first|(with_reducible first|exact HB.out|apply ba_|apply bb_|apply bc_)|exact HB.out)⟩⟩
           ·replace c30:=Bool.eq_false_iff.mpr c30
            subst c30
            have H1 : (none) = some r:=by rw [if_neg (show ¬ (false = true) by decide)] at H;exact H
            clear H
            have H:=H1
            clear H1
            exact absurd H (by simp)
          ·rw [if_neg c27] at H
           exact absurd H (by simp)
        case rest =>
         clear HC22
         try clear c1
         try clear c2
         try clear p2
         try clear c3
         try clear c4
         try clear c6
         try clear c9
         try clear c9b0
         try clear c9b1
         try clear c10
         try clear c10b0
         try clear c10b1
         try clear c11
         try clear c12
         try clear c20
         try clear c20b0
         try clear c20b1
         try clear c21
         try clear c21b0
         try clear c23
         try clear c24
         try clear c24b0
         try clear c24b1
         try clear c25
         try clear c25b0
         try clear c25b1
         try clear c27
         try clear c27b0
         try clear c27b1
         try clear c30
         try clear p2
         obtain ⟨kq,HA,HJ21,HB⟩:=hcut
         (try simp only [i64_w,i32_w])
         cases kq with
         | zero => exact absurd HA.out (by simp [madrigallaw12_LevinSays.j2])
         | succ kj21 =>
          have H:=HA.out
          clear HA
          simp only [madrigallaw12_LevinSays.j2] at H
          obtain ⟨y572,hy572⟩ : ∃ y_ : List Int,y_ = (([] : List Int)):=⟨_,rfl⟩
          replace H : (if y572.length + l2.length < 17592186044416 then ((levin_Solve.f kj21 (y572 ++ l2)).bind fun bt578 => (if (l2.length : Int) < 2 then (madrigallaw12_LevinSays.j3 kj21 l0 l2 l3 bt578.2 bt578.1 true) else (madrigallaw12_LevinSays.j3 kj21 l0 l2 l3 bt578.2 bt578.1 (decide ((l2.length : Int) > 33))))) else (none)) = some r:=by first|(rw [hy572];with_reducible exact H)|(have H2_:=(Option.bind_some _ _).symm.trans H;rw [hy572];with_reducible exact H2_)|(have H2_:=(Option.bind_some _ _).symm.trans H;with_reducible exact H2_)|with_reducible exact H|(rw [hy572];exact H)|exact H
          have Ny572:=ak_ hy572
          clear hy572
          by_cases c34 : y572.length + l2.length < 17592186044416
          ·rw [if_pos c34] at H
           have LMc34:=ak_ c34
           clear c34
           obtain ⟨y575,hy575⟩ : ∃ y_ : List Int,y_ = (y572 ++ l2):=⟨_,rfl⟩
           replace H : ((levin_Solve.f kj21 y575).bind fun bt578 => (if (l2.length : Int) < 2 then (madrigallaw12_LevinSays.j3 kj21 l0 l2 l3 bt578.2 bt578.1 true) else (madrigallaw12_LevinSays.j3 kj21 l0 l2 l3 bt578.2 bt578.1 (decide ((l2.length : Int) > 33))))) = some r:=by first|(rw [hy575];with_reducible exact H)|(have H2_:=(Option.bind_some _ _).symm.trans H;rw [hy575];with_reducible exact H2_)|(have H2_:=(Option.bind_some _ _).symm.trans H;with_reducible exact H2_)|with_reducible exact H|(rw [hy575];exact H)|exact H
           have Ny575:=ak_ hy575
           clear hy575
           replace H:=Option.bind_eq_some_iff.mp H
           obtain ⟨⟨t578,t579⟩,A350,H⟩:=H
           (try dsimp only at H)
           have A35:=ak_ A350
           clear A350
           have HC36:=ak_ H
           clear H
           go_upto_region 12 with (first|((with_reducible refine gate_dst (N:=65) rfl ?_);(try (refine gate_guard (by rfl) ?_;dsimp only));refine Kd.R_lit (Kd.int .i64) _ 2 ?hg (N:=65) ?hd (xs:=([] : List Int)) (inner:=[]) (ok:=fun _ => True) (okp:=fun _ => True) ?hr ?hp (fun _ hk => hk) trivial (Below.refl _ _) (Nat.le_refl _) (by simp) ?_;(case hd => rfl);(case hg => rfl);(case hr => first|(go_simp;done)|(go_simp;rfl));(case hp => exact (Reps.none _ _));intro v573 w37 ho38 hb hg_ hnew_;clear hg_ hnew_;(first|rw [← Ny572.out] at ho38|(simp only [Int.reduceToNat] at ho38;rw [← Ny572.out] at ho38));have n0_:=ak_ (Kd.R_lower ho38 (below_size (by repeat (first|(with_reducible first|exact HB.out|apply ba_|apply bb_|apply bc_)|exact HB.out))));have n1_:=ak_ (below_step (by repeat (first|(with_reducible first|exact HB.out|apply ba_|apply bb_|apply bc_)|exact HB.out)) hb);clear HB;have HO574:=n0_;have HB:=n1_;clear n0_ n1_;clear hb ho38)|((with_reducible refine gate_builtin (b:=.append) (xs:=#[.tmp 65,.tmp 66]) rfl ?_);(try (refine gate_guard (by rfl) ?_;dsimp only));at_builtin;refine Kd.R_append_rows (Kd.int .i64) (w0:=w) w.heap.size rfl (.tmp 65) (.tmp 66) 23 2 (.int .i64 0) 8 rfl Try.underlying23 info2 rfl (by decide) (by omega) v573 y572 l2 _ _ _ (fun _ => True) (fun _ => False) rfl rfl ?aO ?aR (fun _ _ h => h) (fun _ h => h.elim) ?aF ?aB ?aS ?aL ?_;(case aR => repeat (first|exact (Kd.C_below HR2.out HB.out)|(with_reducible refine Kd.C_alloc ?_ _)|(with_reducible refine Kd.C_drewN ?_ _)|(with_reducible refine Kd.C_drew ?_)));(case aB => exact (by repeat (first|(with_reducible first|exact HB.out|apply ba_|apply bb_|apply bc_)|exact HB.out)));(case aF => exact (fun _ _ => trivial));(case aO => exact (by (with_reducible repeat (first|apply ra_|apply rb_|apply rc_));exact HO574.out));(case aS => exact (below_size (by repeat (first|(with_reducible first|exact HB.out|apply ba_|apply bb_|apply bc_)|exact HB.out))));(case aL => have:=LMc34.out;omega);intro v576 w39 ho hb hg hat;rw [← Ny575.out] at ho;have n0_:=ak_ (hb);have n1_:=ak_ (ho);clear HB;clear HO574;have HB:=n0_;have HO577:=n1_;clear n0_ n1_;clear ho hb hg hat;obtain ⟨Ao40,co40,eo40⟩:=Kd.R_slice HO577.out;subst eo40)|((with_reducible refine gate_callee (f:=12) rfl ?_);refine goesL_ (some 68) rfl rfl Try.func12 (by kernel_rfl) rfl #[.slice Ao40 y575.length co40] rfl (by (try simp only [List.map_toArray,List.map_cons,List.map_nil]);first|done|rfl|(simp only [List.length_drop,List.length_take];rfl)) ?_;(with_reducible refine (levin_Solve.calls kj21 _ _ y575 t578 t579 _ ?side1 ?side2 A35.out).mono ?_);(case side1 => repeat (first|exact (Kd.R_reads' HO577.out).2.2|(with_reducible refine Kd.C_alloc ?_ _)|(with_reducible refine Kd.C_drewN ?_ _)|(with_reducible refine Kd.C_drew ?_)));(case side2 => exact (Kd.R_reads' HO577.out).2.1);rintro e w41 ⟨v580,rfl,ho0,hb⟩;refine ⟨_,rfl,?_⟩;have n0_:=ak_ (Kd.R_elder' (by (with_reducible repeat (first|apply ra_|apply rb_|apply rc_));exact HO577.out) (Kd.R_base ho0) hb);have n1_:=ak_ (Kd.R_lower (Kd.R_new' ho0 (Kd.R_lt (by (with_reducible repeat (first|apply ra_|apply rb_|apply rc_));exact HO577.out))) (below_size (by repeat (first|(with_reducible first|exact HB.out|apply ba_|apply bb_|apply bc_)|exact HB.out))));have n2_:=ak_ (below_step (by repeat (first|(with_reducible first|exact HB.out|apply ba_|apply bb_|apply bc_)|exact HB.out)) hb);clear HO577;clear HB;have HO577:=n0_;have HO581:=n1_;have HB:=n2_;clear n0_ n1_ n2_;(try clear hb);(try clear ho0)))
           (try simp only [Act.put,List.setIfInBounds_toArray,List.set_cons_zero,List.set_cons_succ])
           go_cut [78] (fun v78 wc => ∃ (kq : Nat) (x78_35 : Bool),v78 = .bool x78_35 ∧ Aside0 (madrigallaw12_LevinSays.j3 kq l0 l2 l3 t579 t578 x78_35 = some r) ∧ Aside0 (kq ≤ kj21) ∧ Aside0 (Kd.R (Kd.int .i64) 2 wc w.heap.size (fun _ => True) v580 t578) ∧ Aside0 (Below w.heap.size w wc))
           case first =>
            have H:=HC36.out
            clear HC36
            by_cases c42 : (l2.length : Int) < 2
            ·rw [if_pos c42] at H
             have c42b0:=decide_eq_true c42
             have c42b1 : decide (l2.length < 2) = true:=decide_eq_true (by omega)
             clear c42
             (first|rw [c42b0]|(simp only [i64_w,i32_w];rw [c42b0])|skip)
             have H':=ak_ H
             clear H
             go_wp2
             refine Met.intro ?_
             go_step
             (repeat apply Exists.intro)
             first|refine ⟨?rel388,rfl⟩|(refine ⟨?rel388,?st388⟩;case' st388 => (first|rw [c42b0]|simp only [c42b0]))
             case rel388 => exact ⟨_,(true),(by first|rfl|(simp;done)|(simp [*];done)),H',⟨by have:=HJ6.out;have:=HJ13.out;have:=HJ21.out;first|omega|exact Nat.le_refl _⟩,⟨by (with_reducible repeat (first|apply ra_|apply rb_|apply rc_));exact Kd.R_mono HO581.out (fun _ hk => trivial)⟩,⟨by repeat (first|(with_reducible first|exact HB.out|apply ba_|apply bb_|apply bc_)|exact HB.out)⟩⟩
            ·rw [if_neg c42] at H
             have c42b0:=decide_eq_false c42
             have c42b1 : decide (l2.length < 2) = false:=decide_eq_false (by omega)
             clear c42
             (first|rw [c42b0]|(simp only [i64_w,i32_w];rw [c42b0])|skip)
             have H':=ak_ H
             clear H
             go_wp2
             refine Met.intro ?_
             go_step
             (repeat apply Exists.intro)
             first|refine ⟨?rel398,rfl⟩|(refine ⟨?rel398,?st398⟩;case' st398 => (first|rw [c42b0]|simp only [c42b0]))
             case rel398 => exact ⟨_,(decide ((l2.length : Int) > 33)),(by first|rfl|(simp;done)|(simp [*];done)),H',⟨by have:=HJ6.out;have:=HJ13.out;have:=HJ21.out;first|omega|exact Nat.le_refl _⟩,⟨by (with_reducible repeat (first|apply ra_|apply rb_|apply rc_));exact Kd.R_mono HO581.out (fun _ hk => trivial)⟩,⟨by repeat (first|(with_reducible first|exact HB.out|apply ba_|apply bb_|apply bc_)|exact HB.out)⟩⟩
           case rest =>
            clear HC36
            try clear c1
            try clear c2
            try clear p2
            try clear c3
            try clear c4
            try clear c6
            try clear c9
            try clear c9b0
            try clear c9b1
            try clear c10
            try clear c10b0
            try clear c10b1
            try clear c11
            try clear c12
            try clear c20
            try clear c20b0
            try clear c20b1
            try clear c21
            try clear c21b0
            try clear c23
            try clear c24
            try clear c24b0
            try clear c24b1
            try clear c25
            try clear c25b0
            try clear c25b1
            try clear c27
            try clear c27b0
            try clear c27b1
            try clear c30
            try clear c34
            try clear c42
            try clear c42b0
            try clear c42b1
            try clear p2
            obtain ⟨kq,x78_35,rfl,HA,HJ35,HO_11,HB⟩:=hcut
            (try simp only [i64_w,i32_w])
            cases kq with
            | zero => exact absurd HA.out (by simp [madrigallaw12_LevinSays.j3])
            | succ kj35 =>
             have H:=HA.out
             clear HA
             simp only [madrigallaw12_LevinSays.j3] at H
             have HC43:=ak_ H
             clear H
             go_upto_if 78 with (fail)
             go_cut [] (fun wc => ∃ (kq : Nat),Aside0 (madrigallaw12_LevinSays.j4 kq l0 l3 = some r) ∧ Aside0 (kq ≤ kj35) ∧ Aside0 (Below w.heap.size w wc))
             case first =>
              have H:=HC43.out
              clear HC43
              by_cases c44 : x78_35 = true
              ·subst c44
               have H1 : (if t579 = 1 then (if (t578.length : Int) = 0 then (madrigallaw12_LevinSays.j4 kj35 l0 l3) else (none)) else (none)) = some r:=by rw [if_pos rfl] at H;exact H
               clear H
               have H:=H1
               clear H1
               by_cases c45 : t579 = 1
               ·rw [if_pos c45] at H
                have c45b0 : (t579 == 1) = true:=beq_iff_eq.mpr c45
                have c45b1 : (t579 != 1) = false:=bne_eq_false_iff_eq.mpr c45
                clear c45
                (first|rw [c45b0]|(simp only [i64_w,i32_w];rw [c45b0])|skip)
                by_cases c46 : (t578.length : Int) = 0
                ·rw [if_pos c46] at H
                 have c46b0 : ((t578.length : Int) == 0) = true:=beq_iff_eq.mpr c46
                 have c46b1 : ((t578.length : Int) != 0) = false:=bne_eq_false_iff_eq.mpr c46
                 clear c46
                 have H':=ak_ H
                 clear H
                 obtain ⟨Ao47,co47,eo47⟩:=Kd.R_slice HO_11.out
                 subst eo47
                 go_wp2
                 go_meet
                 case rel => exact ⟨_,H',⟨by have:=HJ6.out;have:=HJ13.out;have:=HJ21.out;have:=HJ35.out;first|omega|exact Nat.le_refl _⟩,⟨by repeat (first|(with_reducible first|exact HB.out|apply ba_|apply bb_|apply bc_)|exact HB.out)⟩⟩
                ·rw [if_neg c46] at H
                 exact absurd H (by simp)
               ·rw [if_neg c45] at H
                exact absurd H (by simp)
              ·replace c44:=Bool.eq_false_iff.mpr c44
               subst c44
               have H1 : (if t579 = 0 then ((madrigalref6_Solve.f kj35 l2).bind fun t582 => ((madrigallaw12_same.f kj35 t578 t582).bind fun t585 => (if t585 = true then ((lpc_Stable.f kj35 t578).bind fun t586 => (if t586 = true then (madrigallaw12_LevinSays.j4 kj35 l0 l3) else (none))) else (none)))) else (none)) = some r:=by rw [if_neg (show ¬ (false = true) by decide)] at H;exact H
               clear H
               have H:=H1
               clear H1
               by_cases c48 : t579 = 0
               ·rw [if_pos c48] at H
                have c48b0 : (t579 == 0) = true:=beq_iff_eq.mpr c48
                have c48b1 : (t579 != 0) = false:=bne_eq_false_iff_eq.mpr c48
                clear c48
                replace H:=Option.bind_eq_some_iff.mp H
                obtain ⟨t582,A490,H⟩:=H
                (try dsimp only at H)
                have A49:=ak_ A490
                clear A490
                replace H:=Option.bind_eq_some_iff.mp H
                obtain ⟨t585,A500,H⟩:=H
                (try dsimp only at H)
                have A50:=ak_ A500
                clear A500
                by_cases c51 : t585 = true
                ·subst c51
                 have H1 : ((lpc_Stable.f kj35 t578).bind fun t586 => (if t586 = true then (madrigallaw12_LevinSays.j4 kj35 l0 l3) else (none))) = some r:=by rw [if_pos rfl] at H;exact H
                 clear H
                 have H:=H1
                 clear H1
                 replace H:=Option.bind_eq_some_iff.mp H
                 obtain ⟨t586,A520,H⟩:=H
                 (try dsimp only at H)
                 have A52:=ak_ A520
                 clear A520
                 by_cases c53 : t586 = true
                 ·subst c53
                  have H1 : (madrigallaw12_LevinSays.j4 kj35 l0 l3) = some r:=by rw [if_pos rfl] at H;exact H
                  clear H
                  have H:=H1
                  clear H1
                  have H':=ak_ H
                  clear H
                  go_wp2_with (first|(go_at_call 18;(with_reducible refine (madrigalref6_Solve.calls kj35 _ _ l2 t582 _ ?side1 ?side2 A49.out).mono ?_);(case side1 => repeat (first|exact (Kd.C_below HR2.out HB.out)|(with_reducible refine Kd.C_alloc ?_ _)|(with_reducible refine Kd.C_drewN ?_ _)|(with_reducible refine Kd.C_drew ?_)));(case side2 => exact HC2.out);rintro e w54 ⟨v583,rfl,ho0,hb⟩;have n0_:=ak_ (Kd.R_elder' (by (with_reducible repeat (first|apply ra_|apply rb_|apply rc_));exact HO_11.out) (Kd.R_base ho0) hb);have n1_:=ak_ (Kd.R_lower (Kd.R_new' ho0 (Kd.R_lt (by (with_reducible repeat (first|apply ra_|apply rb_|apply rc_));exact HO_11.out))) (below_size (by repeat (first|(with_reducible first|exact HB.out|apply ba_|apply bb_|apply bc_)|exact HB.out))));have n2_:=ak_ (below_step (by repeat (first|(with_reducible first|exact HB.out|apply ba_|apply bb_|apply bc_)|exact HB.out)) hb);clear HO_11;clear HB;have HO_11:=n0_;have HO584:=n1_;have HB:=n2_;clear n0_ n1_ n2_;(try clear hb);(try clear ho0);obtain ⟨Ao55,co55,eo55⟩:=Kd.R_slice HO_11.out;subst eo55;obtain ⟨Ao56,co56,eo56⟩:=Kd.R_slice HO584.out;subst eo56)|(go_at_call 15;(with_reducible refine (madrigallaw12_same.calls kj35 _ _ t578 _ _ t582 true _ ?side1 ?side2 ?side3 ?side4 A50.out).mono ?_);(case side1 => repeat (first|exact (Kd.R_reads' HO_11.out).2.2|(with_reducible refine Kd.C_alloc ?_ _)|(with_reducible refine Kd.C_drewN ?_ _)|(with_reducible refine Kd.C_drew ?_)));(case side2 => exact (Kd.R_reads' HO_11.out).2.1);(case side3 => repeat (first|exact (Kd.R_reads' HO584.out).2.2|(with_reducible refine Kd.C_alloc ?_ _)|(with_reducible refine Kd.C_drewN ?_ _)|(with_reducible refine Kd.C_drew ?_)));(case side4 => exact (Kd.R_reads' HO584.out).2.1);rintro e w' ⟨rfl,⟨nd,rfl⟩⟩)|(go_at_call 19;(with_reducible refine (lpc_Stable.calls kj35 _ _ t578 true _ ?side1 ?side2 A52.out).mono ?_);(case side1 => repeat (first|exact (Kd.R_reads' HO_11.out).2.2|(with_reducible refine Kd.C_alloc ?_ _)|(with_reducible refine Kd.C_drewN ?_ _)|(with_reducible refine Kd.C_drew ?_)));(case side2 => exact (Kd.R_reads' HO_11.out).2.1);rintro e w57 ⟨rfl,hb⟩;have n0_:=ak_ (Kd.R_below (by (with_reducible repeat (first|apply ra_|apply rb_|apply rc_));exact HO_11.out) hb);have n1_:=ak_ (Kd.R_below (by (with_reducible repeat (first|apply ra_|apply rb_|apply rc_));exact HO584.out) hb);have n2_:=ak_ (below_step (by repeat (first|(with_reducible first|exact HB.out|apply ba_|apply bb_|apply bc_)|exact HB.out)) hb);clear HO_11;clear HO584;clear HB;have HO_11:=n0_;have HO584:=n1_;have HB:=n2_;clear n0_ n1_ n2_;(try clear hb)))
                  go_meet
                  case rel => exact ⟨_,H',⟨by have:=HJ6.out;have:=HJ13.out;have:=HJ21.out;have:=HJ35.out;first|omega|exact Nat.le_refl _⟩,⟨by repeat (first|(with_reducible first|exact HB.out|apply ba_|apply bb_|apply bc_)|exact HB.out)⟩⟩
                 ·replace c53:=Bool.eq_false_iff.mpr c53
                  subst c53
                  have H1 : (none) = some r:=by rw [if_neg (show ¬ (false = true) by decide)] at H;exact H
                  clear H
                  have H:=H1
                  clear H1
                  exact absurd H (by simp)
                ·replace c51:=Bool.eq_false_iff.mpr c51
                 subst c51
                 have H1 : (none) = some r:=by rw [if_neg (show ¬ (false = true) by decide)] at H;exact H
                 clear H
                 have H:=H1
                 clear H1
                 exact absurd H (by simp)
               ·rw [if_neg c48] at H
                exact absurd H (by simp)
             case rest =>
              clear HC43
              try clear c1
              try clear c2
              try clear p2
              try clear c3
              try clear c4
              try clear c5
              try clear c6
              try clear c9
              try clear c9b0
              try clear c9b1
              try clear c10
              try clear c10b0
              try clear c10b1
              try clear c11
              try clear c12
              try clear c20
              try clear c20b0
              try clear c20b1
              try clear c21
              try clear c21b0
              try clear c23
              try clear c24
              try clear c24b0
              try clear c24b1
              try clear c25
              try clear c25b0
              try clear c25b1
              try clear c27
              try clear c27b0
              try clear c27b1
              try clear c30
              try clear c34
              try clear c42
              try clear c42b0
              try clear c42b1
              try clear c44
              try clear c45
              try clear c45b0
              try clear c45b1
              try clear c46
              try clear c46b0
              try clear c46b1
              try clear c48
              try clear c48b0
              try clear c48b1
              try clear c51
              try clear c53
              try clear p2
              obtain ⟨kq,HA,HJ42,HB⟩:=hcut
              (try simp only [i64_w,i32_w])
              cases kq with
              | zero => exact absurd HA.out (by simp [madrigallaw12_LevinSays.j4])
              | succ kj42 =>
               have H:=HA.out
               clear HA
               simp only [madrigallaw12_LevinSays.j4] at H
               replace H:=Option.bind_eq_some_iff.mp H
               obtain ⟨⟨t587,t588⟩,A580,H⟩:=H
               (try dsimp only at H)
               have A58:=ak_ A580
               clear A580
               have HC59:=ak_ H
               clear H
               go_upto_region 18 with (first|((with_reducible refine gate_callee (f:=13) rfl ?_);refine goesL_ (some 103) rfl rfl Try.func13 (by kernel_rfl) rfl #[.slice A0 l0.length c0,.slice A3 l3.length c3] rfl (by (try simp only [List.map_toArray,List.map_cons,List.map_nil]);first|done|rfl|(simp only [List.length_drop,List.length_take];rfl)) ?_;(with_reducible refine (levin_Rest.calls kj42 _ _ l0 _ _ l3 t587 t588 _ ?side1 ?side2 ?side3 ?side4 A58.out).mono ?_);(case side1 => repeat (first|exact (Kd.C_below HR0.out HB.out)|(with_reducible refine Kd.C_alloc ?_ _)|(with_reducible refine Kd.C_drewN ?_ _)|(with_reducible refine Kd.C_drew ?_)));(case side2 => exact HC0.out);(case side3 => repeat (first|exact (Kd.C_below HR3.out HB.out)|(with_reducible refine Kd.C_alloc ?_ _)|(with_reducible refine Kd.C_drewN ?_ _)|(with_reducible refine Kd.C_drew ?_)));(case side4 => exact HC3.out);rintro e w60 ⟨v589,rfl,ho0,hb⟩;refine ⟨_,rfl,?_⟩;have n0_:=ak_ (Kd.R_lower ho0 (below_size (by repeat (first|(with_reducible first|exact HB.out|apply ba_|apply bb_|apply bc_)|exact HB.out))));have n1_:=ak_ (below_step (by repeat (first|(with_reducible first|exact HB.out|apply ba_|apply bb_|apply bc_)|exact HB.out)) hb);clear HB;have HO590:=n0_;have HB:=n1_;clear n0_ n1_;(try clear hb);(try clear ho0)))
               (try simp only [Act.put,List.setIfInBounds_toArray,List.set_cons_zero,List.set_cons_succ])
               go_cut [113] (fun v113 wc => ∃ (kq : Nat) (x113_58 : Bool),v113 = .bool x113_58 ∧ Aside0 (madrigallaw12_LevinSays.j5 kq l0 l3 t588 t587 x113_58 = some r) ∧ Aside0 (kq ≤ kj42) ∧ Aside0 (Kd.R (Kd.int .i64) 2 wc w.heap.size (fun _ => True) v589 t587) ∧ Aside0 (Below w.heap.size w wc))
               case first =>
                have H:=HC59.out
                clear HC59
                by_cases c61 : (l0.length : Int) > 960
                ·rw [if_pos c61] at H
                 have c61b0 : decide (960 < (l0.length : Int)) = true:=decide_eq_true c61
                 have c61b1 : decide (960 < l0.length) = true:=decide_eq_true (by omega)
                 clear c61
                 (first|rw [c61b0]|(simp only [i64_w,i32_w];rw [c61b0])|skip)
                 have H':=ak_ H
                 clear H
                 go_wp2
                 refine Met.intro ?_
                 go_step
                 (repeat apply Exists.intro)
                 first|refine ⟨?rel619,rfl⟩|(refine ⟨?rel619,?st619⟩;case' st619 => (first|rw [c61b0]|simp only [c61b0]))
                 case rel619 => exact ⟨_,(true),(by first|rfl|(simp;done)|(simp [*];done)),H',⟨by have:=HJ6.out;have:=HJ13.out;have:=HJ21.out;have:=HJ35.out;have:=HJ42.out;first|omega|exact Nat.le_refl _⟩,⟨by (with_reducible repeat (first|apply ra_|apply rb_|apply rc_));exact HO590.out⟩,⟨by repeat (first|(with_reducible first|exact HB.out|apply ba_|apply bb_|apply bc_)|exact HB.out)⟩⟩
                ·rw [if_neg c61] at H
                 have c61b0 : decide (960 < (l0.length : Int)) = false:=decide_eq_false c61
                 have c61b1 : decide (960 < l0.length) = false:=decide_eq_false (by omega)
                 clear c61
                 (first|rw [c61b0]|(simp only [i64_w,i32_w];rw [c61b0])|skip)
                 have H':=ak_ H
                 clear H
                 go_wp2
                 refine Met.intro ?_
                 go_step
                 (repeat apply Exists.intro)
                 first|refine ⟨?rel629,rfl⟩|(refine ⟨?rel629,?st629⟩;case' st629 => (first|rw [c61b0]|simp only [c61b0]))
                 case rel629 => exact ⟨_,(decide ((l3.length : Int) > 32)),(by first|rfl|(simp;done)|(simp [*];done)),H',⟨by have:=HJ6.out;have:=HJ13.out;have:=HJ21.out;have:=HJ35.out;have:=HJ42.out;first|omega|exact Nat.le_refl _⟩,⟨by (with_reducible repeat (first|apply ra_|apply rb_|apply rc_));exact HO590.out⟩,⟨by repeat (first|(with_reducible first|exact HB.out|apply ba_|apply bb_|apply bc_)|exact HB.out)⟩⟩
               case rest =>
                clear HC59
                try clear c1
                try clear c2
                try clear p2
                try clear c3
                try clear c4
                try clear c5
                try clear c6
                try clear c9
                try clear c9b0
                try clear c9b1
                try clear c10
                try clear c10b0
                try clear c10b1
                try clear c11
                try clear c12
                try clear c13
                try clear c20
                try clear c20b0
                try clear c20b1
                try clear c21
                try clear c21b0
                try clear c23
                try clear c24
                try clear c24b0
                try clear c24b1
                try clear c25
                try clear c25b0
                try clear c25b1
                try clear c27
                try clear c27b0
                try clear c27b1
                try clear c30
                try clear c34
                try clear c42
                try clear c42b0
                try clear c42b1
                try clear c44
                try clear c45
                try clear c45b0
                try clear c45b1
                try clear c46
                try clear c46b0
                try clear c46b1
                try clear c48
                try clear c48b0
                try clear c48b1
                try clear c51
                try clear c53
                try clear c61
                try clear c61b0
                try clear c61b1
                try clear p2
                obtain ⟨kq,x113_58,rfl,HA,HJ58,HO_12,HB⟩:=hcut
                (try simp only [i64_w,i32_w])
                cases kq with
                | zero => exact absurd HA.out (by simp [madrigallaw12_LevinSays.j5])
                | succ kj58 =>
                 have H:=HA.out
                 clear HA
                 simp only [madrigallaw12_LevinSays.j5] at H
                 by_cases c62 : x113_58 = true
                 ·subst c62
                  have H1 : (if t588 = 1 then (madrigallaw12_LevinSays.j6 kj58 l0 ((t587.length : Int) != 0)) else (madrigallaw12_LevinSays.j6 kj58 l0 true)) = some r:=by rw [if_pos rfl] at H;exact H
                  clear H
                  have H:=H1
                  clear H1
                  have HC63:=ak_ H
                  clear H
                  go_upto_region 19 with (fail)
                  go_cut [120] (fun v120 wc => ∃ (kq : Nat) (x120_62 : Bool),v120 = .bool x120_62 ∧ Aside0 (madrigallaw12_LevinSays.j6 kq l0 x120_62 = some r) ∧ Aside0 (kq ≤ kj58) ∧ Aside0 (Below w.heap.size w wc))
                  case first =>
                   have H:=HC63.out
                   clear HC63
                   by_cases c64 : t588 = 1
                   ·rw [if_pos c64] at H
                    have c64b0 : (t588 == 1) = true:=beq_iff_eq.mpr c64
                    have c64b1 : (t588 != 1) = false:=bne_eq_false_iff_eq.mpr c64
                    clear c64
                    (first|rw [c64b0]|(simp only [i64_w,i32_w];rw [c64b0])|skip)
                    have H':=ak_ H
                    clear H
                    obtain ⟨Ao65,co65,eo65⟩:=Kd.R_slice HO_12.out
                    subst eo65
                    go_wp2
                    go_meet
                    case rel => exact ⟨_,(((t587.length : Int) != 0)),(by first|rfl|(simp;done)|(simp [*];done)),H',⟨by have:=HJ6.out;have:=HJ13.out;have:=HJ21.out;have:=HJ35.out;have:=HJ42.out;have:=HJ58.out;first|omega|exact Nat.le_refl _⟩,⟨by repeat (first|(with_reducible first|exact HB.out|apply ba_|apply bb_|apply bc_)|exact HB.out)⟩⟩
                   ·rw [if_neg c64] at H
                    have c64b0 : (t588 == 1) = false:=beq_eq_false_iff_ne.mpr c64
                    have c64b1 : (t588 != 1) = true:=bne_iff_ne.mpr c64
                    (first|rw [c64b0]|(simp only [i64_w,i32_w];rw [c64b0])|skip)
                    have H':=ak_ H
                    clear H
                    go_wp2
                    go_meet
                    case rel => exact ⟨_,(true),(by first|rfl|(simp;done)|(simp [*];done)),H',⟨by have:=HJ6.out;have:=HJ13.out;have:=HJ21.out;have:=HJ35.out;have:=HJ42.out;have:=HJ58.out;first|omega|exact Nat.le_refl _⟩,⟨by repeat (first|(with_reducible first|exact HB.out|apply ba_|apply bb_|apply bc_)|exact HB.out)⟩⟩
                  case rest =>
                   clear HC63
                   try clear c1
                   try clear c2
                   try clear p2
                   try clear c3
                   try clear c4
                   try clear c5
                   try clear c6
                   try clear c9
                   try clear c9b0
                   try clear c9b1
                   try clear c10
                   try clear c10b0
                   try clear c10b1
                   try clear c11
                   try clear c12
                   try clear c13
                   try clear c20
                   try clear c20b0
                   try clear c20b1
                   try clear c21
                   try clear c21b0
                   try clear c23
                   try clear c24
                   try clear c24b0
                   try clear c24b1
                   try clear c25
                   try clear c25b0
                   try clear c25b1
                   try clear c27
                   try clear c27b0
                   try clear c27b1
                   try clear c30
                   try clear c34
                   try clear c42
                   try clear c42b0
                   try clear c42b1
                   try clear c44
                   try clear c45
                   try clear c45b0
                   try clear c45b1
                   try clear c46
                   try clear c46b0
                   try clear c46b1
                   try clear c48
                   try clear c48b0
                   try clear c48b1
                   try clear c51
                   try clear c53
                   try clear c61
                   try clear c61b0
                   try clear c61b1
                   try clear c62
                   try clear c64
                   try clear c64b0
                   try clear c64b1
                   try clear p2
                   obtain ⟨kq,x120_62,rfl,HA,HJ62,HB⟩:=hcut
                   (try simp only [i64_w,i32_w])
                   cases kq with
                   | zero => exact absurd HA.out (by simp [madrigallaw12_LevinSays.j6])
                   | succ kj62 =>
                    have H:=HA.out
                    clear HA
                    simp only [madrigallaw12_LevinSays.j6] at H
                    by_cases c66 : x120_62 = true
                    ·subst c66
                     have H1 : (none) = some r:=by rw [if_pos rfl] at H;exact H
                     clear H
                     have H:=H1
                     clear H1
                     exact absurd H (by simp)
                    ·replace c66:=Bool.eq_false_iff.mpr c66
                     subst c66
                     have H1 : ((levin_Power.f kj62 l0).bind fun t591 => ((madrigalref6_Power.f kj62 l0).bind fun t592 => (some (t591 == t592)))) = some r:=by rw [if_neg (show ¬ (false = true) by decide)] at H;exact H
                     clear H
                     have H:=H1
                     clear H1
                     replace H:=Option.bind_eq_some_iff.mp H
                     obtain ⟨t591,A670,H⟩:=H
                     (try dsimp only at H)
                     have A67:=ak_ A670
                     clear A670
                     replace H:=Option.bind_eq_some_iff.mp H
                     obtain ⟨t592,A680,H⟩:=H
                     (try dsimp only at H)
                     have A68:=ak_ A680
                     clear A680
                     obtain rfl:=Option.some.inj H
                     go_wp2_with (first|((with_reducible refine gate_callee (f:=16) rfl ?_);refine goesL_ (some 132) rfl rfl Try.func16 (by kernel_rfl) rfl #[.slice A0 l0.length c0] rfl (by (try simp only [List.map_toArray,List.map_cons,List.map_nil]);first|done|rfl|(simp only [List.length_drop,List.length_take];rfl)) ?_;(with_reducible refine (levin_Power.calls kj62 _ _ l0 t591 _ ?side1 ?side2 A67.out).mono ?_);(case side1 => repeat (first|exact (Kd.C_below HR0.out HB.out)|(with_reducible refine Kd.C_alloc ?_ _)|(with_reducible refine Kd.C_drewN ?_ _)|(with_reducible refine Kd.C_drew ?_)));(case side2 => exact HC0.out);rintro e w69 ⟨rfl,hb⟩;refine ⟨_,rfl,?_⟩;have n0_:=ak_ (below_step (by repeat (first|(with_reducible first|exact HB.out|apply ba_|apply bb_|apply bc_)|exact HB.out)) hb);clear HB;have HB:=n0_;clear n0_;(try clear hb))|((with_reducible refine gate_callee (f:=21) rfl ?_);refine goesL_ (some 134) rfl rfl Try.func21 (by kernel_rfl) rfl #[.slice A0 l0.length c0] rfl (by (try simp only [List.map_toArray,List.map_cons,List.map_nil]);first|done|rfl|(simp only [List.length_drop,List.length_take];rfl)) ?_;(with_reducible refine (madrigalref6_Power.calls kj62 _ _ l0 t592 _ ?side1 ?side2 A68.out).mono ?_);(case side1 => repeat (first|exact (Kd.C_below HR0.out HB.out)|(with_reducible refine Kd.C_alloc ?_ _)|(with_reducible refine Kd.C_drewN ?_ _)|(with_reducible refine Kd.C_drew ?_)));(case side2 => exact HC0.out);rintro e w' ⟨rfl,⟨nd,rfl⟩⟩;refine ⟨_,rfl,?_⟩))
                     go_ret
                     exact ⟨by first|rfl|(simp [errW_none,errW_some] <;> rfl)|(simp [*,errW_none,errW_some] <;> rfl),by repeat (first|(with_reducible first|exact HB.out|apply ba_|apply bb_|apply bc_)|exact HB.out)⟩
                 ·replace c62:=Bool.eq_false_iff.mpr c62
                  subst c62
                  have H1 : (if t588 = 0 then ((madrigalref6_Rest.f kj58 l0 l3).bind fun t593 => ((madrigallaw12_same.f kj58 t587 t593).bind fun t596 => (madrigallaw12_LevinSays.j7 kj58 l0 (!t596)))) else (madrigallaw12_LevinSays.j7 kj58 l0 true)) = some r:=by rw [if_neg (show ¬ (false = true) by decide)] at H;exact H
                  clear H
                  have H:=H1
                  clear H1
                  have HC70:=ak_ H
                  clear H
                  go_upto_region 21 with (fail)
                  go_cut [130] (fun v130 wc => ∃ (kq : Nat) (x130_69 : Bool),v130 = .bool x130_69 ∧ Aside0 (madrigallaw12_LevinSays.j7 kq l0 x130_69 = some r) ∧ Aside0 (kq ≤ kj58) ∧ Aside0 (Below w.heap.size w wc))
                  case first =>
                   have H:=HC70.out
                   clear HC70
                   by_cases c71 : t588 = 0
                   ·rw [if_pos c71] at H
                    have c71b0 : (t588 == 0) = true:=beq_iff_eq.mpr c71
                    have c71b1 : (t588 != 0) = false:=bne_eq_false_iff_eq.mpr c71
                    clear c71
                    (first|rw [c71b0]|(simp only [i64_w,i32_w];rw [c71b0])|skip)
                    replace H:=Option.bind_eq_some_iff.mp H
                    obtain ⟨t593,A720,H⟩:=H
                    (try dsimp only at H)
                    have A72:=ak_ A720
                    clear A720
                    replace H:=Option.bind_eq_some_iff.mp H
                    obtain ⟨t596,A730,H⟩:=H
                    (try dsimp only at H)
                    have A73:=ak_ A730
                    clear A730
                    have H':=ak_ H
                    clear H
                    go_wp2_with (first|(go_at_call 20;(with_reducible refine (madrigalref6_Rest.calls kj58 _ _ l0 _ _ l3 t593 _ ?side1 ?side2 ?side3 ?side4 A72.out).mono ?_);(case side1 => repeat (first|exact (Kd.C_below HR0.out HB.out)|(with_reducible refine Kd.C_alloc ?_ _)|(with_reducible refine Kd.C_drewN ?_ _)|(with_reducible refine Kd.C_drew ?_)));(case side2 => exact HC0.out);(case side3 => repeat (first|exact (Kd.C_below HR3.out HB.out)|(with_reducible refine Kd.C_alloc ?_ _)|(with_reducible refine Kd.C_drewN ?_ _)|(with_reducible refine Kd.C_drew ?_)));(case side4 => exact HC3.out);rintro e w74 ⟨v594,rfl,ho0,hb⟩;have n0_:=ak_ (Kd.R_elder' (by (with_reducible repeat (first|apply ra_|apply rb_|apply rc_));exact HO_12.out) (Kd.R_base ho0) hb);have n1_:=ak_ (Kd.R_lower (Kd.R_new' ho0 (Kd.R_lt (by (with_reducible repeat (first|apply ra_|apply rb_|apply rc_));exact HO_12.out))) (below_size (by repeat (first|(with_reducible first|exact HB.out|apply ba_|apply bb_|apply bc_)|exact HB.out))));have n2_:=ak_ (below_step (by repeat (first|(with_reducible first|exact HB.out|apply ba_|apply bb_|apply bc_)|exact HB.out)) hb);clear HO_12;clear HB;have HO_12:=n0_;have HO595:=n1_;have HB:=n2_;clear n0_ n1_ n2_;(try clear hb);(try clear ho0);obtain ⟨Ao75,co75,eo75⟩:=Kd.R_slice HO_12.out;subst eo75;obtain ⟨Ao76,co76,eo76⟩:=Kd.R_slice HO595.out;subst eo76)|(go_at_call 15;(with_reducible refine (madrigallaw12_same.calls kj58 _ _ t587 _ _ t593 t596 _ ?side1 ?side2 ?side3 ?side4 A73.out).mono ?_);(case side1 => repeat (first|exact (Kd.R_reads' HO_12.out).2.2|(with_reducible refine Kd.C_alloc ?_ _)|(with_reducible refine Kd.C_drewN ?_ _)|(with_reducible refine Kd.C_drew ?_)));(case side2 => exact (Kd.R_reads' HO_12.out).2.1);(case side3 => repeat (first|exact (Kd.R_reads' HO595.out).2.2|(with_reducible refine Kd.C_alloc ?_ _)|(with_reducible refine Kd.C_drewN ?_ _)|(with_reducible refine Kd.C_drew ?_)));(case side4 => exact (Kd.R_reads' HO595.out).2.1);rintro e w' ⟨rfl,⟨nd,rfl⟩⟩))
                    go_meet
                    case rel => exact ⟨_,(!t596),(by first|rfl|(simp;done)|(simp [*];done)),H',⟨by have:=HJ6.out;have:=HJ13.out;have:=HJ21.out;have:=HJ35.out;have:=HJ42.out;have:=HJ58.out;first|omega|exact Nat.le_refl _⟩,⟨by repeat (first|(with_reducible first|exact HB.out|apply ba_|apply bb_|apply bc_)|exact HB.out)⟩⟩
                   ·rw [if_neg c71] at H
                    have c71b0 : (t588 == 0) = false:=beq_eq_false_iff_ne.mpr c71
                    have c71b1 : (t588 != 0) = true:=bne_iff_ne.mpr c71
                    (first|rw [c71b0]|(simp only [i64_w,i32_w];rw [c71b0])|skip)
                    have H':=ak_ H
                    clear H
                    go_wp2
                    go_meet
                    case rel => exact ⟨_,(true),(by first|rfl|(simp;done)|(simp [*];done)),H',⟨by have:=HJ6.out;have:=HJ13.out;have:=HJ21.out;have:=HJ35.out;have:=HJ42.out;have:=HJ58.out;first|omega|exact Nat.le_refl _⟩,⟨by repeat (first|(with_reducible first|exact HB.out|apply ba_|apply bb_|apply bc_)|exact HB.out)⟩⟩
                  case rest =>
                   clear HC70
                   try clear c1
                   try clear c2
                   try clear p2
                   try clear c3
                   try clear c4
                   try clear c5
                   try clear c6
                   try clear c7
                   try clear c9
                   try clear c9b0
                   try clear c9b1
                   try clear c10
                   try clear c10b0
                   try clear c10b1
                   try clear c11
                   try clear c12
                   try clear c13
                   try clear c16
                   try clear c20
                   try clear c20b0
                   try clear c20b1
                   try clear c21
                   try clear c21b0
                   try clear c23
                   try clear c24
                   try clear c24b0
                   try clear c24b1
                   try clear c25
                   try clear c25b0
                   try clear c25b1
                   try clear c27
                   try clear c27b0
                   try clear c27b1
                   try clear c30
                   try clear c34
                   try clear c42
                   try clear c42b0
                   try clear c42b1
                   try clear c44
                   try clear c45
                   try clear c45b0
                   try clear c45b1
                   try clear c46
                   try clear c46b0
                   try clear c46b1
                   try clear c48
                   try clear c48b0
                   try clear c48b1
                   try clear c51
                   try clear c53
                   try clear c61
                   try clear c61b0
                   try clear c61b1
                   try clear c62
                   try clear c64
                   try clear c64b0
                   try clear c64b1
                   try clear c66
                   try clear c71
                   try clear c71b0
                   try clear c71b1
                   try clear p2
                   obtain ⟨kq,x130_69,rfl,HA,HJ69,HB⟩:=hcut
                   (try simp only [i64_w,i32_w])
                   cases kq with
                   | zero => exact absurd HA.out (by simp [madrigallaw12_LevinSays.j7])
                   | succ kj69 =>
                    have H:=HA.out
                    clear HA
                    simp only [madrigallaw12_LevinSays.j7] at H
                    by_cases c77 : x130_69 = true
                    ·subst c77
                     have H1 : (none) = some r:=by rw [if_pos rfl] at H;exact H
                     clear H
                     have H:=H1
                     clear H1
                     exact absurd H (by simp)
                    ·replace c77:=Bool.eq_false_iff.mpr c77
                     subst c77
                     have H1 : ((levin_Power.f kj69 l0).bind fun t597 => ((madrigalref6_Power.f kj69 l0).bind fun t598 => (some (t597 == t598)))) = some r:=by rw [if_neg (show ¬ (false = true) by decide)] at H;exact H
                     clear H
                     have H:=H1
                     clear H1
                     replace H:=Option.bind_eq_some_iff.mp H
                     obtain ⟨t597,A780,H⟩:=H
                     (try dsimp only at H)
                     have A78:=ak_ A780
                     clear A780
                     replace H:=Option.bind_eq_some_iff.mp H
                     obtain ⟨t598,A790,H⟩:=H
                     (try dsimp only at H)
                     have A79:=ak_ A790
                     clear A790
                     obtain rfl:=Option.some.inj H
                     go_wp2_with (first|((with_reducible refine gate_callee (f:=16) rfl ?_);refine goesL_ (some 132) rfl rfl Try.func16 (by kernel_rfl) rfl #[.slice A0 l0.length c0] rfl (by (try simp only [List.map_toArray,List.map_cons,List.map_nil]);first|done|rfl|(simp only [List.length_drop,List.length_take];rfl)) ?_;(with_reducible refine (levin_Power.calls kj69 _ _ l0 t597 _ ?side1 ?side2 A78.out).mono ?_);(case side1 => repeat (first|exact (Kd.C_below HR0.out HB.out)|(with_reducible refine Kd.C_alloc ?_ _)|(with_reducible refine Kd.C_drewN ?_ _)|(with_reducible refine Kd.C_drew ?_)));(case side2 => exact HC0.out);rintro e w80 ⟨rfl,hb⟩;refine ⟨_,rfl,?_⟩;have n0_:=ak_ (below_step (by repeat (first|(with_reducible first|exact HB.out|apply ba_|apply bb_|apply bc_)|exact HB.out)) hb);clear HB;have HB:=n0_;clear n0_;(try clear hb))|((with_reducible refine gate_callee (f:=21) rfl ?_);refine goesL_ (some 134) rfl rfl Try.func21 (by kernel_rfl) rfl #[.slice A0 l0.length c0] rfl (by (try simp only [List.map_toArray,List.map_cons,List.map_nil]);first|done|rfl|(simp only [List.length_drop,List.length_take];rfl)) ?_;(with_reducible refine (madrigalref6_Power.calls kj69 _ _ l0 t598 _ ?side1 ?side2 A79.out).mono ?_);(case side1 => repeat (first|exact (Kd.C_below HR0.out HB.out)|(with_reducible refine Kd.C_alloc ?_ _)|(with_reducible refine Kd.C_drewN ?_ _)|(with_reducible refine Kd.C_drew ?_)));(case side2 => exact HC0.out);rintro e w' ⟨rfl,⟨nd,rfl⟩⟩;refine ⟨_,rfl,?_⟩))
                     go_ret
                     exact ⟨by first|rfl|(simp [errW_none,errW_some] <;> rfl)|(simp [*,errW_none,errW_some] <;> rfl),by repeat (first|(with_reducible first|exact HB.out|apply ba_|apply bb_|apply bc_)|exact HB.out)⟩
          ·rw [if_neg c34] at H
           exact absurd H (by simp)
     ·rw [if_neg c12] at H
      exact absurd H (by simp)
 ·replace c6:=Bool.eq_false_iff.mpr c6
  subst c6
  have H1 : (none) = some r:=by rw [if_neg (show ¬ (false = true) by decide)] at H;exact H
  clear H
  have H:=H1
  clear H1
  exact absurd H (by simp)

/-- THE ONE PURE STATEMENT of madrigallaw12_LevinSays. -/
def madrigallaw12_LevinSays.Pure : Prop:=∀ (l0 : List Int) (a1 : Int) (l2 : List Int) (l3 : List Int),l0.length ≤ maxLen → l0.length * 8 ≤ 140737488351232 → (∀ x ∈ l0,(Lit.int .i64 x).wf = true) → (Lit.int .i64 a1).wf = true → l2.length ≤ maxLen → l2.length * 8 ≤ 140737488351232 → (∀ x ∈ l2,(Lit.int .i64 x).wf = true) → l3.length ≤ maxLen → l3.length * 8 ≤ 140737488351232 → (∀ x ∈ l3,(Lit.int .i64 x).wf = true) → ∃ k,madrigallaw12_LevinSays.f k l0 a1 l2 l3 = some true
theorem madrigallaw12_LevinSays.walk (P : madrigallaw12_LevinSays.Pure) (a0 : Option Addr) (len0 cap0 : Nat) (z0 : List Int) (a1 : Int) (a2 : Option Addr) (len2 cap2 : Nat) (z2 : List Int) (a3 : Option Addr) (len3 cap3 : Nat) (z3 : List Int) (w : World) (w0 : (a0 = none ∧ len0 = 0 ∧ cap0 = 0 ∧ z0 = []) ∨ ∃ x,a0 = some x ∧ len0 ≤ cap0 ∧ cap0 ≤ maxLen ∧ z0.length = cap0 ∧ (∀ i,i < z0.length → w.cell? (x.add i) = some (.int .i64 (z0.getD i 0))) ∧ ∀ n ∈ z0,(Lit.int .i64 n).wf = true) (y0 : len0 * 8 ≤ 140737488351232) (w1 : (Lit.int .i64 a1).wf = true) (w2 : (a2 = none ∧ len2 = 0 ∧ cap2 = 0 ∧ z2 = []) ∨ ∃ x,a2 = some x ∧ len2 ≤ cap2 ∧ cap2 ≤ maxLen ∧ z2.length = cap2 ∧ (∀ i,i < z2.length → w.cell? (x.add i) = some (.int .i64 (z2.getD i 0))) ∧ ∀ n ∈ z2,(Lit.int .i64 n).wf = true) (y2 : len2 * 8 ≤ 140737488351232) (w3 : (a3 = none ∧ len3 = 0 ∧ cap3 = 0 ∧ z3 = []) ∨ ∃ x,a3 = some x ∧ len3 ≤ cap3 ∧ cap3 ≤ maxLen ∧ z3.length = cap3 ∧ (∀ i,i < z3.length → w.cell? (x.add i) = some (.int .i64 (z3.getD i 0))) ∧ ∀ n ∈ z3,(Lit.int .i64 n).wf = true) (y3 : len3 * 8 ≤ 140737488351232) :
  Calls Try.prog 4 #[.slice a0 len0 cap0,.int .i64 a1,.slice a2 len2 cap2,.slice a3 len3 cap3] w fun e w' => e = .returned (.bool true) ∧ Below w.heap.size w w':=by
 obtain ⟨l0,rfl,hr0,hm0,hw0,hc0⟩:=ReadsInt.ofRowC w0
 obtain ⟨l2,rfl,hr2,hm2,hw2,hc2⟩:=ReadsInt.ofRowC w2
 obtain ⟨l3,rfl,hr3,hm3,hw3,hc3⟩:=ReadsInt.ofRowC w3
 obtain ⟨k,h⟩:=P l0 a1 l2 l3 hm0 y0 hw0 w1 hm2 y2 hw2 hm3 y3 hw3
 refine (madrigallaw12_LevinSays.calls k _ _ l0 a1 _ _ l2 _ _ l3 true w (Kd.C_of_reads (d:=(0 : Int)) (h1:=fun _ => rfl) hr0) hc0 (Kd.C_of_reads (d:=(0 : Int)) (h1:=fun _ => rfl) hr2) hc2 (Kd.C_of_reads (d:=(0 : Int)) (h1:=fun _ => rfl) hr3) hc3 h).mono ?_
 rintro e w' ⟨rfl,hd⟩
 exact ⟨rfl,hd⟩

end Go.Proofs.Ytllglpcpjeggcaa.P
