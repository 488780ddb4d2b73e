/- The machine side of the laws of one chapter, without conditions: each call of a Go function comes to what the Lean function of its name answers. Written for this claim by a program of the prover. -/
import Derived.Test.YtcicenmmpbgmoaaPx0
import Derived.Test.YtcicenmmpbgmoaaPx1
import Derived.Test.YtcicenmmpbgmoaaPx2
import Derived.Test.YtcicenmmpbgmoaaPx11
import Derived.Test.YtcicenmmpbgmoaaPx15
import Derived.Test.YtcicenmmpbgmoaaPx17
import Derived.Test.YtcicenmmpbgmoaaPx27
namespace Go.Proofs.Ytcicenmmpbgmoaa.P
open Go.RowKit Go.Proofs.YtcicenmmpbgmoaaW.PrintWords Go.Proofs.YtcicenmmpbgmoaaW.PrintLast Go.Proofs.YtcicenmmpbgmoaaW.PrintMore
attribute [local go_sem] max2_int min2_int max_two min_two max_three min_three max_four min_four   -- for this text's walks alone
set_option linter.unusedVariables false
set_option linter.unusedSimpArgs false

/-! ### madrigallaw22_ResampConstant: function 7 -/
mutual
def madrigallaw22_ResampConstant.j0 : Nat → Int → Int → Int → Int → Bool → Option (Bool)
 | 0,_,_,_,_,_ => none
 | k + 1,x0,x1,x2,x3,x36 => if x36 = true then (some true) else ((madrigalref10_Parts.f k x0 x1).bind fun bt431 => (if resamp_Good.f x0 x1 = some true then ((resamp_New1.f x0 x1).bind fun bt433 => (madrigallaw22_ResampConstant.l0 k x0 x1 x2 x3 bt431.2 ([] : List Int) 0 bt433.1 bt433.2.1 bt433.2.2.1)) else ((resamp_New0.f x0 x1).bind fun t452 => (none))))
def madrigallaw22_ResampConstant.l0 : Nat → Int → Int → Int → Int → Int → List Int → Int → Int → Int → List Int → Option (Bool)
 | 0,_,_,_,_,_,_,_,_,_,_ => none
 | k + 1,x0,x1,x2,x3,x10,x13,x14,x437000,x437001,x437002 => if x14 < (wrap64 (x3 * x10)) then (if x13.length < 17592186044416 then (madrigallaw22_ResampConstant.l0 k x0 x1 x2 x3 x10 (x13 ++ [x2]) (wrap64 (x14 + 1)) x437000 x437001 x437002) else (none)) else (if (x13.length : Int) > 4800 then (some true) else ((resamp_Sampler_Run.f k x437000 x437001 x437002 x13).bind fun bt441 => (if bt441.2.1 = 0 then ((madrigalref1_Sat16.f k x2).bind fun t448 => (madrigallaw22_ResampConstant.l1 k x0 x1 bt441.1 t448 0)) else (none))))
def madrigallaw22_ResampConstant.l1 : Nat → Int → Int → List Int → Int → Int → Option (Bool)
 | 0,_,_,_,_,_ => none
 | k + 1,x0,x1,x15,x17,x18 => if x18 < (x15.length : Int) then (if x1 = 0 then (none) else (if (wrap64 (Int.tdiv (wrap64 (x18 * x0)) x1)) ≥ 17 then (if 0 ≤ x18 then (if (wrap64 ((rd x15 x18) - x17)) > 1 then (none) else (if (wrap64 (x17 - (rd x15 x18))) > 1 then (none) else (madrigallaw22_ResampConstant.l1 k x0 x1 x15 x17 (wrap64 (x18 + 1))))) else (none)) else (madrigallaw22_ResampConstant.l1 k x0 x1 x15 x17 (wrap64 (x18 + 1))))) else (some true)
end
def madrigallaw22_ResampConstant.f (k : Nat) (a0 : Int) (a1 : Int) (a2 : Int) (a3 : Int) : Option (Bool):=(madrigallaw22_awake.f k).bind fun t428 => (if t428 = true then ((madrigalref10_Known.f a0).bind fun t429 => (if t429 = true then ((madrigalref10_Known.f a1).bind fun t430 => (if t430 = true then (if a3 < 24 then (madrigallaw22_ResampConstant.j0 k a0 a1 a2 a3 true) else (madrigallaw22_ResampConstant.j0 k a0 a1 a2 a3 (decide (a3 > 400)))) else (madrigallaw22_ResampConstant.j0 k a0 a1 a2 a3 true))) else (madrigallaw22_ResampConstant.j0 k a0 a1 a2 a3 true))) else (none))
theorem madrigallaw22_ResampConstant.mono_l : ∀ k,(∀ y0 y1 y2 y3 y4,LeO (madrigallaw22_ResampConstant.j0 k y0 y1 y2 y3 y4) (madrigallaw22_ResampConstant.j0 (k + 1) y0 y1 y2 y3 y4)) ∧ (∀ y0 y1 y2 y3 y4 y5 y6 y7 y8 y9,LeO (madrigallaw22_ResampConstant.l0 k y0 y1 y2 y3 y4 y5 y6 y7 y8 y9) (madrigallaw22_ResampConstant.l0 (k + 1) y0 y1 y2 y3 y4 y5 y6 y7 y8 y9)) ∧ (∀ y0 y1 y2 y3 y4,LeO (madrigallaw22_ResampConstant.l1 k y0 y1 y2 y3 y4) (madrigallaw22_ResampConstant.l1 (k + 1) y0 y1 y2 y3 y4))
 | 0 => ⟨fun _ _ _ _ _ r h => by simp [madrigallaw22_ResampConstant.j0] at h,fun _ _ _ _ _ _ _ _ _ _ r h => by simp [madrigallaw22_ResampConstant.l0] at h,fun _ _ _ _ _ r h => by simp [madrigallaw22_ResampConstant.l1] at h⟩
 | k + 1 => by
  obtain ⟨ih0,ih1,ih2⟩:=madrigallaw22_ResampConstant.mono_l k
  refine ⟨?_,?_,?_⟩
  all_goals (intros;first|unfold madrigallaw22_ResampConstant.j0|unfold madrigallaw22_ResampConstant.l0|unfold madrigallaw22_ResampConstant.l1)
  all_goals (repeat' first|(with_reducible first|exact ih0 _ _ _ _ _|exact ih1 _ _ _ _ _ _ _ _ _ _|exact ih2 _ _ _ _ _|exact madrigallaw22_awake.mono _|exact madrigalref10_Parts.mono _ _ _|exact madrigalref1_Sat16.mono _ _|exact resamp_Sampler_Run.mono _ _ _ _ _|exact LeO.refl _|exact LeO.none _|refine LeO.ite ?_ ?_|refine LeO.bind ?_ (fun _ => ?_))|exact ih0 _ _ _ _ _|exact ih1 _ _ _ _ _ _ _ _ _ _|exact ih2 _ _ _ _ _|exact madrigallaw22_awake.mono _|exact madrigalref10_Parts.mono _ _ _|exact madrigalref1_Sat16.mono _ _|exact resamp_Sampler_Run.mono _ _ _ _ _|exact LeO.none _|refine LeO.ite ?_ ?_|refine LeO.bind ?_ (fun _ => ?_))
theorem madrigallaw22_ResampConstant.mono : ∀ a0 a1 a2 a3 k,LeO (madrigallaw22_ResampConstant.f k a0 a1 a2 a3) (madrigallaw22_ResampConstant.f (k + 1) a0 a1 a2 a3):=by
 intro a0 a1 a2 a3 k
 obtain ⟨ih0,ih1,ih2⟩:=madrigallaw22_ResampConstant.mono_l k
 unfold madrigallaw22_ResampConstant.f
 repeat' first|(with_reducible first|exact ih0 _ _ _ _ _|exact ih1 _ _ _ _ _ _ _ _ _ _|exact ih2 _ _ _ _ _|exact madrigallaw22_awake.mono _|exact madrigalref10_Parts.mono _ _ _|exact madrigalref1_Sat16.mono _ _|exact resamp_Sampler_Run.mono _ _ _ _ _|exact LeO.refl _|exact LeO.none _|refine LeO.ite ?_ ?_|refine LeO.bind ?_ (fun _ => ?_))|exact ih0 _ _ _ _ _|exact ih1 _ _ _ _ _ _ _ _ _ _|exact ih2 _ _ _ _ _|exact madrigallaw22_awake.mono _|exact madrigalref10_Parts.mono _ _ _|exact madrigalref1_Sat16.mono _ _|exact resamp_Sampler_Run.mono _ _ _ _ _|exact LeO.none _|refine LeO.ite ?_ ?_|refine LeO.bind ?_ (fun _ => ?_)
set_option maxHeartbeats 8000000 in
set_option maxRecDepth 100000 in
theorem madrigallaw22_ResampConstant.calls (k : Nat) (a0 : Int) (a1 : Int) (a2 : Int) (a3 : Int) (r : Bool) (w : World) (h : madrigallaw22_ResampConstant.f k a0 a1 a2 a3 = some r) :
  Calls Try.prog 7 #[.int .i64 a0,.int .i64 a1,.int .i64 a2,.int .i64 a3] w fun e w' => e = .returned (.bool r) ∧ Below w.heap.size w w':=by
 have HB:=ak_ (Below.refl w.heap.size w)
 have H : ((madrigallaw22_awake.f k).bind fun t428 => (if t428 = true then ((madrigalref10_Known.f a0).bind fun t429 => (if t429 = true then ((madrigalref10_Known.f a1).bind fun t430 => (if t430 = true then (if a3 < 24 then (madrigallaw22_ResampConstant.j0 k a0 a1 a2 a3 true) else (madrigallaw22_ResampConstant.j0 k a0 a1 a2 a3 (decide (a3 > 400)))) else (madrigallaw22_ResampConstant.j0 k a0 a1 a2 a3 true))) else (madrigallaw22_ResampConstant.j0 k a0 a1 a2 a3 true))) else (none))) = some r:=h
 clear h
 replace H:=Option.bind_eq_some_iff.mp H
 obtain ⟨t428,A50,H⟩:=H
 (try dsimp only at H)
 have A5:=ak_ A50
 clear A50
 by_cases c6 : t428 = true
 ·subst c6
  have H1 : ((madrigalref10_Known.f a0).bind fun t429 => (if t429 = true then ((madrigalref10_Known.f a1).bind fun t430 => (if t430 = true then (if a3 < 24 then (madrigallaw22_ResampConstant.j0 k a0 a1 a2 a3 true) else (madrigallaw22_ResampConstant.j0 k a0 a1 a2 a3 (decide (a3 > 400)))) else (madrigallaw22_ResampConstant.j0 k a0 a1 a2 a3 true))) else (madrigallaw22_ResampConstant.j0 k a0 a1 a2 a3 true))) = some r:=by rw [if_pos rfl] at H;exact H
  clear H
  have H:=H1
  clear H1
  have HC7:=ak_ H
  clear H
  go_enter Try.func7,Try.ntmps7
  go_upto_region 3 with (first|((with_reducible refine gate_callee (f:=11) rfl ?_);refine goesL_ (some 19) rfl rfl Try.func11 (by kernel_rfl) rfl #[] rfl (by (try simp only [List.map_toArray,List.map_cons,List.map_nil]);first|done|rfl|(simp only [List.length_drop,List.length_take];rfl)) ?_;(with_reducible refine (madrigallaw22_awake.calls k  true _ A5.out).mono ?_);rintro e w8 ⟨rfl,hb⟩;refine ⟨_,rfl,?_⟩;have n0_:=ak_ (below_step (by repeat (first|(with_reducible first|exact HB.out|apply ba_|apply bb_|apply bc_)|exact HB.out)) hb);clear HB;have HB:=n0_;clear n0_;(try clear hb)))
  (try simp only [Act.put,List.setIfInBounds_toArray,List.set_cons_zero,List.set_cons_succ])
  go_cut [36] (fun v36 wc => ∃ (kq : Nat) (x36_6 : Bool),v36 = .bool x36_6 ∧ Aside0 (madrigallaw22_ResampConstant.j0 kq a0 a1 a2 a3 x36_6 = some r) ∧ Aside0 (kq ≤ k) ∧ Aside0 (Below w.heap.size w wc))
  case first =>
   have H:=HC7.out
   clear HC7
   replace H:=Option.bind_eq_some_iff.mp H
   obtain ⟨t429,A90,H⟩:=H
   (try dsimp only at H)
   have A9:=ak_ A90
   clear A90
   by_cases c10 : t429 = true
   ·subst c10
    have H1 : ((madrigalref10_Known.f a1).bind fun t430 => (if t430 = true then (if a3 < 24 then (madrigallaw22_ResampConstant.j0 k a0 a1 a2 a3 true) else (madrigallaw22_ResampConstant.j0 k a0 a1 a2 a3 (decide (a3 > 400)))) else (madrigallaw22_ResampConstant.j0 k a0 a1 a2 a3 true))) = some r:=by rw [if_pos rfl] at H;exact H
    clear H
    have H:=H1
    clear H1
    replace H:=Option.bind_eq_some_iff.mp H
    obtain ⟨t430,A110,H⟩:=H
    (try dsimp only at H)
    have A11:=ak_ A110
    clear A110
    by_cases c12 : t430 = true
    ·subst c12
     have H1 : (if a3 < 24 then (madrigallaw22_ResampConstant.j0 k a0 a1 a2 a3 true) else (madrigallaw22_ResampConstant.j0 k a0 a1 a2 a3 (decide (a3 > 400)))) = some r:=by rw [if_pos rfl] at H;exact H
     clear H
     have H:=H1
     clear H1
     by_cases c13 : a3 < 24
     ·rw [if_pos c13] at H
      have c13b0:=decide_eq_true c13
      clear c13
      (first|rw [c13b0]|(simp only [i64_w,i32_w];rw [c13b0])|skip)
      have H':=ak_ H
      clear H
      go_wp2_with (first|((with_reducible refine gate_callee (f:=15) rfl ?_);refine goesL_ (some 22) rfl rfl Try.func15 (by kernel_rfl) rfl #[.int .i64 a0] rfl (by (try simp only [List.map_toArray,List.map_cons,List.map_nil]);first|done|rfl|(simp only [List.length_drop,List.length_take];rfl)) ?_;(with_reducible refine (madrigalref10_Known.calls a0 true _ A9.out).mono ?_);rintro e w' ⟨rfl,⟨nd,rfl⟩⟩;refine ⟨_,rfl,?_⟩)|(go_at_call 15;(with_reducible refine (madrigalref10_Known.calls a1 true _ A11.out).mono ?_);rintro e w' ⟨rfl,⟨nd,rfl⟩⟩))
      refine Met.intro ?_
      go_step
      (repeat apply Exists.intro)
      first|refine ⟨?rel82,rfl⟩|(refine ⟨?rel82,?st82⟩;case' st82 => (first|rw [c13b0]|simp only [c13b0]))
      case rel82 => exact ⟨_,(true),(by first|rfl|(simp;done)|(simp [*];done)),H',⟨by first|omega|exact Nat.le_refl _⟩,⟨by repeat (first|(with_reducible first|exact HB.out|apply ba_|apply bb_|apply bc_)|exact HB.out)⟩⟩
     ·rw [if_neg c13] at H
      have c13b0:=decide_eq_false c13
      clear c13
      (first|rw [c13b0]|(simp only [i64_w,i32_w];rw [c13b0])|skip)
      have H':=ak_ H
      clear H
      go_wp2_with (first|((with_reducible refine gate_callee (f:=15) rfl ?_);refine goesL_ (some 22) rfl rfl Try.func15 (by kernel_rfl) rfl #[.int .i64 a0] rfl (by (try simp only [List.map_toArray,List.map_cons,List.map_nil]);first|done|rfl|(simp only [List.length_drop,List.length_take];rfl)) ?_;(with_reducible refine (madrigalref10_Known.calls a0 true _ A9.out).mono ?_);rintro e w' ⟨rfl,⟨nd,rfl⟩⟩;refine ⟨_,rfl,?_⟩)|(go_at_call 15;(with_reducible refine (madrigalref10_Known.calls a1 true _ A11.out).mono ?_);rintro e w' ⟨rfl,⟨nd,rfl⟩⟩))
      refine Met.intro ?_
      go_step
      (repeat apply Exists.intro)
      first|refine ⟨?rel91,rfl⟩|(refine ⟨?rel91,?st91⟩;case' st91 => (first|rw [c13b0]|simp only [c13b0]))
      case rel91 => exact ⟨_,(decide (a3 > 400)),(by first|rfl|(simp;done)|(simp [*];done)),H',⟨by first|omega|exact Nat.le_refl _⟩,⟨by repeat (first|(with_reducible first|exact HB.out|apply ba_|apply bb_|apply bc_)|exact HB.out)⟩⟩
    ·replace c12:=Bool.eq_false_iff.mpr c12
     subst c12
     have H1 : (madrigallaw22_ResampConstant.j0 k a0 a1 a2 a3 true) = some r:=by rw [if_neg (show ¬ (false = true) by decide)] at H;exact H
     clear H
     have H:=H1
     clear H1
     have H':=ak_ H
     clear H
     go_wp2_with (first|((with_reducible refine gate_callee (f:=15) rfl ?_);refine goesL_ (some 22) rfl rfl Try.func15 (by kernel_rfl) rfl #[.int .i64 a0] rfl (by (try simp only [List.map_toArray,List.map_cons,List.map_nil]);first|done|rfl|(simp only [List.length_drop,List.length_take];rfl)) ?_;(with_reducible refine (madrigalref10_Known.calls a0 true _ A9.out).mono ?_);rintro e w' ⟨rfl,⟨nd,rfl⟩⟩;refine ⟨_,rfl,?_⟩)|(go_at_call 15;(with_reducible refine (madrigalref10_Known.calls a1 false _ A11.out).mono ?_);rintro e w' ⟨rfl,⟨nd,rfl⟩⟩))
     go_meet
     case rel => exact ⟨_,(true),(by first|rfl|(simp;done)|(simp [*];done)),H',⟨by first|omega|exact Nat.le_refl _⟩,⟨by repeat (first|(with_reducible first|exact HB.out|apply ba_|apply bb_|apply bc_)|exact HB.out)⟩⟩
   ·replace c10:=Bool.eq_false_iff.mpr c10
    subst c10
    have H1 : (madrigallaw22_ResampConstant.j0 k a0 a1 a2 a3 true) = some r:=by rw [if_neg (show ¬ (false = true) by decide)] at H;exact H
    clear H
    have H:=H1
    clear H1
    have H':=ak_ H
    clear H
    go_wp2_with (first|((with_reducible refine gate_callee (f:=15) rfl ?_);refine goesL_ (some 22) rfl rfl Try.func15 (by kernel_rfl) rfl #[.int .i64 a0] rfl (by (try simp only [List.map_toArray,List.map_cons,List.map_nil]);first|done|rfl|(simp only [List.length_drop,List.length_take];rfl)) ?_;(with_reducible refine (madrigalref10_Known.calls a0 false _ A9.out).mono ?_);rintro e w' ⟨rfl,⟨nd,rfl⟩⟩;refine ⟨_,rfl,?_⟩))
    go_meet
    case rel => exact ⟨_,(true),(by first|rfl|(simp;done)|(simp [*];done)),H',⟨by first|omega|exact Nat.le_refl _⟩,⟨by repeat (first|(with_reducible first|exact HB.out|apply ba_|apply bb_|apply bc_)|exact HB.out)⟩⟩
  case rest =>
   clear HC7
   try clear c1
   try clear p2
   try clear c6
   try clear c7
   try clear c10
   try clear c11
   try clear c12
   try clear c13
   try clear c13b0
   obtain ⟨kq,x36_6,rfl,HA,HJ6,HB⟩:=hcut
   (try simp only [i64_w,i32_w])
   cases kq with
   | zero => exact absurd HA.out (by simp [madrigallaw22_ResampConstant.j0])
   | succ kj6 =>
    have H:=HA.out
    clear HA
    simp only [madrigallaw22_ResampConstant.j0] at H
    by_cases c14 : x36_6 = true
    ·subst c14
     have H1 : (some true) = some r:=by rw [if_pos rfl] at H;exact H
     clear H
     have H:=H1
     clear H1
     obtain rfl:=Option.some.inj H
     go_wp2
     go_ret
     exact ⟨by first|rfl|(simp [errW_none,errW_some] <;> rfl)|(simp [*,errW_none,errW_some] <;> rfl),by repeat (first|(with_reducible first|exact HB.out|apply ba_|apply bb_|apply bc_)|exact HB.out)⟩
    ·replace c14:=Bool.eq_false_iff.mpr c14
     subst c14
     have H1 : ((madrigalref10_Parts.f kj6 a0 a1).bind fun bt431 => (if resamp_Good.f a0 a1 = some true then ((resamp_New1.f a0 a1).bind fun bt433 => (madrigallaw22_ResampConstant.l0 kj6 a0 a1 a2 a3 bt431.2 ([] : List Int) 0 bt433.1 bt433.2.1 bt433.2.2.1)) else ((resamp_New0.f a0 a1).bind fun t452 => (none)))) = some r:=by rw [if_neg (show ¬ (false = true) by decide)] at H;exact H
     clear H
     have H:=H1
     clear H1
     replace H:=Option.bind_eq_some_iff.mp H
     obtain ⟨⟨t431,t432⟩,A150,H⟩:=H
     (try dsimp only at H)
     have A15:=ak_ A150
     clear A150
     by_cases c16 : resamp_Good.f a0 a1 = some true
     ·rw [if_pos c16] at H
      have c16b0 : (resamp_Good.f a0 a1 == some true) = true:=beq_iff_eq.mpr c16
      have c16b1 : (resamp_Good.f a0 a1 != some true) = false:=bne_eq_false_iff_eq.mpr c16
      clear c16
      replace H:=Option.bind_eq_some_iff.mp H
      obtain ⟨⟨t433,t434,t435,t437⟩,A170,H⟩:=H
      (try dsimp only at H)
      have A17:=ak_ A170
      clear A170
      have H':=ak_ H
      clear H
      go_wp2_with (first|((with_reducible refine gate_callee (f:=17) rfl ?_);refine goesL_ (some 40) rfl rfl Try.func17 (by kernel_rfl) rfl #[.int .i64 a0,.int .i64 a1] rfl (by (try simp only [List.map_toArray,List.map_cons,List.map_nil]);first|done|rfl|(simp only [List.length_drop,List.length_take];rfl)) ?_;(with_reducible refine (madrigalref10_Parts.calls kj6 a0 a1 t431 t432 _ A15.out).mono ?_);rintro e w' ⟨rfl,⟨nd,rfl⟩⟩;refine ⟨_,rfl,?_⟩)|((with_reducible refine gate_callee (f:=12) rfl ?_);refine goesL_ (some 46) rfl rfl Try.func12 (by kernel_rfl) rfl #[.int .i64 a0,.int .i64 a1] rfl (by (try simp only [List.map_toArray,List.map_cons,List.map_nil]);first|done|rfl|(simp only [List.length_drop,List.length_take];rfl)) ?_;(with_reducible refine (resamp_New1.calls a0 a1 t433 t434 t435 t437 w _ ?side1 A17.out).mono ?_);(case side1 => repeat (first|(with_reducible first|exact HB.out|apply ba_|apply bb_|apply bc_)|exact HB.out));rintro e w18 ⟨g436,rfl,hi,hb,hb2,hge⟩;refine ⟨_,rfl,?_⟩;have n0_:=ak_ (hb);have n1_:=ak_ (hi);clear HB;have HB:=n0_;have HI436:=n1_;clear n0_ n1_;(try clear hb);(try clear hb2);(try clear hi);(try clear hge)))
      go_loopg [13,14] kj6 (fun kq v13 v14 w' => ∃ (x13_2 : List Int) (x14_2 : Int),v14 = .int .i64 x14_2 ∧ Aside0 (madrigallaw22_ResampConstant.l0 kq a0 a1 a2 a3 t432 x13_2 x14_2 t433 t434 t435 = some r) ∧ Aside0 (kq ≤ kj6) ∧ Aside0 (Kd.R (Kd.int .i64) 2 w' w.heap.size (fun _ => True) v13 x13_2) ∧ Aside0 (IsS53 w w' g436 t433 t434 t435) ∧ Aside0 (Below w.heap.size w w'))
      case atStart => exact ⟨(([] : List Int)),(0),(by first|rfl|(simp;done)|(simp [*];done)),H',⟨Nat.le_refl _⟩,⟨by first|exact Kd.R_nil _ _ _ _ _|exact Kd.N_nil _ _ _ _ _|exact Kd.V_nil _ _ _ _ _|exact Kd.Q_nil _ _ _ _ _|exact Kd.S_nil _ _ _ _ _⟩,⟨by repeat (first|(with_reducible first|exact HI436.out|apply IsS53.alloc|apply IsS53.drewN|apply IsS53.drew)|exact HI436.out)⟩,⟨by repeat (first|(with_reducible first|exact HB.out|apply ba_|apply bb_|apply bc_|refine below_set ?_ (IsS53.ge HI436.out))|exact HB.out)⟩⟩
      case round =>
       clear H'
       try clear c1
       try clear p2
       try clear c6
       try clear c7
       try clear c10
       try clear c11
       try clear c12
       try clear c13
       try clear c13b0
       try clear c14
       try clear c15
       try clear c16
       try clear c16b0
       try clear c16b1
       try clear c17
       try clear p2
       obtain ⟨x13_2,x14_2,rfl,HA,HK2,HO_13,HI436,HB⟩:=hrel
       (try simp only [i64_w,i32_w])
       cases gk with
       | zero => exact absurd HA.out (by simp [madrigallaw22_ResampConstant.l0])
       | succ k2 =>
        have H:=HA.out
        clear HA
        simp only [madrigallaw22_ResampConstant.l0] at H
        by_cases c19 : x14_2 < (wrap64 (a3 * t432))
        ·rw [if_pos c19] at H
         have c19b0:=decide_eq_true c19
         clear c19
         by_cases c20 : x13_2.length < 17592186044416
         ·rw [if_pos c20] at H
          have LMc20:=ak_ c20
          clear c20
          obtain ⟨y438,hy438⟩ : ∃ y_ : List Int,y_ = (x13_2 ++ [a2]):=⟨_,rfl⟩
          replace H : (madrigallaw22_ResampConstant.l0 k2 a0 a1 a2 a3 t432 y438 (wrap64 (x14_2 + 1)) t433 t434 t435) = some r:=by first|(rw [hy438];with_reducible exact H)|(have H2_:=(Option.bind_some _ _).symm.trans H;rw [hy438];with_reducible exact H2_)|(have H2_:=(Option.bind_some _ _).symm.trans H;with_reducible exact H2_)|with_reducible exact H|(rw [hy438];exact H)|exact H
          have Ny438:=ak_ hy438
          clear hy438
          have H':=ak_ H
          clear H
          go_wp2_with (first|((with_reducible refine gate_builtin (b:=.append) (xs:=#[.tmp 58,.tmp 60]) rfl ?_);at_builtin;refine Kd.R_append (Kd.int .i64) (w0:=w) w.heap.size rfl (.tmp 58) (.tmp 60) 27 2 (.int .i64 0) 8 rfl Try.underlying27 info2 rfl (by decide) (by omega) u13 x13_2 a2 [.int .i64 a2] (fun _ => True) (fun _ => False) rfl rfl ?aP (fun _ hk => hk.elim) ?aF ?aO ?aB ?aS ?aL ?_;(case aP => exact rfl);(case aB => exact (by repeat (first|(with_reducible first|exact HB.out|apply ba_|apply bb_|apply bc_|refine below_set ?_ (IsS53.ge HI436.out))|exact HB.out)));(case aF => exact (fun _ _ => trivial));(case aO => exact (by (with_reducible repeat (first|apply ra_|apply rb_|apply rc_));exact HO_13.out));(case aS => exact (below_size (by repeat (first|(with_reducible first|exact HB.out|apply ba_|apply bb_|apply bc_|refine below_set ?_ (IsS53.ge HI436.out))|exact HB.out))));(case aL => have:=LMc20.out;omega);intro v439 w21 ho hb hg hat;rw [← Ny438.out] at ho;have n0_:=ak_ (IsS53.grown (by repeat (first|(with_reducible first|exact HI436.out|apply IsS53.alloc|apply IsS53.drewN|apply IsS53.drew)|exact HI436.out)) hg (IsS53.own_ne HI436.out HO_13.out (by decide)));have n1_:=ak_ (hb);have n2_:=ak_ (ho);clear HI436;clear HB;clear HO_13;have HI436:=n0_;have HB:=n1_;have HO440:=n2_;clear n0_ n1_ n2_;clear ho hb hg hat))
          go_roundg k2
          case measure => have:=HJ6.out;have:=HK2.out;omega
          case rel => exact ⟨(y438),(wrap64 (x14_2 + 1)),(by first|rfl|(simp;done)|(simp [*];done)),H',⟨by have:=HJ6.out;have:=HK2.out;omega⟩,⟨by (with_reducible repeat (first|apply ra_|apply rb_|apply rc_));exact HO440.out⟩,⟨by repeat (first|(with_reducible first|exact HI436.out|apply IsS53.alloc|apply IsS53.drewN|apply IsS53.drew)|exact HI436.out)⟩,⟨by repeat (first|(with_reducible first|exact HB.out|apply ba_|apply bb_|apply bc_|refine below_set ?_ (IsS53.ge HI436.out))|exact HB.out)⟩⟩
         ·rw [if_neg c20] at H
          exact absurd H (by simp)
        ·rw [if_neg c19] at H
         have c19b0:=decide_eq_false c19
         clear c19
         by_cases c22 : (x13_2.length : Int) > 4800
         ·rw [if_pos c22] at H
          have c22b0 : decide (4800 < (x13_2.length : Int)) = true:=decide_eq_true c22
          have c22b1 : decide (4800 < x13_2.length) = true:=decide_eq_true (by omega)
          clear c22
          obtain rfl:=Option.some.inj H
          obtain ⟨Ao23,co23,eo23⟩:=Kd.R_slice HO_13.out
          subst eo23
          go_wp2
          go_ret
          exact ⟨by first|rfl|(simp [errW_none,errW_some] <;> rfl)|(simp [*,errW_none,errW_some] <;> rfl),by repeat (first|(with_reducible first|exact HB.out|apply ba_|apply bb_|apply bc_|refine below_set ?_ (IsS53.ge HI436.out))|exact HB.out)⟩
         ·rw [if_neg c22] at H
          have c22b0 : decide (4800 < (x13_2.length : Int)) = false:=decide_eq_false c22
          have c22b1 : decide (4800 < x13_2.length) = false:=decide_eq_false (by omega)
          clear c22
          replace H:=Option.bind_eq_some_iff.mp H
          obtain ⟨⟨t441,t444,t445,t446,t447⟩,A240,H⟩:=H
          (try dsimp only at H)
          have A24:=ak_ A240
          clear A240
          by_cases c25 : t444 = 0
          ·rw [if_pos c25] at H
           have c25b0 : (t444 == 0) = true:=beq_iff_eq.mpr c25
           have c25b1 : (t444 != 0) = false:=bne_eq_false_iff_eq.mpr c25
           clear c25
           replace H:=Option.bind_eq_some_iff.mp H
           obtain ⟨t448,A260,H⟩:=H
           (try dsimp only at H)
           have A26:=ak_ A260
           clear A260
           have H':=ak_ H
           clear H
           obtain ⟨Ao27,co27,eo27⟩:=Kd.R_slice HO_13.out
           subst eo27
           go_wp2_with (first|((with_reducible refine gate_callee (f:=13) rfl ?_);refine goesL_ (some 68) rfl rfl Try.func13 (by kernel_rfl) rfl #[.pointer (some ⟨g436,0,none⟩),.slice Ao27 x13_2.length co27] rfl (by (try simp only [List.map_toArray,List.map_cons,List.map_nil]);first|done|rfl|(simp only [List.length_drop,List.length_take];rfl)) ?_;(with_reducible refine (resamp_Sampler_Run.calls k2 g436 t433 t434 t435 _ _ x13_2 t441 t444 t445 t446 t447 w _ ?side1 ?side2 ?side3 ?side4 ?side5 A24.out).mono ?_);(case side1 => repeat (first|(with_reducible first|exact HI436.out|apply IsS53.alloc|apply IsS53.drewN|apply IsS53.drew)|exact HI436.out));(case side2 => repeat (first|(with_reducible first|exact HB.out|apply ba_|apply bb_|apply bc_|refine below_set ?_ (IsS53.ge HI436.out))|exact HB.out));(case side3 => repeat (first|exact (Kd.R_reads' HO_13.out).2.2|(with_reducible refine Kd.C_alloc ?_ _)|(with_reducible refine Kd.C_drewN ?_ _)|(with_reducible refine Kd.C_drew ?_)));(case side4 => exact (Kd.R_reads' HO_13.out).2.1);(case side5 => exact far_slice (IsS53.own_ne HI436.out HO_13.out (by decide)));rintro e w28 ⟨v442,rfl,ho0,hi,hb,hk⟩;refine ⟨_,rfl,?_⟩;have n0_:=ak_ (Kd.R_mono (Kd.R_told (Kd.R_oldK (IsS53.apart (show IsS53 w _ g436 t433 t434 t435 from by repeat (first|(with_reducible first|exact HI436.out|apply IsS53.alloc|apply IsS53.drewN|apply IsS53.drew)|exact HI436.out)) (by (with_reducible repeat (first|apply ra_|apply rb_|apply rc_));exact HO_13.out) (by decide)) hk) (Kd.R_base ho0)) (fun _ h_ => h_.1));have n1_:=ak_ (Kd.R_lower (Kd.R_new' ho0 (Kd.R_lt (by (with_reducible repeat (first|apply ra_|apply rb_|apply rc_));exact HO_13.out))) (below_size (by repeat (first|(with_reducible first|exact HB.out|apply ba_|apply bb_|apply bc_|refine below_set ?_ (IsS53.ge HI436.out))|exact HB.out))));have n2_:=ak_ (hb);have n3_:=ak_ (hi);clear HO_13;clear HB;clear HI436;have HO_13:=n0_;have HO443:=n1_;have HB:=n2_;have HI436:=n3_;clear n0_ n1_ n2_ n3_;(try clear hb);(try clear hk);(try clear hi);(try clear ho0))|((with_reducible refine gate_callee (f:=25) rfl ?_);refine goesL_ (some 74) rfl rfl Try.func25 (by kernel_rfl) rfl #[.int .i64 a2] rfl (by (try simp only [List.map_toArray,List.map_cons,List.map_nil]);first|done|rfl|(simp only [List.length_drop,List.length_take];rfl)) ?_;(with_reducible refine (madrigalref1_Sat16.calls k2 a2 t448 _ A26.out).mono ?_);rintro e w' ⟨rfl,⟨nd,rfl⟩⟩;refine ⟨_,rfl,?_⟩))
           go_loopg [18] k2 (fun kq v18 w' => ∃ (x18_3 : Int),v18 = .int .i64 x18_3 ∧ Aside0 (madrigallaw22_ResampConstant.l1 kq a0 a1 t441 t448 x18_3 = some r) ∧ Aside0 (kq ≤ k2) ∧ Aside0 (Kd.R (Kd.int .i64) 2 w' w.heap.size (fun _ => True) v442 t441) ∧ Aside0 (Below w.heap.size w w'))
           case atStart => exact ⟨(0),(by first|rfl|(simp;done)|(simp [*];done)),H',⟨Nat.le_refl _⟩,⟨by (with_reducible repeat (first|apply ra_|apply rb_|apply rc_));exact Kd.R_mono HO443.out (fun _ hk => trivial)⟩,⟨by repeat (first|(with_reducible first|exact HB.out|apply ba_|apply bb_|apply bc_|refine below_set ?_ (IsS53.ge HI436.out))|exact HB.out)⟩⟩
           case round =>
            clear H'
            try clear c1
            try clear c2
            try clear p2
            try clear c6
            try clear p6
            try clear c7
            try clear c10
            try clear c11
            try clear c12
            try clear c13
            try clear c13b0
            try clear c14
            try clear c15
            try clear c16
            try clear c16b0
            try clear c16b1
            try clear c17
            try clear c19
            try clear c19b0
            try clear c20
            try clear c22
            try clear c22b0
            try clear c22b1
            try clear c25
            try clear c25b0
            try clear c25b1
            try clear p2
            obtain ⟨x18_3,rfl,HA,HK3,HO_15,HB⟩:=hrel
            (try simp only [i64_w,i32_w])
            cases gk with
            | zero => exact absurd HA.out (by simp [madrigallaw22_ResampConstant.l1])
            | succ k3 =>
             have H:=HA.out
             clear HA
             simp only [madrigallaw22_ResampConstant.l1] at H
             by_cases c29 : x18_3 < (t441.length : Int)
             ·rw [if_pos c29] at H
              have c29b0:=decide_eq_true c29
              clear c29
              by_cases c30 : a1 = 0
              ·rw [if_pos c30] at H
               exact absurd H (by simp)
              ·rw [if_neg c30] at H
               have c30b0 : (a1 == 0) = false:=beq_eq_false_iff_ne.mpr c30
               have c30b1 : (a1 != 0) = true:=bne_iff_ne.mpr c30
               by_cases c31 : (wrap64 (Int.tdiv (wrap64 (x18_3 * a0)) a1)) ≥ 17
               ·rw [if_pos c31] at H
                have c31b0 : decide (17 ≤ (wrap64 (Int.tdiv (wrap64 (x18_3 * a0)) a1))) = true:=decide_eq_true c31
                clear c31
                by_cases c32 : 0 ≤ x18_3
                ·rw [if_pos c32] at H
                 have c32b0:=decide_eq_true c32
                 clear c32
                 by_cases c33 : (wrap64 ((rd t441 x18_3) - t448)) > 1
                 ·rw [if_pos c33] at H
                  exact absurd H (by simp)
                 ·rw [if_neg c33] at H
                  have c33b0 : decide (1 < (wrap64 ((rd t441 x18_3) - t448))) = false:=decide_eq_false c33
                  clear c33
                  by_cases c34 : (wrap64 (t448 - (rd t441 x18_3))) > 1
                  ·rw [if_pos c34] at H
                   exact absurd H (by simp)
                  ·rw [if_neg c34] at H
                   have c34b0 : decide (1 < (wrap64 (t448 - (rd t441 x18_3)))) = false:=decide_eq_false c34
                   clear c34
                   have H':=ak_ H
                   clear H
                   obtain ⟨Ao35,co35,eo35⟩:=Kd.R_slice HO_15.out
                   subst eo35
                   have p449 : 0 ≤ (x18_3 : Int):=of_decide_eq_true (by first|(with_reducible assumption)|assumption)
                   have q449 : x18_3 < (t441.length : Int):=of_decide_eq_true (by first|(with_reducible assumption)|assumption)
                   obtain ⟨ad449,e449,hx449_0⟩:=Kd.at_int (Kd.R_reads' HO_15.out).2.2 x18_3 p449 q449
                   cases e449
                   replace p449:=eq_true p449
                   replace q449:=eq_true q449
                   have p450 : 0 ≤ (x18_3 : Int):=of_decide_eq_true (by first|(with_reducible assumption)|assumption)
                   have q450 : x18_3 < (t441.length : Int):=of_decide_eq_true (by first|(with_reducible assumption)|assumption)
                   obtain ⟨ad450,e450,hx450_0⟩:=Kd.at_int (Kd.R_reads' HO_15.out).2.2 x18_3 p450 q450
                   obtain rfl : ad449 = ad450:=(by injection e450)
                   replace p450:=eq_true p450
                   replace q450:=eq_true q450
                   go_wp2
                   go_roundg k3
                   case measure => have:=HJ6.out;have:=HK2.out;have:=HK3.out;omega
                   case rel => exact ⟨(wrap64 (x18_3 + 1)),(by first|rfl|(simp;done)|(simp [*];done)),H',⟨by have:=HJ6.out;have:=HK2.out;have:=HK3.out;omega⟩,⟨by (with_reducible repeat (first|apply ra_|apply rb_|apply rc_));exact HO_15.out⟩,⟨by repeat (first|(with_reducible first|exact HB.out|apply ba_|apply bb_|apply bc_)|exact HB.out)⟩⟩
                ·rw [if_neg c32] at H
                 exact absurd H (by simp)
               ·rw [if_neg c31] at H
                have c31b0 : decide (17 ≤ (wrap64 (Int.tdiv (wrap64 (x18_3 * a0)) a1))) = false:=decide_eq_false c31
                clear c31
                have H':=ak_ H
                clear H
                obtain ⟨Ao36,co36,eo36⟩:=Kd.R_slice HO_15.out
                subst eo36
                go_wp2
                go_roundg k3
                case measure => have:=HJ6.out;have:=HK2.out;have:=HK3.out;omega
                case rel => exact ⟨(wrap64 (x18_3 + 1)),(by first|rfl|(simp;done)|(simp [*];done)),H',⟨by have:=HJ6.out;have:=HK2.out;have:=HK3.out;omega⟩,⟨by (with_reducible repeat (first|apply ra_|apply rb_|apply rc_));exact HO_15.out⟩,⟨by repeat (first|(with_reducible first|exact HB.out|apply ba_|apply bb_|apply bc_)|exact HB.out)⟩⟩
             ·rw [if_neg c29] at H
              have c29b0:=decide_eq_false c29
              clear c29
              obtain rfl:=Option.some.inj H
              obtain ⟨Ao37,co37,eo37⟩:=Kd.R_slice HO_15.out
              subst eo37
              go_wp2
              go_ret
              exact ⟨by first|rfl|(simp [errW_none,errW_some] <;> rfl)|(simp [*,errW_none,errW_some] <;> rfl),by repeat (first|(with_reducible first|exact HB.out|apply ba_|apply bb_|apply bc_)|exact HB.out)⟩
          ·rw [if_neg c25] at H
           exact absurd H (by simp)
     ·rw [if_neg c16] at H
      have c16b0 : (resamp_Good.f a0 a1 == some true) = false:=beq_eq_false_iff_ne.mpr c16
      have c16b1 : (resamp_Good.f a0 a1 != some true) = true:=bne_iff_ne.mpr c16
      replace H:=Option.bind_eq_some_iff.mp H
      obtain ⟨t452,A380,H⟩:=H
      (try dsimp only at H)
      have A38:=ak_ A380
      clear A380
      exact absurd H (by simp)
 ·replace c6:=Bool.eq_false_iff.mpr c6
  subst c6
  have H1 : (none) = some r:=by rw [if_neg (show ¬ (false = true) by decide)] at H;exact H
  clear H
  have H:=H1
  clear H1
  exact absurd H (by simp)

/-- THE ONE PURE STATEMENT of madrigallaw22_ResampConstant. -/
def madrigallaw22_ResampConstant.Pure : Prop:=∀ (a0 : Int) (a1 : Int) (a2 : Int) (a3 : Int),(Lit.int .i64 a0).wf = true → (Lit.int .i64 a1).wf = true → (Lit.int .i64 a2).wf = true → (Lit.int .i64 a3).wf = true → ∃ k,madrigallaw22_ResampConstant.f k a0 a1 a2 a3 = some true
theorem madrigallaw22_ResampConstant.walk (P : madrigallaw22_ResampConstant.Pure) (a0 : Int) (a1 : Int) (a2 : Int) (a3 : Int) (w : World) (w0 : (Lit.int .i64 a0).wf = true) (w1 : (Lit.int .i64 a1).wf = true) (w2 : (Lit.int .i64 a2).wf = true) (w3 : (Lit.int .i64 a3).wf = true) :
  Calls Try.prog 7 #[.int .i64 a0,.int .i64 a1,.int .i64 a2,.int .i64 a3] w fun e w' => e = .returned (.bool true) ∧ Below w.heap.size w w':=by
 obtain ⟨k,h⟩:=P a0 a1 a2 a3 w0 w1 w2 w3
 refine (madrigallaw22_ResampConstant.calls k a0 a1 a2 a3 true w h).mono ?_
 rintro e w' ⟨rfl,hd⟩
 exact ⟨rfl,hd⟩

end Go.Proofs.Ytcicenmmpbgmoaa.P
