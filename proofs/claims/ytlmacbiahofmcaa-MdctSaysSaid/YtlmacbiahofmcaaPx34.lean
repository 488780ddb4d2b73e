/- The machine side of the laws of one chapter, without conditions: each call of a Go function comes to what the Lean function of its name answers. Written for this claim by a program of the prover. -/
import Derived.Test.YtlmacbiahofmcaaPx0
import Derived.Test.YtlmacbiahofmcaaPx1
import Derived.Test.YtlmacbiahofmcaaPx8
import Derived.Test.YtlmacbiahofmcaaPx10
import Derived.Test.YtlmacbiahofmcaaPx12
import Derived.Test.YtlmacbiahofmcaaPx15
import Derived.Test.YtlmacbiahofmcaaPx20
import Derived.Test.YtlmacbiahofmcaaPx22
import Derived.Test.YtlmacbiahofmcaaPx29
import Derived.Test.YtlmacbiahofmcaaPx31
import Derived.Test.YtlmacbiahofmcaaPx33
namespace Go.Proofs.Ytlmacbiahofmcaa.P
open Go.RowKit Go.Proofs.YtlmacbiahofmcaaW.PrintWords Go.Proofs.YtlmacbiahofmcaaW.PrintLast Go.Proofs.YtlmacbiahofmcaaW.PrintMore
attribute [local go_sem] max2_int min2_int max_two min_two max_three min_three max_four min_four   -- for this text's walks alone
set_option linter.unusedVariables false
set_option linter.unusedSimpArgs false

/-! ### madrigallaw15_MdctSays: function 4 -/
mutual
def madrigallaw15_MdctSays.j0 : Nat → List Int → List Int → Int → Bool → Option (Bool)
 | 0,_,_,_,_ => none
 | k + 1,x0,x1,x2,x23 => if x23 = true then (some true) else (if ((x0.length : Int) % 2) = 0 then ((madrigalref10_GoodBlock.f (wrap64 ((x0.length : Int) / 2)) x2).bind fun t403 => (madrigallaw15_MdctSays.j1 k x0 x1 x2 (wrap64 ((x0.length : Int) / 2)) t403)) else (madrigallaw15_MdctSays.j1 k x0 x1 x2 (wrap64 ((x0.length : Int) / 2)) false))
def madrigallaw15_MdctSays.j1 : Nat → List Int → List Int → Int → Int → Bool → Option (Bool)
 | 0,_,_,_,_,_ => none
 | k + 1,x0,x1,x2,x7,x8 => (some (([] : List Int) : List Int)).bind fun y404 => (if y404.length + x0.length < 17592186044416 then ((mdct_Forward.f k (y404 ++ x0) x2).bind fun bt410 => ((mdct_Shape.f k x7 x2).bind fun bt414 => ((mdct_Good.f x7 x2).bind fun t418 => ((madrigalref10_GoodBlock.f x7 x2).bind fun t419 => (if (t418 != t419) = true then (madrigallaw15_MdctSays.j2 k x0 x1 x2 x8 bt410.1 bt410.2 true) else ((madrigalref10_GoodBlock.f x7 x2).bind fun t420 => (if ((bt414.2 == 0) != t420) = true then (madrigallaw15_MdctSays.j2 k x0 x1 x2 x8 bt410.1 bt410.2 true) else (if bt414.2 = 0 then ((madrigalref10_Shape.f k x7 x2).bind fun t421 => ((madrigallaw15_same.f k bt414.1 t421).bind fun t424 => (madrigallaw15_MdctSays.j2 k x0 x1 x2 x8 bt410.1 bt410.2 (!t424)))) else (madrigallaw15_MdctSays.j2 k x0 x1 x2 x8 bt410.1 bt410.2 false))))))))) else (none))
def madrigallaw15_MdctSays.j2 : Nat → List Int → List Int → Int → Bool → List Int → Int → Bool → Option (Bool)
 | 0,_,_,_,_,_,_,_ => none
 | k + 1,x0,x1,x2,x8,x9,x10,x76 => if x76 = true then (none) else (if x8 = true then (if x10 = 0 then ((madrigalref10_Forward.f k x0 x2).bind fun t425 => ((madrigallaw15_same.f k x9 t425).bind fun t428 => (if t428 = true then (madrigallaw15_MdctSays.j3 k x1 x2) else (none)))) else (none)) else (if x10 = 1 then (if (x9.length : Int) = 0 then (madrigallaw15_MdctSays.j3 k x1 x2) else (none)) else (none)))
def madrigallaw15_MdctSays.j3 : Nat → List Int → Int → Option (Bool)
 | 0,_,_ => none
 | k + 1,x1,x2 => (some (([] : List Int) : List Int)).bind fun y429 => (if y429.length + x1.length < 17592186044416 then ((mdct_Inverse.f k (y429 ++ x1) x2).bind fun bt435 => ((madrigalref10_GoodBlock.f (x1.length : Int) x2).bind fun t439 => (if t439 = true then (if bt435.2 = 0 then ((madrigalref10_Inverse.f k x1 x2).bind fun t440 => ((madrigallaw15_same.f k bt435.1 t440).bind fun t443 => (some t443))) else (none)) else (if bt435.2 = 1 then (some ((bt435.1.length : Int) == 0)) else (none))))) else (none))
end
def madrigallaw15_MdctSays.f (k : Nat) (l0 : List Int) (l1 : List Int) (a2 : Int) : Option (Bool):=(madrigallaw15_awake.f k).bind fun t402 => (if t402 = true then (if (l0.length : Int) > 320 then (madrigallaw15_MdctSays.j0 k l0 l1 a2 true) else (madrigallaw15_MdctSays.j0 k l0 l1 a2 (decide ((l1.length : Int) > 160)))) else (none))
theorem madrigallaw15_MdctSays.mono_l : ∀ k,(∀ y0 y1 y2 y3,LeO (madrigallaw15_MdctSays.j0 k y0 y1 y2 y3) (madrigallaw15_MdctSays.j0 (k + 1) y0 y1 y2 y3)) ∧ (∀ y0 y1 y2 y3 y4,LeO (madrigallaw15_MdctSays.j1 k y0 y1 y2 y3 y4) (madrigallaw15_MdctSays.j1 (k + 1) y0 y1 y2 y3 y4)) ∧ (∀ y0 y1 y2 y3 y4 y5 y6,LeO (madrigallaw15_MdctSays.j2 k y0 y1 y2 y3 y4 y5 y6) (madrigallaw15_MdctSays.j2 (k + 1) y0 y1 y2 y3 y4 y5 y6)) ∧ (∀ y0 y1,LeO (madrigallaw15_MdctSays.j3 k y0 y1) (madrigallaw15_MdctSays.j3 (k + 1) y0 y1))
 | 0 => ⟨fun _ _ _ _ r h => by simp [madrigallaw15_MdctSays.j0] at h,fun _ _ _ _ _ r h => by simp [madrigallaw15_MdctSays.j1] at h,fun _ _ _ _ _ _ _ r h => by simp [madrigallaw15_MdctSays.j2] at h,fun _ _ r h => by simp [madrigallaw15_MdctSays.j3] at h⟩
 | k + 1 => by
  obtain ⟨ih0,ih1,ih2,ih3⟩:=madrigallaw15_MdctSays.mono_l k
  refine ⟨?_,?_,?_,?_⟩
  all_goals (intros;first|unfold madrigallaw15_MdctSays.j0|unfold madrigallaw15_MdctSays.j1|unfold madrigallaw15_MdctSays.j2|unfold madrigallaw15_MdctSays.j3)
  all_goals (repeat' first|(with_reducible first|exact ih0 _ _ _ _|exact ih1 _ _ _ _ _|exact ih2 _ _ _ _ _ _ _|exact ih3 _ _|exact madrigallaw15_awake.mono _|exact madrigallaw15_same.mono _ _ _|exact madrigalref10_Forward.mono _ _ _|exact madrigalref10_Inverse.mono _ _ _|exact madrigalref10_Shape.mono _ _ _|exact mdct_Forward.mono _ _ _|exact mdct_Inverse.mono _ _ _|exact mdct_Shape.mono _ _ _|exact LeO.refl _|exact LeO.none _|refine LeO.ite ?_ ?_|refine LeO.bind ?_ (fun _ => ?_))|exact ih0 _ _ _ _|exact ih1 _ _ _ _ _|exact ih2 _ _ _ _ _ _ _|exact ih3 _ _|exact madrigallaw15_awake.mono _|exact madrigallaw15_same.mono _ _ _|exact madrigalref10_Forward.mono _ _ _|exact madrigalref10_Inverse.mono _ _ _|exact madrigalref10_Shape.mono _ _ _|exact mdct_Forward.mono _ _ _|exact mdct_Inverse.mono _ _ _|exact mdct_Shape.mono _ _ _|exact LeO.none _|refine LeO.ite ?_ ?_|refine LeO.bind ?_ (fun _ => ?_))
theorem madrigallaw15_MdctSays.mono : ∀ a0 a1 a2 k,LeO (madrigallaw15_MdctSays.f k a0 a1 a2) (madrigallaw15_MdctSays.f (k + 1) a0 a1 a2):=by
 intro a0 a1 a2 k
 obtain ⟨ih0,ih1,ih2,ih3⟩:=madrigallaw15_MdctSays.mono_l k
 unfold madrigallaw15_MdctSays.f
 repeat' first|(with_reducible first|exact ih0 _ _ _ _|exact ih1 _ _ _ _ _|exact ih2 _ _ _ _ _ _ _|exact ih3 _ _|exact madrigallaw15_awake.mono _|exact madrigallaw15_same.mono _ _ _|exact madrigalref10_Forward.mono _ _ _|exact madrigalref10_Inverse.mono _ _ _|exact madrigalref10_Shape.mono _ _ _|exact mdct_Forward.mono _ _ _|exact mdct_Inverse.mono _ _ _|exact mdct_Shape.mono _ _ _|exact LeO.refl _|exact LeO.none _|refine LeO.ite ?_ ?_|refine LeO.bind ?_ (fun _ => ?_))|exact ih0 _ _ _ _|exact ih1 _ _ _ _ _|exact ih2 _ _ _ _ _ _ _|exact ih3 _ _|exact madrigallaw15_awake.mono _|exact madrigallaw15_same.mono _ _ _|exact madrigalref10_Forward.mono _ _ _|exact madrigalref10_Inverse.mono _ _ _|exact madrigalref10_Shape.mono _ _ _|exact mdct_Forward.mono _ _ _|exact mdct_Inverse.mono _ _ _|exact mdct_Shape.mono _ _ _|exact LeO.none _|refine LeO.ite ?_ ?_|refine LeO.bind ?_ (fun _ => ?_)
set_option maxHeartbeats 8000000 in
set_option maxRecDepth 100000 in
theorem madrigallaw15_MdctSays.calls (k : Nat) (A0 : Option Addr) (c0 : Nat) (l0 : List Int) (A1 : Option Addr) (c1 : Nat) (l1 : List Int) (a2 : Int) (r : Bool) (w : World) (hr0 : Kd.C (Kd.int .i64) w A0 l0.length l0) (hc0 : l0.length ≤ c0) (hr1 : Kd.C (Kd.int .i64) w A1 l1.length l1) (hc1 : l1.length ≤ c1) (h : madrigallaw15_MdctSays.f k l0 l1 a2 = some r) :
  Calls Try.prog 4 #[.slice A0 l0.length c0,.slice A1 l1.length c1,.int .i64 a2] w fun e w' => e = .returned (.bool r) ∧ Below w.heap.size w w':=by
 have HR0:=ak_ hr0
 have HC0:=ak_ hc0
 clear hr0 hc0
 have HR1:=ak_ hr1
 have HC1:=ak_ hc1
 clear hr1 hc1
 have HB:=ak_ (Below.refl w.heap.size w)
 have H : ((madrigallaw15_awake.f k).bind fun t402 => (if t402 = true then (if (l0.length : Int) > 320 then (madrigallaw15_MdctSays.j0 k l0 l1 a2 true) else (madrigallaw15_MdctSays.j0 k l0 l1 a2 (decide ((l1.length : Int) > 160)))) else (none))) = some r:=h
 clear h
 replace H:=Option.bind_eq_some_iff.mp H
 obtain ⟨t402,A40,H⟩:=H
 (try dsimp only at H)
 have A4:=ak_ A40
 clear A40
 by_cases c5 : t402 = true
 ·subst c5
  have H1 : (if (l0.length : Int) > 320 then (madrigallaw15_MdctSays.j0 k l0 l1 a2 true) else (madrigallaw15_MdctSays.j0 k l0 l1 a2 (decide ((l1.length : Int) > 160)))) = some r:=by rw [if_pos rfl] at H;exact H
  clear H
  have H:=H1
  clear H1
  have HC6:=ak_ H
  clear H
  go_enter Try.func4,Try.ntmps4
  go_upto_region 3 with (first|((with_reducible refine gate_callee (f:=9) rfl ?_);refine goesL_ (some 14) rfl rfl Try.func9 (by kernel_rfl) rfl #[] rfl (by (try simp only [List.map_toArray,List.map_cons,List.map_nil]);first|done|rfl|(simp only [List.length_drop,List.length_take];rfl)) ?_;(with_reducible refine (madrigallaw15_awake.calls k  true _ A4.out).mono ?_);rintro e w7 ⟨rfl,hb⟩;refine ⟨_,rfl,?_⟩;have n0_:=ak_ (below_step (by repeat (first|(with_reducible first|exact HB.out|apply ba_|apply bb_|apply bc_)|exact HB.out)) hb);clear HB;have HB:=n0_;clear n0_;(try clear hb)))
  (try simp only [Act.put,List.setIfInBounds_toArray,List.set_cons_zero,List.set_cons_succ])
  go_cut [23] (fun v23 wc => ∃ (kq : Nat) (x23_5 : Bool),v23 = .bool x23_5 ∧ Aside0 (madrigallaw15_MdctSays.j0 kq l0 l1 a2 x23_5 = some r) ∧ Aside0 (kq ≤ k) ∧ Aside0 (Below w.heap.size w wc))
  case first =>
   have H:=HC6.out
   clear HC6
   by_cases c8 : (l0.length : Int) > 320
   ·rw [if_pos c8] at H
    have c8b0 : decide (320 < (l0.length : Int)) = true:=decide_eq_true c8
    have c8b1 : decide (320 < l0.length) = true:=decide_eq_true (by omega)
    clear c8
    (first|rw [c8b0]|(simp only [i64_w,i32_w];rw [c8b0])|skip)
    have H':=ak_ H
    clear H
    go_wp2
    refine Met.intro ?_
    go_step
    (repeat apply Exists.intro)
    first|refine ⟨?rel70,rfl⟩|(refine ⟨?rel70,?st70⟩;case' st70 => (first|rw [c8b0]|simp only [c8b0]))
    case rel70 => exact ⟨_,(true),(by first|rfl|(simp;done)|(simp [*];done)),H',⟨by first|omega|exact Nat.le_refl _⟩,⟨by repeat (first|(with_reducible first|exact HB.out|apply ba_|apply bb_|apply bc_)|exact HB.out)⟩⟩
   ·rw [if_neg c8] at H
    have c8b0 : decide (320 < (l0.length : Int)) = false:=decide_eq_false c8
    have c8b1 : decide (320 < l0.length) = false:=decide_eq_false (by omega)
    clear c8
    (first|rw [c8b0]|(simp only [i64_w,i32_w];rw [c8b0])|skip)
    have H':=ak_ H
    clear H
    go_wp2
    refine Met.intro ?_
    go_step
    (repeat apply Exists.intro)
    first|refine ⟨?rel80,rfl⟩|(refine ⟨?rel80,?st80⟩;case' st80 => (first|rw [c8b0]|simp only [c8b0]))
    case rel80 => exact ⟨_,(decide ((l1.length : Int) > 160)),(by first|rfl|(simp;done)|(simp [*];done)),H',⟨by first|omega|exact Nat.le_refl _⟩,⟨by repeat (first|(with_reducible first|exact HB.out|apply ba_|apply bb_|apply bc_)|exact HB.out)⟩⟩
  case rest =>
   clear HC6
   try clear c1
   try clear p2
   try clear c4
   try clear c5
   try clear c8
   try clear c8b0
   try clear c8b1
   obtain ⟨kq,x23_5,rfl,HA,HJ5,HB⟩:=hcut
   (try simp only [i64_w,i32_w])
   cases kq with
   | zero => exact absurd HA.out (by simp [madrigallaw15_MdctSays.j0])
   | succ kj5 =>
    have H:=HA.out
    clear HA
    simp only [madrigallaw15_MdctSays.j0] at H
    by_cases c9 : x23_5 = true
    ·subst c9
     have H1 : (some true) = some r:=by rw [if_pos rfl] at H;exact H
     clear H
     have H:=H1
     clear H1
     obtain rfl:=Option.some.inj H
     go_wp2
     go_ret
     exact ⟨by first|rfl|(simp [errW_none,errW_some] <;> rfl)|(simp [*,errW_none,errW_some] <;> rfl),by repeat (first|(with_reducible first|exact HB.out|apply ba_|apply bb_|apply bc_)|exact HB.out)⟩
    ·replace c9:=Bool.eq_false_iff.mpr c9
     subst c9
     have H1 : (if ((l0.length : Int) % 2) = 0 then ((madrigalref10_GoodBlock.f (wrap64 ((l0.length : Int) / 2)) a2).bind fun t403 => (madrigallaw15_MdctSays.j1 kj5 l0 l1 a2 (wrap64 ((l0.length : Int) / 2)) t403)) else (madrigallaw15_MdctSays.j1 kj5 l0 l1 a2 (wrap64 ((l0.length : Int) / 2)) false)) = some r:=by rw [if_neg (show ¬ (false = true) by decide)] at H;exact H
     clear H
     have H:=H1
     clear H1
     have HC10:=ak_ H
     clear H
     go_upto_region 6 with (fail)
     go_cut [8] (fun v8 wc => ∃ (kq : Nat) (x8_9 : Bool),v8 = .bool x8_9 ∧ Aside0 (madrigallaw15_MdctSays.j1 kq l0 l1 a2 (wrap64 ((l0.length : Int) / 2)) x8_9 = some r) ∧ Aside0 (kq ≤ kj5) ∧ Aside0 (Below w.heap.size w wc))
     case first =>
      have H:=HC10.out
      clear HC10
      by_cases c11 : ((l0.length : Int) % 2) = 0
      ·rw [if_pos c11] at H
       have c11b0 : (((l0.length : Int) % 2) == 0) = true:=beq_iff_eq.mpr c11
       have c11b1 : (((l0.length : Int) % 2) != 0) = false:=bne_eq_false_iff_eq.mpr c11
       clear c11
       (first|rw [c11b0]|(simp only [i64_w,i32_w];rw [c11b0])|skip)
       replace H:=Option.bind_eq_some_iff.mp H
       obtain ⟨t403,A120,H⟩:=H
       (try dsimp only at H)
       have A12:=ak_ A120
       clear A120
       have H':=ak_ H
       clear H
       go_wp2_with (first|(go_at_call 15;(with_reducible refine (madrigalref10_GoodBlock.calls (wrap64 ((l0.length : Int) / 2)) a2 t403 _ A12.out).mono ?_);rintro e w' ⟨rfl,⟨nd,rfl⟩⟩))
       go_meet
       case rel => exact ⟨_,(t403),(by first|rfl|(simp;done)|(simp [*];done)),H',⟨by have:=HJ5.out;first|omega|exact Nat.le_refl _⟩,⟨by repeat (first|(with_reducible first|exact HB.out|apply ba_|apply bb_|apply bc_)|exact HB.out)⟩⟩
      ·rw [if_neg c11] at H
       have c11b0 : (((l0.length : Int) % 2) == 0) = false:=beq_eq_false_iff_ne.mpr c11
       have c11b1 : (((l0.length : Int) % 2) != 0) = true:=bne_iff_ne.mpr c11
       (first|rw [c11b0]|(simp only [i64_w,i32_w];rw [c11b0])|skip)
       have H':=ak_ H
       clear H
       go_wp2
       go_meet
       case rel => exact ⟨_,(false),(by first|rfl|(simp;done)|(simp [*];done)),H',⟨by have:=HJ5.out;first|omega|exact Nat.le_refl _⟩,⟨by repeat (first|(with_reducible first|exact HB.out|apply ba_|apply bb_|apply bc_)|exact HB.out)⟩⟩
     case rest =>
      clear HC10
      try clear c1
      try clear p2
      try clear c4
      try clear c5
      try clear p6
      try clear c8
      try clear c8b0
      try clear c8b1
      try clear c9
      try clear c11
      try clear c11b0
      try clear c11b1
      try clear p2
      obtain ⟨kq,x8_9,rfl,HA,HJ9,HB⟩:=hcut
      (try simp only [i64_w,i32_w])
      cases kq with
      | zero => exact absurd HA.out (by simp [madrigallaw15_MdctSays.j1])
      | succ kj9 =>
       have H:=HA.out
       clear HA
       simp only [madrigallaw15_MdctSays.j1] at H
       obtain ⟨y404,hy404⟩ : ∃ y_ : List Int,y_ = (([] : List Int)):=⟨_,rfl⟩
       replace H : (if y404.length + l0.length < 17592186044416 then ((mdct_Forward.f kj9 (y404 ++ l0) a2).bind fun bt410 => ((mdct_Shape.f kj9 (wrap64 ((l0.length : Int) / 2)) a2).bind fun bt414 => ((mdct_Good.f (wrap64 ((l0.length : Int) / 2)) a2).bind fun t418 => ((madrigalref10_GoodBlock.f (wrap64 ((l0.length : Int) / 2)) a2).bind fun t419 => (if (t418 != t419) = true then (madrigallaw15_MdctSays.j2 kj9 l0 l1 a2 x8_9 bt410.1 bt410.2 true) else ((madrigalref10_GoodBlock.f (wrap64 ((l0.length : Int) / 2)) a2).bind fun t420 => (if ((bt414.2 == 0) != t420) = true then (madrigallaw15_MdctSays.j2 kj9 l0 l1 a2 x8_9 bt410.1 bt410.2 true) else (if bt414.2 = 0 then ((madrigalref10_Shape.f kj9 (wrap64 ((l0.length : Int) / 2)) a2).bind fun t421 => ((madrigallaw15_same.f kj9 bt414.1 t421).bind fun t424 => (madrigallaw15_MdctSays.j2 kj9 l0 l1 a2 x8_9 bt410.1 bt410.2 (!t424)))) else (madrigallaw15_MdctSays.j2 kj9 l0 l1 a2 x8_9 bt410.1 bt410.2 false))))))))) else (none)) = some r:=by first|(rw [hy404];with_reducible exact H)|(have H2_:=(Option.bind_some _ _).symm.trans H;rw [hy404];with_reducible exact H2_)|(have H2_:=(Option.bind_some _ _).symm.trans H;with_reducible exact H2_)|with_reducible exact H|(rw [hy404];exact H)|exact H
       have Ny404:=ak_ hy404
       clear hy404
       by_cases c13 : y404.length + l0.length < 17592186044416
       ·rw [if_pos c13] at H
        have LMc13:=ak_ c13
        clear c13
        obtain ⟨y407,hy407⟩ : ∃ y_ : List Int,y_ = (y404 ++ l0):=⟨_,rfl⟩
        replace H : ((mdct_Forward.f kj9 y407 a2).bind fun bt410 => ((mdct_Shape.f kj9 (wrap64 ((l0.length : Int) / 2)) a2).bind fun bt414 => ((mdct_Good.f (wrap64 ((l0.length : Int) / 2)) a2).bind fun t418 => ((madrigalref10_GoodBlock.f (wrap64 ((l0.length : Int) / 2)) a2).bind fun t419 => (if (t418 != t419) = true then (madrigallaw15_MdctSays.j2 kj9 l0 l1 a2 x8_9 bt410.1 bt410.2 true) else ((madrigalref10_GoodBlock.f (wrap64 ((l0.length : Int) / 2)) a2).bind fun t420 => (if ((bt414.2 == 0) != t420) = true then (madrigallaw15_MdctSays.j2 kj9 l0 l1 a2 x8_9 bt410.1 bt410.2 true) else (if bt414.2 = 0 then ((madrigalref10_Shape.f kj9 (wrap64 ((l0.length : Int) / 2)) a2).bind fun t421 => ((madrigallaw15_same.f kj9 bt414.1 t421).bind fun t424 => (madrigallaw15_MdctSays.j2 kj9 l0 l1 a2 x8_9 bt410.1 bt410.2 (!t424)))) else (madrigallaw15_MdctSays.j2 kj9 l0 l1 a2 x8_9 bt410.1 bt410.2 false))))))))) = some r:=by first|(rw [hy407];with_reducible exact H)|(have H2_:=(Option.bind_some _ _).symm.trans H;rw [hy407];with_reducible exact H2_)|(have H2_:=(Option.bind_some _ _).symm.trans H;with_reducible exact H2_)|with_reducible exact H|(rw [hy407];exact H)|exact H
        have Ny407:=ak_ hy407
        clear hy407
        replace H:=Option.bind_eq_some_iff.mp H
        obtain ⟨⟨t410,t411⟩,A140,H⟩:=H
        (try dsimp only at H)
        have A14:=ak_ A140
        clear A140
        replace H:=Option.bind_eq_some_iff.mp H
        obtain ⟨⟨t414,t415⟩,A150,H⟩:=H
        (try dsimp only at H)
        have A15:=ak_ A150
        clear A150
        have HC16:=ak_ H
        clear H
        go_upto_region 9 with (first|((with_reducible refine gate_dst (N:=37) rfl ?_);(try (refine gate_guard (by rfl) ?_;dsimp only));refine Kd.R_lit (Kd.int .i64) _ 2 ?hg (N:=37) ?hd (xs:=([] : List Int)) (inner:=[]) (ok:=fun _ => True) (okp:=fun _ => True) ?hr ?hp (fun _ hk => hk) trivial (Below.refl _ _) (Nat.le_refl _) (by simp) ?_;(case hd => rfl);(case hg => rfl);(case hr => first|(go_simp;done)|(go_simp;rfl));(case hp => exact (Reps.none _ _));intro v405 w17 ho18 hb hg_ hnew_;clear hg_ hnew_;(first|rw [← Ny404.out] at ho18|(simp only [Int.reduceToNat] at ho18;rw [← Ny404.out] at ho18));have n0_:=ak_ (Kd.R_lower ho18 (below_size (by repeat (first|(with_reducible first|exact HB.out|apply ba_|apply bb_|apply bc_)|exact HB.out))));have n1_:=ak_ (below_step (by repeat (first|(with_reducible first|exact HB.out|apply ba_|apply bb_|apply bc_)|exact HB.out)) hb);clear HB;have HO406:=n0_;have HB:=n1_;clear n0_ n1_;clear hb ho18)|((with_reducible refine gate_builtin (b:=.append) (xs:=#[.tmp 37,.tmp 38]) rfl ?_);(try (refine gate_guard (by rfl) ?_;dsimp only));at_builtin;refine Kd.R_append_rows (Kd.int .i64) (w0:=w) w.heap.size rfl (.tmp 37) (.tmp 38) 23 2 (.int .i64 0) 8 rfl Try.underlying23 info2 rfl (by decide) (by omega) v405 y404 l0 _ _ _ (fun _ => True) (fun _ => False) rfl rfl ?aO ?aR (fun _ _ h => h) (fun _ h => h.elim) ?aF ?aB ?aS ?aL ?_;(case aR => repeat (first|exact (Kd.C_below HR0.out HB.out)|(with_reducible refine Kd.C_alloc ?_ _)|(with_reducible refine Kd.C_drewN ?_ _)|(with_reducible refine Kd.C_drew ?_)));(case aB => exact (by repeat (first|(with_reducible first|exact HB.out|apply ba_|apply bb_|apply bc_)|exact HB.out)));(case aF => exact (fun _ _ => trivial));(case aO => exact (by (with_reducible repeat (first|apply ra_|apply rb_|apply rc_));exact HO406.out));(case aS => exact (below_size (by repeat (first|(with_reducible first|exact HB.out|apply ba_|apply bb_|apply bc_)|exact HB.out))));(case aL => have:=LMc13.out;omega);intro v408 w19 ho hb hg hat;rw [← Ny407.out] at ho;have n0_:=ak_ (hb);have n1_:=ak_ (ho);clear HB;clear HO406;have HB:=n0_;have HO409:=n1_;clear n0_ n1_;clear ho hb hg hat;obtain ⟨Ao20,co20,eo20⟩:=Kd.R_slice HO409.out;subst eo20)|((with_reducible refine gate_callee (f:=11) rfl ?_);refine goesL_ (some 41) rfl rfl Try.func11 (by kernel_rfl) rfl #[.slice Ao20 y407.length co20,.int .i64 a2] rfl (by (try simp only [List.map_toArray,List.map_cons,List.map_nil]);first|done|rfl|(simp only [List.length_drop,List.length_take];rfl)) ?_;(with_reducible refine (mdct_Forward.calls kj9 _ _ y407 a2 t410 t411 _ ?side1 ?side2 A14.out).mono ?_);(case side1 => repeat (first|exact (Kd.R_reads' HO409.out).2.2|(with_reducible refine Kd.C_alloc ?_ _)|(with_reducible refine Kd.C_drewN ?_ _)|(with_reducible refine Kd.C_drew ?_)));(case side2 => exact (Kd.R_reads' HO409.out).2.1);rintro e w21 ⟨v412,rfl,ho0,hb⟩;refine ⟨_,rfl,?_⟩;have n0_:=ak_ (Kd.R_elder' (by (with_reducible repeat (first|apply ra_|apply rb_|apply rc_));exact HO409.out) (Kd.R_base ho0) hb);have n1_:=ak_ (Kd.R_lower (Kd.R_new' ho0 (Kd.R_lt (by (with_reducible repeat (first|apply ra_|apply rb_|apply rc_));exact HO409.out))) (below_size (by repeat (first|(with_reducible first|exact HB.out|apply ba_|apply bb_|apply bc_)|exact HB.out))));have n2_:=ak_ (below_step (by repeat (first|(with_reducible first|exact HB.out|apply ba_|apply bb_|apply bc_)|exact HB.out)) hb);clear HO409;clear HB;have HO409:=n0_;have HO413:=n1_;have HB:=n2_;clear n0_ n1_ n2_;(try clear hb);(try clear ho0))|((with_reducible refine gate_callee (f:=10) rfl ?_);refine goesL_ (some 47) rfl rfl Try.func10 (by kernel_rfl) rfl #[.int .i64 (wrap64 ((l0.length : Int) / 2)),.int .i64 a2] rfl (by (try simp only [List.map_toArray,List.map_cons,List.map_nil]);first|done|rfl|(simp only [List.length_drop,List.length_take];rfl)) ?_;(with_reducible refine (mdct_Shape.calls kj9 (wrap64 ((l0.length : Int) / 2)) a2 t414 t415 _ A15.out).mono ?_);rintro e w22 ⟨v416,rfl,ho0,hb⟩;refine ⟨_,rfl,?_⟩;have n0_:=ak_ (Kd.R_elder' (by (with_reducible repeat (first|apply ra_|apply rb_|apply rc_));exact HO409.out) (Kd.R_base ho0) hb);have n1_:=ak_ (Kd.R_elder' (by (with_reducible repeat (first|apply ra_|apply rb_|apply rc_));exact HO413.out) (Kd.R_base ho0) hb);have n2_:=ak_ (Kd.R_lower (Kd.R_new' (Kd.R_new' ho0 (Kd.R_lt (by (with_reducible repeat (first|apply ra_|apply rb_|apply rc_));exact HO409.out))) (Kd.R_lt (by (with_reducible repeat (first|apply ra_|apply rb_|apply rc_));exact HO413.out))) (below_size (by repeat (first|(with_reducible first|exact HB.out|apply ba_|apply bb_|apply bc_)|exact HB.out))));have n3_:=ak_ (below_step (by repeat (first|(with_reducible first|exact HB.out|apply ba_|apply bb_|apply bc_)|exact HB.out)) hb);clear HO409;clear HO413;clear HB;have HO409:=n0_;have HO413:=n1_;have HO417:=n2_;have HB:=n3_;clear n0_ n1_ n2_ n3_;(try clear hb);(try clear ho0)))
        (try simp only [Act.put,List.setIfInBounds_toArray,List.set_cons_zero,List.set_cons_succ])
        go_cut [76] (fun v76 wc => ∃ (kq : Nat) (x76_15 : Bool),v76 = .bool x76_15 ∧ Aside0 (madrigallaw15_MdctSays.j2 kq l0 l1 a2 x8_9 t410 t411 x76_15 = some r) ∧ Aside0 (kq ≤ kj9) ∧ Aside0 (Kd.R (Kd.int .i64) 2 wc w.heap.size (fun _ => True) v412 t410) ∧ Aside0 (Below w.heap.size w wc))
        case first =>
         have H:=HC16.out
         clear HC16
         replace H:=Option.bind_eq_some_iff.mp H
         obtain ⟨t418,A230,H⟩:=H
         (try dsimp only at H)
         have A23:=ak_ A230
         clear A230
         replace H:=Option.bind_eq_some_iff.mp H
         obtain ⟨t419,A240,H⟩:=H
         (try dsimp only at H)
         have A24:=ak_ A240
         clear A240
         by_cases c25 : (t418 != t419) = true
         ·rw [if_pos c25] at H
          have c25b0 : (t418 != t419) = true:=c25
          (try (have c25b1 : decide (t418 = t419) = false:=by simpa using c25))
          (try (have c25b2 : (t418 == t419) = false:=by simpa using c25))
          (try (have c25b3 : ¬ (t418 = t419):=by simpa using c25))
          clear c25
          (first|rw [c25b0]|(simp only [i64_w,i32_w];rw [c25b0])|skip)
          have H':=ak_ H
          clear H
          go_wp2_with (first|((with_reducible refine gate_callee (f:=16) rfl ?_);refine goesL_ (some 52) rfl rfl Try.func16 (by kernel_rfl) rfl #[.int .i64 (wrap64 ((l0.length : Int) / 2)),.int .i64 a2] rfl (by (try simp only [List.map_toArray,List.map_cons,List.map_nil]);first|done|rfl|(simp only [List.length_drop,List.length_take];rfl)) ?_;(with_reducible refine (mdct_Good.calls (wrap64 ((l0.length : Int) / 2)) a2 t418 _ A23.out).mono ?_);rintro e w' ⟨rfl,⟨nd,rfl⟩⟩;refine ⟨_,rfl,?_⟩)|((with_reducible refine gate_callee (f:=15) rfl ?_);refine goesL_ (some 55) rfl rfl Try.func15 (by kernel_rfl) rfl #[.int .i64 (wrap64 ((l0.length : Int) / 2)),.int .i64 a2] rfl (by (try simp only [List.map_toArray,List.map_cons,List.map_nil]);first|done|rfl|(simp only [List.length_drop,List.length_take];rfl)) ?_;(with_reducible refine (madrigalref10_GoodBlock.calls (wrap64 ((l0.length : Int) / 2)) a2 t419 _ A24.out).mono ?_);rintro e w' ⟨rfl,⟨nd,rfl⟩⟩;refine ⟨_,rfl,?_⟩))
          go_meet
          case rel => exact ⟨_,(true),(by first|rfl|(simp;done)|(simp [*];done)),H',⟨by have:=HJ5.out;have:=HJ9.out;first|omega|exact Nat.le_refl _⟩,⟨by (with_reducible repeat (first|apply ra_|apply rb_|apply rc_));exact Kd.R_mono HO413.out (fun _ hk => trivial)⟩,⟨by repeat (first|(with_reducible first|exact HB.out|apply ba_|apply bb_|apply bc_)|exact HB.out)⟩⟩
         ·rw [if_neg c25] at H
          have c25b0 : (t418 != t419) = false:=by simpa using c25
          (try (have c25b1 : decide (t418 = t419) = true:=by simpa using c25))
          (try (have c25b2 : (t418 == t419) = true:=by simpa using c25))
          clear c25
          (first|rw [c25b0]|(simp only [i64_w,i32_w];rw [c25b0])|skip)
          replace H:=Option.bind_eq_some_iff.mp H
          obtain ⟨t420,A260,H⟩:=H
          (try dsimp only at H)
          have A26:=ak_ A260
          clear A260
          by_cases c27 : ((t415 == 0) != t420) = true
          ·rw [if_pos c27] at H
           have c27b0 : ((t415 == 0) != t420) = true:=c27
           (try (have c27b1 : decide ((t415 == 0) = t420) = false:=by simpa using c27))
           (try (have c27b2 : ((t415 == 0) == t420) = false:=by simpa using c27))
           (try (have c27b3 : ¬ ((t415 == 0) = t420):=by simpa using c27))
           clear c27
           have H':=ak_ H
           clear H
           go_wp2_with (first|((with_reducible refine gate_callee (f:=16) rfl ?_);refine goesL_ (some 52) rfl rfl Try.func16 (by kernel_rfl) rfl #[.int .i64 (wrap64 ((l0.length : Int) / 2)),.int .i64 a2] rfl (by (try simp only [List.map_toArray,List.map_cons,List.map_nil]);first|done|rfl|(simp only [List.length_drop,List.length_take];rfl)) ?_;(with_reducible refine (mdct_Good.calls (wrap64 ((l0.length : Int) / 2)) a2 t418 _ A23.out).mono ?_);rintro e w' ⟨rfl,⟨nd,rfl⟩⟩;refine ⟨_,rfl,?_⟩)|((with_reducible refine gate_callee (f:=15) rfl ?_);refine goesL_ (some 55) rfl rfl Try.func15 (by kernel_rfl) rfl #[.int .i64 (wrap64 ((l0.length : Int) / 2)),.int .i64 a2] rfl (by (try simp only [List.map_toArray,List.map_cons,List.map_nil]);first|done|rfl|(simp only [List.length_drop,List.length_take];rfl)) ?_;(with_reducible refine (madrigalref10_GoodBlock.calls (wrap64 ((l0.length : Int) / 2)) a2 t419 _ A24.out).mono ?_);rintro e w' ⟨rfl,⟨nd,rfl⟩⟩;refine ⟨_,rfl,?_⟩)|(go_at_call 15;(with_reducible refine (madrigalref10_GoodBlock.calls (wrap64 ((l0.length : Int) / 2)) a2 t420 _ A26.out).mono ?_);rintro e w' ⟨rfl,⟨nd,rfl⟩⟩))
           go_meet
           case rel => exact ⟨_,(true),(by first|rfl|(simp;done)|(simp [*];done)),H',⟨by have:=HJ5.out;have:=HJ9.out;first|omega|exact Nat.le_refl _⟩,⟨by (with_reducible repeat (first|apply ra_|apply rb_|apply rc_));exact Kd.R_mono HO413.out (fun _ hk => trivial)⟩,⟨by repeat (first|(with_reducible first|exact HB.out|apply ba_|apply bb_|apply bc_)|exact HB.out)⟩⟩
          ·rw [if_neg c27] at H
           have c27b0 : ((t415 == 0) != t420) = false:=by simpa using c27
           (try (have c27b1 : decide ((t415 == 0) = t420) = true:=by simpa using c27))
           (try (have c27b2 : ((t415 == 0) == t420) = true:=by simpa using c27))
           clear c27
           by_cases c28 : t415 = 0
           ·rw [if_pos c28] at H
            have c28b0 : (t415 == 0) = true:=beq_iff_eq.mpr c28
            (try (have c28t : t420 = true:=by rw [c28b0] at c27b2;revert c27b2;cases t420 <;> simp))
            have c28b1 : (t415 != 0) = false:=bne_eq_false_iff_eq.mpr c28
            clear c28
            replace H:=Option.bind_eq_some_iff.mp H
            obtain ⟨t421,A290,H⟩:=H
            (try dsimp only at H)
            have A29:=ak_ A290
            clear A290
            replace H:=Option.bind_eq_some_iff.mp H
            obtain ⟨t424,A300,H⟩:=H
            (try dsimp only at H)
            have A30:=ak_ A300
            clear A300
            have H':=ak_ H
            clear H
            go_wp2_with (first|((with_reducible refine gate_callee (f:=16) rfl ?_);refine goesL_ (some 52) rfl rfl Try.func16 (by kernel_rfl) rfl #[.int .i64 (wrap64 ((l0.length : Int) / 2)),.int .i64 a2] rfl (by (try simp only [List.map_toArray,List.map_cons,List.map_nil]);first|done|rfl|(simp only [List.length_drop,List.length_take];rfl)) ?_;(with_reducible refine (mdct_Good.calls (wrap64 ((l0.length : Int) / 2)) a2 t418 _ A23.out).mono ?_);rintro e w' ⟨rfl,⟨nd,rfl⟩⟩;refine ⟨_,rfl,?_⟩)|((with_reducible refine gate_callee (f:=15) rfl ?_);refine goesL_ (some 55) rfl rfl Try.func15 (by kernel_rfl) rfl #[.int .i64 (wrap64 ((l0.length : Int) / 2)),.int .i64 a2] rfl (by (try simp only [List.map_toArray,List.map_cons,List.map_nil]);first|done|rfl|(simp only [List.length_drop,List.length_take];rfl)) ?_;(with_reducible refine (madrigalref10_GoodBlock.calls (wrap64 ((l0.length : Int) / 2)) a2 t419 _ A24.out).mono ?_);rintro e w' ⟨rfl,⟨nd,rfl⟩⟩;refine ⟨_,rfl,?_⟩)|(go_at_call 15;(with_reducible refine (madrigalref10_GoodBlock.calls (wrap64 ((l0.length : Int) / 2)) a2 t420 _ A26.out).mono ?_);rintro e w' ⟨rfl,⟨nd,rfl⟩⟩)|(go_at_call 18;(with_reducible refine (madrigalref10_Shape.calls kj9 (wrap64 ((l0.length : Int) / 2)) a2 t421 _ A29.out).mono ?_);rintro e w31 ⟨v422,rfl,ho0,hb⟩;have n0_:=ak_ (Kd.R_elder' (by (with_reducible repeat (first|apply ra_|apply rb_|apply rc_));exact HO409.out) (Kd.R_base ho0) hb);have n1_:=ak_ (Kd.R_elder' (by (with_reducible repeat (first|apply ra_|apply rb_|apply rc_));exact HO413.out) (Kd.R_base ho0) hb);have n2_:=ak_ (Kd.R_elder' (by (with_reducible repeat (first|apply ra_|apply rb_|apply rc_));exact HO417.out) (Kd.R_base ho0) hb);have n3_:=ak_ (Kd.R_lower (Kd.R_new' (Kd.R_new' (Kd.R_new' ho0 (Kd.R_lt (by (with_reducible repeat (first|apply ra_|apply rb_|apply rc_));exact HO409.out))) (Kd.R_lt (by (with_reducible repeat (first|apply ra_|apply rb_|apply rc_));exact HO413.out))) (Kd.R_lt (by (with_reducible repeat (first|apply ra_|apply rb_|apply rc_));exact HO417.out))) (below_size (by repeat (first|(with_reducible first|exact HB.out|apply ba_|apply bb_|apply bc_)|exact HB.out))));have n4_:=ak_ (below_step (by repeat (first|(with_reducible first|exact HB.out|apply ba_|apply bb_|apply bc_)|exact HB.out)) hb);clear HO409;clear HO413;clear HO417;clear HB;have HO409:=n0_;have HO413:=n1_;have HO417:=n2_;have HO423:=n3_;have HB:=n4_;clear n0_ n1_ n2_ n3_ n4_;(try clear hb);(try clear ho0);obtain ⟨Ao32,co32,eo32⟩:=Kd.R_slice HO417.out;subst eo32;obtain ⟨Ao33,co33,eo33⟩:=Kd.R_slice HO423.out;subst eo33)|(go_at_call 17;(with_reducible refine (madrigallaw15_same.calls kj9 _ _ t414 _ _ t421 t424 _ ?side1 ?side2 ?side3 ?side4 A30.out).mono ?_);(case side1 => repeat (first|exact (Kd.R_reads' HO417.out).2.2|(with_reducible refine Kd.C_alloc ?_ _)|(with_reducible refine Kd.C_drewN ?_ _)|(with_reducible refine Kd.C_drew ?_)));(case side2 => exact (Kd.R_reads' HO417.out).2.1);(case side3 => repeat (first|exact (Kd.R_reads' HO423.out).2.2|(with_reducible refine Kd.C_alloc ?_ _)|(with_reducible refine Kd.C_drewN ?_ _)|(with_reducible refine Kd.C_drew ?_)));(case side4 => exact (Kd.R_reads' HO423.out).2.1);rintro e w' ⟨rfl,⟨nd,rfl⟩⟩))
            go_meet
            case rel => exact ⟨_,(!t424),(by first|rfl|(simp;done)|(simp [*];done)),H',⟨by have:=HJ5.out;have:=HJ9.out;first|omega|exact Nat.le_refl _⟩,⟨by (with_reducible repeat (first|apply ra_|apply rb_|apply rc_));exact Kd.R_mono HO413.out (fun _ hk => trivial)⟩,⟨by repeat (first|(with_reducible first|exact HB.out|apply ba_|apply bb_|apply bc_)|exact HB.out)⟩⟩
           ·rw [if_neg c28] at H
            have c28b0 : (t415 == 0) = false:=beq_eq_false_iff_ne.mpr c28
            (try (have c28t : t420 = false:=by rw [c28b0] at c27b2;revert c27b2;cases t420 <;> simp))
            have c28b1 : (t415 != 0) = true:=bne_iff_ne.mpr c28
            have H':=ak_ H
            clear H
            go_wp2_with (first|((with_reducible refine gate_callee (f:=16) rfl ?_);refine goesL_ (some 52) rfl rfl Try.func16 (by kernel_rfl) rfl #[.int .i64 (wrap64 ((l0.length : Int) / 2)),.int .i64 a2] rfl (by (try simp only [List.map_toArray,List.map_cons,List.map_nil]);first|done|rfl|(simp only [List.length_drop,List.length_take];rfl)) ?_;(with_reducible refine (mdct_Good.calls (wrap64 ((l0.length : Int) / 2)) a2 t418 _ A23.out).mono ?_);rintro e w' ⟨rfl,⟨nd,rfl⟩⟩;refine ⟨_,rfl,?_⟩)|((with_reducible refine gate_callee (f:=15) rfl ?_);refine goesL_ (some 55) rfl rfl Try.func15 (by kernel_rfl) rfl #[.int .i64 (wrap64 ((l0.length : Int) / 2)),.int .i64 a2] rfl (by (try simp only [List.map_toArray,List.map_cons,List.map_nil]);first|done|rfl|(simp only [List.length_drop,List.length_take];rfl)) ?_;(with_reducible refine (madrigalref10_GoodBlock.calls (wrap64 ((l0.length : Int) / 2)) a2 t419 _ A24.out).mono ?_);rintro e w' ⟨rfl,⟨nd,rfl⟩⟩;refine ⟨_,rfl,?_⟩)|(go_at_call 15;(with_reducible refine (madrigalref10_GoodBlock.calls (wrap64 ((l0.length : Int) / 2)) a2 t420 _ A26.out).mono ?_);rintro e w' ⟨rfl,⟨nd,rfl⟩⟩))
            go_meet
            case rel => exact ⟨_,(false),(by first|rfl|(simp;done)|(simp [*];done)),H',⟨by have:=HJ5.out;have:=HJ9.out;first|omega|exact Nat.le_refl _⟩,⟨by (with_reducible repeat (first|apply ra_|apply rb_|apply rc_));exact Kd.R_mono HO413.out (fun _ hk => trivial)⟩,⟨by repeat (first|(with_reducible first|exact HB.out|apply ba_|apply bb_|apply bc_)|exact HB.out)⟩⟩
        case rest =>
         clear HC16
         try clear c1
         try clear c2
         try clear p2
         try clear c4
         try clear c5
         try clear p6
         try clear c8
         try clear c8b0
         try clear c8b1
         try clear c9
         try clear c10
         try clear c11
         try clear c11b0
         try clear c11b1
         try clear c13
         try clear c15
         try clear c16
         try clear c25
         try clear c25b0
         try clear c25b1
         try clear c25b2
         try clear c27
         try clear c27b0
         try clear c27b1
         try clear c27b2
         try clear c28
         try clear c28b0
         try clear c28b1
         try clear p2
         try clear p6
         obtain ⟨kq,x76_15,rfl,HA,HJ15,HO_9,HB⟩:=hcut
         (try simp only [i64_w,i32_w])
         cases kq with
         | zero => exact absurd HA.out (by simp [madrigallaw15_MdctSays.j2])
         | succ kj15 =>
          have H:=HA.out
          clear HA
          simp only [madrigallaw15_MdctSays.j2] at H
          by_cases c34 : x76_15 = true
          ·subst c34
           have H1 : (none) = some r:=by rw [if_pos rfl] at H;exact H
           clear H
           have H:=H1
           clear H1
           exact absurd H (by simp)
          ·replace c34:=Bool.eq_false_iff.mpr c34
           subst c34
           have H1 : (if x8_9 = true then (if t411 = 0 then ((madrigalref10_Forward.f kj15 l0 a2).bind fun t425 => ((madrigallaw15_same.f kj15 t410 t425).bind fun t428 => (if t428 = true then (madrigallaw15_MdctSays.j3 kj15 l1 a2) else (none)))) else (none)) else (if t411 = 1 then (if (t410.length : Int) = 0 then (madrigallaw15_MdctSays.j3 kj15 l1 a2) else (none)) else (none))) = some r:=by rw [if_neg (show ¬ (false = true) by decide)] at H;exact H
           clear H
           have H:=H1
           clear H1
           have HC35:=ak_ H
           clear H
           go_upto_if 78 with (fail)
           go_cut [] (fun wc => ∃ (kq : Nat),Aside0 (madrigallaw15_MdctSays.j3 kq l1 a2 = some r) ∧ Aside0 (kq ≤ kj15) ∧ Aside0 (Below w.heap.size w wc))
           case first =>
            have H:=HC35.out
            clear HC35
            by_cases c36 : x8_9 = true
            ·subst c36
             have H1 : (if t411 = 0 then ((madrigalref10_Forward.f kj15 l0 a2).bind fun t425 => ((madrigallaw15_same.f kj15 t410 t425).bind fun t428 => (if t428 = true then (madrigallaw15_MdctSays.j3 kj15 l1 a2) else (none)))) else (none)) = some r:=by rw [if_pos rfl] at H;exact H
             clear H
             have H:=H1
             clear H1
             by_cases c37 : t411 = 0
             ·rw [if_pos c37] at H
              have c37b0 : (t411 == 0) = true:=beq_iff_eq.mpr c37
              have c37b1 : (t411 != 0) = false:=bne_eq_false_iff_eq.mpr c37
              clear c37
              (first|rw [c37b0]|(simp only [i64_w,i32_w];rw [c37b0])|skip)
              replace H:=Option.bind_eq_some_iff.mp H
              obtain ⟨t425,A380,H⟩:=H
              (try dsimp only at H)
              have A38:=ak_ A380
              clear A380
              replace H:=Option.bind_eq_some_iff.mp H
              obtain ⟨t428,A390,H⟩:=H
              (try dsimp only at H)
              have A39:=ak_ A390
              clear A390
              by_cases c40 : t428 = true
              ·subst c40
               have H1 : (madrigallaw15_MdctSays.j3 kj15 l1 a2) = some r:=by rw [if_pos rfl] at H;exact H
               clear H
               have H:=H1
               clear H1
               have H':=ak_ H
               clear H
               go_wp2_with (first|(go_at_call 19;(with_reducible refine (madrigalref10_Forward.calls kj15 _ _ l0 a2 t425 _ ?side1 ?side2 A38.out).mono ?_);(case side1 => repeat (first|exact (Kd.C_below HR0.out HB.out)|(with_reducible refine Kd.C_alloc ?_ _)|(with_reducible refine Kd.C_drewN ?_ _)|(with_reducible refine Kd.C_drew ?_)));(case side2 => exact HC0.out);rintro e w41 ⟨v426,rfl,ho0,hb⟩;have n0_:=ak_ (Kd.R_elder' (by (with_reducible repeat (first|apply ra_|apply rb_|apply rc_));exact HO_9.out) (Kd.R_base ho0) hb);have n1_:=ak_ (Kd.R_lower (Kd.R_new' ho0 (Kd.R_lt (by (with_reducible repeat (first|apply ra_|apply rb_|apply rc_));exact HO_9.out))) (below_size (by repeat (first|(with_reducible first|exact HB.out|apply ba_|apply bb_|apply bc_)|exact HB.out))));have n2_:=ak_ (below_step (by repeat (first|(with_reducible first|exact HB.out|apply ba_|apply bb_|apply bc_)|exact HB.out)) hb);clear HO_9;clear HB;have HO_9:=n0_;have HO427:=n1_;have HB:=n2_;clear n0_ n1_ n2_;(try clear hb);(try clear ho0);obtain ⟨Ao42,co42,eo42⟩:=Kd.R_slice HO_9.out;subst eo42;obtain ⟨Ao43,co43,eo43⟩:=Kd.R_slice HO427.out;subst eo43)|(go_at_call 17;(with_reducible refine (madrigallaw15_same.calls kj15 _ _ t410 _ _ t425 true _ ?side1 ?side2 ?side3 ?side4 A39.out).mono ?_);(case side1 => repeat (first|exact (Kd.R_reads' HO_9.out).2.2|(with_reducible refine Kd.C_alloc ?_ _)|(with_reducible refine Kd.C_drewN ?_ _)|(with_reducible refine Kd.C_drew ?_)));(case side2 => exact (Kd.R_reads' HO_9.out).2.1);(case side3 => repeat (first|exact (Kd.R_reads' HO427.out).2.2|(with_reducible refine Kd.C_alloc ?_ _)|(with_reducible refine Kd.C_drewN ?_ _)|(with_reducible refine Kd.C_drew ?_)));(case side4 => exact (Kd.R_reads' HO427.out).2.1);rintro e w' ⟨rfl,⟨nd,rfl⟩⟩))
               go_meet
               case rel => exact ⟨_,H',⟨by have:=HJ5.out;have:=HJ9.out;have:=HJ15.out;first|omega|exact Nat.le_refl _⟩,⟨by repeat (first|(with_reducible first|exact HB.out|apply ba_|apply bb_|apply bc_)|exact HB.out)⟩⟩
              ·replace c40:=Bool.eq_false_iff.mpr c40
               subst c40
               have H1 : (none) = some r:=by rw [if_neg (show ¬ (false = true) by decide)] at H;exact H
               clear H
               have H:=H1
               clear H1
               exact absurd H (by simp)
             ·rw [if_neg c37] at H
              exact absurd H (by simp)
            ·replace c36:=Bool.eq_false_iff.mpr c36
             subst c36
             have H1 : (if t411 = 1 then (if (t410.length : Int) = 0 then (madrigallaw15_MdctSays.j3 kj15 l1 a2) else (none)) else (none)) = some r:=by rw [if_neg (show ¬ (false = true) by decide)] at H;exact H
             clear H
             have H:=H1
             clear H1
             by_cases c44 : t411 = 1
             ·rw [if_pos c44] at H
              have c44b0 : (t411 == 1) = true:=beq_iff_eq.mpr c44
              have c44b1 : (t411 != 1) = false:=bne_eq_false_iff_eq.mpr c44
              clear c44
              by_cases c45 : (t410.length : Int) = 0
              ·rw [if_pos c45] at H
               have c45b0 : ((t410.length : Int) == 0) = true:=beq_iff_eq.mpr c45
               have c45b1 : ((t410.length : Int) != 0) = false:=bne_eq_false_iff_eq.mpr c45
               clear c45
               have H':=ak_ H
               clear H
               obtain ⟨Ao46,co46,eo46⟩:=Kd.R_slice HO_9.out
               subst eo46
               go_wp2
               go_meet
               case rel => exact ⟨_,H',⟨by have:=HJ5.out;have:=HJ9.out;have:=HJ15.out;first|omega|exact Nat.le_refl _⟩,⟨by repeat (first|(with_reducible first|exact HB.out|apply ba_|apply bb_|apply bc_)|exact HB.out)⟩⟩
              ·rw [if_neg c45] at H
               exact absurd H (by simp)
             ·rw [if_neg c44] at H
              exact absurd H (by simp)
           case rest =>
            clear HC35
            try clear c1
            try clear c2
            try clear p2
            try clear c3
            try clear c4
            try clear c5
            try clear p6
            try clear c8
            try clear c8b0
            try clear c8b1
            try clear c9
            try clear c10
            try clear c11
            try clear c11b0
            try clear c11b1
            try clear c13
            try clear c15
            try clear c16
            try clear c25
            try clear c25b0
            try clear c25b1
            try clear c25b2
            try clear c27
            try clear c27b0
            try clear c27b1
            try clear c27b2
            try clear c28
            try clear c28b0
            try clear c28b1
            try clear c34
            try clear c36
            try clear c37
            try clear c37b0
            try clear c37b1
            try clear c40
            try clear c44
            try clear c44b0
            try clear c44b1
            try clear c45
            try clear c45b0
            try clear c45b1
            try clear p2
            try clear p6
            obtain ⟨kq,HA,HJ34,HB⟩:=hcut
            (try simp only [i64_w,i32_w])
            cases kq with
            | zero => exact absurd HA.out (by simp [madrigallaw15_MdctSays.j3])
            | succ kj34 =>
             have H:=HA.out
             clear HA
             simp only [madrigallaw15_MdctSays.j3] at H
             obtain ⟨y429,hy429⟩ : ∃ y_ : List Int,y_ = (([] : List Int)):=⟨_,rfl⟩
             replace H : (if y429.length + l1.length < 17592186044416 then ((mdct_Inverse.f kj34 (y429 ++ l1) a2).bind fun bt435 => ((madrigalref10_GoodBlock.f (l1.length : Int) a2).bind fun t439 => (if t439 = true then (if bt435.2 = 0 then ((madrigalref10_Inverse.f kj34 l1 a2).bind fun t440 => ((madrigallaw15_same.f kj34 bt435.1 t440).bind fun t443 => (some t443))) else (none)) else (if bt435.2 = 1 then (some ((bt435.1.length : Int) == 0)) else (none))))) else (none)) = some r:=by first|(rw [hy429];with_reducible exact H)|(have H2_:=(Option.bind_some _ _).symm.trans H;rw [hy429];with_reducible exact H2_)|(have H2_:=(Option.bind_some _ _).symm.trans H;with_reducible exact H2_)|with_reducible exact H|(rw [hy429];exact H)|exact H
             have Ny429:=ak_ hy429
             clear hy429
             by_cases c47 : y429.length + l1.length < 17592186044416
             ·rw [if_pos c47] at H
              have LMc47:=ak_ c47
              clear c47
              obtain ⟨y432,hy432⟩ : ∃ y_ : List Int,y_ = (y429 ++ l1):=⟨_,rfl⟩
              replace H : ((mdct_Inverse.f kj34 y432 a2).bind fun bt435 => ((madrigalref10_GoodBlock.f (l1.length : Int) a2).bind fun t439 => (if t439 = true then (if bt435.2 = 0 then ((madrigalref10_Inverse.f kj34 l1 a2).bind fun t440 => ((madrigallaw15_same.f kj34 bt435.1 t440).bind fun t443 => (some t443))) else (none)) else (if bt435.2 = 1 then (some ((bt435.1.length : Int) == 0)) else (none))))) = some r:=by first|(rw [hy432];with_reducible exact H)|(have H2_:=(Option.bind_some _ _).symm.trans H;rw [hy432];with_reducible exact H2_)|(have H2_:=(Option.bind_some _ _).symm.trans H;with_reducible exact H2_)|with_reducible exact H|(rw [hy432];exact H)|exact H
              have Ny432:=ak_ hy432
              clear hy432
              replace H:=Option.bind_eq_some_iff.mp H
              obtain ⟨⟨t435,t436⟩,A480,H⟩:=H
              (try dsimp only at H)
              have A48:=ak_ A480
              clear A480
              replace H:=Option.bind_eq_some_iff.mp H
              obtain ⟨t439,A490,H⟩:=H
              (try dsimp only at H)
              have A49:=ak_ A490
              clear A490
              by_cases c50 : t439 = true
              ·subst c50
               have H1 : (if t436 = 0 then ((madrigalref10_Inverse.f kj34 l1 a2).bind fun t440 => ((madrigallaw15_same.f kj34 t435 t440).bind fun t443 => (some t443))) else (none)) = some r:=by rw [if_pos rfl] at H;exact H
               clear H
               have H:=H1
               clear H1
               by_cases c51 : t436 = 0
               ·rw [if_pos c51] at H
                have c51b0 : (t436 == 0) = true:=beq_iff_eq.mpr c51
                have c51b1 : (t436 != 0) = false:=bne_eq_false_iff_eq.mpr c51
                clear c51
                replace H:=Option.bind_eq_some_iff.mp H
                obtain ⟨t440,A520,H⟩:=H
                (try dsimp only at H)
                have A52:=ak_ A520
                clear A520
                replace H:=Option.bind_eq_some_iff.mp H
                obtain ⟨t443,A530,H⟩:=H
                (try dsimp only at H)
                have A53:=ak_ A530
                clear A530
                obtain rfl:=Option.some.inj H
                go_wp2_with (first|((with_reducible refine gate_dst (N:=97) rfl ?_);(try (refine gate_guard (by rfl) ?_;dsimp only));refine Kd.R_lit (Kd.int .i64) _ 2 ?hg (N:=97) ?hd (xs:=([] : List Int)) (inner:=[]) (ok:=fun _ => True) (okp:=fun _ => True) ?hr ?hp (fun _ hk => hk) trivial (Below.refl _ _) (Nat.le_refl _) (by simp) ?_;(case hd => rfl);(case hg => rfl);(case hr => first|(go_simp;done)|(go_simp;rfl));(case hp => exact (Reps.none _ _));intro v430 w54 ho55 hb hg_ hnew_;clear hg_ hnew_;(first|rw [← Ny429.out] at ho55|(simp only [Int.reduceToNat] at ho55;rw [← Ny429.out] at ho55));have n0_:=ak_ (Kd.R_lower ho55 (below_size (by repeat (first|(with_reducible first|exact HB.out|apply ba_|apply bb_|apply bc_)|exact HB.out))));have n1_:=ak_ (below_step (by repeat (first|(with_reducible first|exact HB.out|apply ba_|apply bb_|apply bc_)|exact HB.out)) hb);clear HB;have HO431:=n0_;have HB:=n1_;clear n0_ n1_;clear hb ho55)|((with_reducible refine gate_builtin (b:=.append) (xs:=#[.tmp 97,.tmp 98]) rfl ?_);(try (refine gate_guard (by rfl) ?_;dsimp only));at_builtin;refine Kd.R_append_rows (Kd.int .i64) (w0:=w) w.heap.size rfl (.tmp 97) (.tmp 98) 23 2 (.int .i64 0) 8 rfl Try.underlying23 info2 rfl (by decide) (by omega) v430 y429 l1 _ _ _ (fun _ => True) (fun _ => False) rfl rfl ?aO ?aR (fun _ _ h => h) (fun _ h => h.elim) ?aF ?aB ?aS ?aL ?_;(case aR => repeat (first|exact (Kd.C_below HR1.out HB.out)|(with_reducible refine Kd.C_alloc ?_ _)|(with_reducible refine Kd.C_drewN ?_ _)|(with_reducible refine Kd.C_drew ?_)));(case aB => exact (by repeat (first|(with_reducible first|exact HB.out|apply ba_|apply bb_|apply bc_)|exact HB.out)));(case aF => exact (fun _ _ => trivial));(case aO => exact (by (with_reducible repeat (first|apply ra_|apply rb_|apply rc_));exact HO431.out));(case aS => exact (below_size (by repeat (first|(with_reducible first|exact HB.out|apply ba_|apply bb_|apply bc_)|exact HB.out))));(case aL => have:=LMc47.out;omega);intro v433 w56 ho hb hg hat;rw [← Ny432.out] at ho;have n0_:=ak_ (hb);have n1_:=ak_ (ho);clear HB;clear HO431;have HB:=n0_;have HO434:=n1_;clear n0_ n1_;clear ho hb hg hat;obtain ⟨Ao57,co57,eo57⟩:=Kd.R_slice HO434.out;subst eo57)|((with_reducible refine gate_callee (f:=12) rfl ?_);refine goesL_ (some 101) rfl rfl Try.func12 (by kernel_rfl) rfl #[.slice Ao57 y432.length co57,.int .i64 a2] rfl (by (try simp only [List.map_toArray,List.map_cons,List.map_nil]);first|done|rfl|(simp only [List.length_drop,List.length_take];rfl)) ?_;(with_reducible refine (mdct_Inverse.calls kj34 _ _ y432 a2 t435 t436 _ ?side1 ?side2 A48.out).mono ?_);(case side1 => repeat (first|exact (Kd.R_reads' HO434.out).2.2|(with_reducible refine Kd.C_alloc ?_ _)|(with_reducible refine Kd.C_drewN ?_ _)|(with_reducible refine Kd.C_drew ?_)));(case side2 => exact (Kd.R_reads' HO434.out).2.1);rintro e w58 ⟨v437,rfl,ho0,hb⟩;refine ⟨_,rfl,?_⟩;have n0_:=ak_ (Kd.R_elder' (by (with_reducible repeat (first|apply ra_|apply rb_|apply rc_));exact HO434.out) (Kd.R_base ho0) hb);have n1_:=ak_ (Kd.R_lower (Kd.R_new' ho0 (Kd.R_lt (by (with_reducible repeat (first|apply ra_|apply rb_|apply rc_));exact HO434.out))) (below_size (by repeat (first|(with_reducible first|exact HB.out|apply ba_|apply bb_|apply bc_)|exact HB.out))));have n2_:=ak_ (below_step (by repeat (first|(with_reducible first|exact HB.out|apply ba_|apply bb_|apply bc_)|exact HB.out)) hb);clear HO434;clear HB;have HO434:=n0_;have HO438:=n1_;have HB:=n2_;clear n0_ n1_ n2_;(try clear hb);(try clear ho0))|((with_reducible refine gate_callee (f:=15) rfl ?_);refine goesL_ (some 107) rfl rfl Try.func15 (by kernel_rfl) rfl #[.int .i64 (l1.length : Int),.int .i64 a2] rfl (by (try simp only [List.map_toArray,List.map_cons,List.map_nil]);first|done|rfl|(simp only [List.length_drop,List.length_take];rfl)) ?_;(with_reducible refine (madrigalref10_GoodBlock.calls (l1.length : Int) a2 true _ A49.out).mono ?_);rintro e w' ⟨rfl,⟨nd,rfl⟩⟩;refine ⟨_,rfl,?_⟩)|(go_at_call 20;(with_reducible refine (madrigalref10_Inverse.calls kj34 _ _ l1 a2 t440 _ ?side1 ?side2 A52.out).mono ?_);(case side1 => repeat (first|exact (Kd.C_below HR1.out (by repeat (first|(with_reducible first|exact HB.out|apply ba_|apply bb_|apply bc_)|exact HB.out)))|(with_reducible refine Kd.C_alloc ?_ _)|(with_reducible refine Kd.C_drewN ?_ _)|(with_reducible refine Kd.C_drew ?_)));(case side2 => exact HC1.out);rintro e w59 ⟨v441,rfl,ho0,hb⟩;have n0_:=ak_ (Kd.R_elder' (by (with_reducible repeat (first|apply ra_|apply rb_|apply rc_));exact HO434.out) (Kd.R_base ho0) hb);have n1_:=ak_ (Kd.R_elder' (by (with_reducible repeat (first|apply ra_|apply rb_|apply rc_));exact HO438.out) (Kd.R_base ho0) hb);have n2_:=ak_ (Kd.R_lower (Kd.R_new' (Kd.R_new' ho0 (Kd.R_lt (by (with_reducible repeat (first|apply ra_|apply rb_|apply rc_));exact HO434.out))) (Kd.R_lt (by (with_reducible repeat (first|apply ra_|apply rb_|apply rc_));exact HO438.out))) (below_size (by repeat (first|(with_reducible first|exact HB.out|apply ba_|apply bb_|apply bc_)|exact HB.out))));have n3_:=ak_ (below_step (by repeat (first|(with_reducible first|exact HB.out|apply ba_|apply bb_|apply bc_)|exact HB.out)) hb);clear HO434;clear HO438;clear HB;have HO434:=n0_;have HO438:=n1_;have HO442:=n2_;have HB:=n3_;clear n0_ n1_ n2_ n3_;(try clear hb);(try clear ho0);obtain ⟨Ao60,co60,eo60⟩:=Kd.R_slice HO438.out;subst eo60;obtain ⟨Ao61,co61,eo61⟩:=Kd.R_slice HO442.out;subst eo61)|(go_at_call 17;(with_reducible refine (madrigallaw15_same.calls kj34 _ _ t435 _ _ t440 t443 _ ?side1 ?side2 ?side3 ?side4 A53.out).mono ?_);(case side1 => repeat (first|exact (Kd.R_reads' HO438.out).2.2|(with_reducible refine Kd.C_alloc ?_ _)|(with_reducible refine Kd.C_drewN ?_ _)|(with_reducible refine Kd.C_drew ?_)));(case side2 => exact (Kd.R_reads' HO438.out).2.1);(case side3 => repeat (first|exact (Kd.R_reads' HO442.out).2.2|(with_reducible refine Kd.C_alloc ?_ _)|(with_reducible refine Kd.C_drewN ?_ _)|(with_reducible refine Kd.C_drew ?_)));(case side4 => exact (Kd.R_reads' HO442.out).2.1);rintro e w' ⟨rfl,⟨nd,rfl⟩⟩))
                go_ret
                exact ⟨by first|rfl|(simp [errW_none,errW_some] <;> rfl)|(simp [*,errW_none,errW_some] <;> rfl),by repeat (first|(with_reducible first|exact HB.out|apply ba_|apply bb_|apply bc_)|exact HB.out)⟩
               ·rw [if_neg c51] at H
                exact absurd H (by simp)
              ·replace c50:=Bool.eq_false_iff.mpr c50
               subst c50
               have H1 : (if t436 = 1 then (some ((t435.length : Int) == 0)) else (none)) = some r:=by rw [if_neg (show ¬ (false = true) by decide)] at H;exact H
               clear H
               have H:=H1
               clear H1
               by_cases c62 : t436 = 1
               ·rw [if_pos c62] at H
                have c62b0 : (t436 == 1) = true:=beq_iff_eq.mpr c62
                have c62b1 : (t436 != 1) = false:=bne_eq_false_iff_eq.mpr c62
                clear c62
                obtain rfl:=Option.some.inj H
                go_wp2_with (first|((with_reducible refine gate_dst (N:=97) rfl ?_);(try (refine gate_guard (by rfl) ?_;dsimp only));refine Kd.R_lit (Kd.int .i64) _ 2 ?hg (N:=97) ?hd (xs:=([] : List Int)) (inner:=[]) (ok:=fun _ => True) (okp:=fun _ => True) ?hr ?hp (fun _ hk => hk) trivial (Below.refl _ _) (Nat.le_refl _) (by simp) ?_;(case hd => rfl);(case hg => rfl);(case hr => first|(go_simp;done)|(go_simp;rfl));(case hp => exact (Reps.none _ _));intro v430 w63 ho64 hb hg_ hnew_;clear hg_ hnew_;(first|rw [← Ny429.out] at ho64|(simp only [Int.reduceToNat] at ho64;rw [← Ny429.out] at ho64));have n0_:=ak_ (Kd.R_lower ho64 (below_size (by repeat (first|(with_reducible first|exact HB.out|apply ba_|apply bb_|apply bc_)|exact HB.out))));have n1_:=ak_ (below_step (by repeat (first|(with_reducible first|exact HB.out|apply ba_|apply bb_|apply bc_)|exact HB.out)) hb);clear HB;have HO431:=n0_;have HB:=n1_;clear n0_ n1_;clear hb ho64)|((with_reducible refine gate_builtin (b:=.append) (xs:=#[.tmp 97,.tmp 98]) rfl ?_);(try (refine gate_guard (by rfl) ?_;dsimp only));at_builtin;refine Kd.R_append_rows (Kd.int .i64) (w0:=w) w.heap.size rfl (.tmp 97) (.tmp 98) 23 2 (.int .i64 0) 8 rfl Try.underlying23 info2 rfl (by decide) (by omega) v430 y429 l1 _ _ _ (fun _ => True) (fun _ => False) rfl rfl ?aO ?aR (fun _ _ h => h) (fun _ h => h.elim) ?aF ?aB ?aS ?aL ?_;(case aR => repeat (first|exact (Kd.C_below HR1.out HB.out)|(with_reducible refine Kd.C_alloc ?_ _)|(with_reducible refine Kd.C_drewN ?_ _)|(with_reducible refine Kd.C_drew ?_)));(case aB => exact (by repeat (first|(with_reducible first|exact HB.out|apply ba_|apply bb_|apply bc_)|exact HB.out)));(case aF => exact (fun _ _ => trivial));(case aO => exact (by (with_reducible repeat (first|apply ra_|apply rb_|apply rc_));exact HO431.out));(case aS => exact (below_size (by repeat (first|(with_reducible first|exact HB.out|apply ba_|apply bb_|apply bc_)|exact HB.out))));(case aL => have:=LMc47.out;omega);intro v433 w65 ho hb hg hat;rw [← Ny432.out] at ho;have n0_:=ak_ (hb);have n1_:=ak_ (ho);clear HB;clear HO431;have HB:=n0_;have HO434:=n1_;clear n0_ n1_;clear ho hb hg hat;obtain ⟨Ao66,co66,eo66⟩:=Kd.R_slice HO434.out;subst eo66)|((with_reducible refine gate_callee (f:=12) rfl ?_);refine goesL_ (some 101) rfl rfl Try.func12 (by kernel_rfl) rfl #[.slice Ao66 y432.length co66,.int .i64 a2] rfl (by (try simp only [List.map_toArray,List.map_cons,List.map_nil]);first|done|rfl|(simp only [List.length_drop,List.length_take];rfl)) ?_;(with_reducible refine (mdct_Inverse.calls kj34 _ _ y432 a2 t435 t436 _ ?side1 ?side2 A48.out).mono ?_);(case side1 => repeat (first|exact (Kd.R_reads' HO434.out).2.2|(with_reducible refine Kd.C_alloc ?_ _)|(with_reducible refine Kd.C_drewN ?_ _)|(with_reducible refine Kd.C_drew ?_)));(case side2 => exact (Kd.R_reads' HO434.out).2.1);rintro e w67 ⟨v437,rfl,ho0,hb⟩;refine ⟨_,rfl,?_⟩;have n0_:=ak_ (Kd.R_elder' (by (with_reducible repeat (first|apply ra_|apply rb_|apply rc_));exact HO434.out) (Kd.R_base ho0) hb);have n1_:=ak_ (Kd.R_lower (Kd.R_new' ho0 (Kd.R_lt (by (with_reducible repeat (first|apply ra_|apply rb_|apply rc_));exact HO434.out))) (below_size (by repeat (first|(with_reducible first|exact HB.out|apply ba_|apply bb_|apply bc_)|exact HB.out))));have n2_:=ak_ (below_step (by repeat (first|(with_reducible first|exact HB.out|apply ba_|apply bb_|apply bc_)|exact HB.out)) hb);clear HO434;clear HB;have HO434:=n0_;have HO438:=n1_;have HB:=n2_;clear n0_ n1_ n2_;(try clear hb);(try clear ho0))|((with_reducible refine gate_callee (f:=15) rfl ?_);refine goesL_ (some 107) rfl rfl Try.func15 (by kernel_rfl) rfl #[.int .i64 (l1.length : Int),.int .i64 a2] rfl (by (try simp only [List.map_toArray,List.map_cons,List.map_nil]);first|done|rfl|(simp only [List.length_drop,List.length_take];rfl)) ?_;(with_reducible refine (madrigalref10_GoodBlock.calls (l1.length : Int) a2 false _ A49.out).mono ?_);rintro e w' ⟨rfl,⟨nd,rfl⟩⟩;refine ⟨_,rfl,?_⟩;obtain ⟨Ao68,co68,eo68⟩:=Kd.R_slice HO438.out;subst eo68))
                go_ret
                exact ⟨by first|rfl|(simp [errW_none,errW_some] <;> rfl)|(simp [*,errW_none,errW_some] <;> rfl),by repeat (first|(with_reducible first|exact HB.out|apply ba_|apply bb_|apply bc_)|exact HB.out)⟩
               ·rw [if_neg c62] at H
                exact absurd H (by simp)
             ·rw [if_neg c47] at H
              exact absurd H (by simp)
       ·rw [if_neg c13] at H
        exact absurd H (by simp)
 ·replace c5:=Bool.eq_false_iff.mpr c5
  subst c5
  have H1 : (none) = some r:=by rw [if_neg (show ¬ (false = true) by decide)] at H;exact H
  clear H
  have H:=H1
  clear H1
  exact absurd H (by simp)

/-- THE ONE PURE STATEMENT of madrigallaw15_MdctSays. -/
def madrigallaw15_MdctSays.Pure : Prop:=∀ (l0 : List Int) (l1 : List Int) (a2 : Int),l0.length ≤ maxLen → l0.length * 8 ≤ 140737488351232 → (∀ x ∈ l0,(Lit.int .i64 x).wf = true) → l1.length ≤ maxLen → l1.length * 8 ≤ 140737488351232 → (∀ x ∈ l1,(Lit.int .i64 x).wf = true) → (Lit.int .i64 a2).wf = true → ∃ k,madrigallaw15_MdctSays.f k l0 l1 a2 = some true
theorem madrigallaw15_MdctSays.walk (P : madrigallaw15_MdctSays.Pure) (a0 : Option Addr) (len0 cap0 : Nat) (z0 : List Int) (a1 : Option Addr) (len1 cap1 : Nat) (z1 : List Int) (a2 : Int) (w : World) (w0 : (a0 = none ∧ len0 = 0 ∧ cap0 = 0 ∧ z0 = []) ∨ ∃ x,a0 = some x ∧ len0 ≤ cap0 ∧ cap0 ≤ maxLen ∧ z0.length = cap0 ∧ (∀ i,i < z0.length → w.cell? (x.add i) = some (.int .i64 (z0.getD i 0))) ∧ ∀ n ∈ z0,(Lit.int .i64 n).wf = true) (y0 : len0 * 8 ≤ 140737488351232) (w1 : (a1 = none ∧ len1 = 0 ∧ cap1 = 0 ∧ z1 = []) ∨ ∃ x,a1 = some x ∧ len1 ≤ cap1 ∧ cap1 ≤ maxLen ∧ z1.length = cap1 ∧ (∀ i,i < z1.length → w.cell? (x.add i) = some (.int .i64 (z1.getD i 0))) ∧ ∀ n ∈ z1,(Lit.int .i64 n).wf = true) (y1 : len1 * 8 ≤ 140737488351232) (w2 : (Lit.int .i64 a2).wf = true) :
  Calls Try.prog 4 #[.slice a0 len0 cap0,.slice a1 len1 cap1,.int .i64 a2] w fun e w' => e = .returned (.bool true) ∧ Below w.heap.size w w':=by
 obtain ⟨l0,rfl,hr0,hm0,hw0,hc0⟩:=ReadsInt.ofRowC w0
 obtain ⟨l1,rfl,hr1,hm1,hw1,hc1⟩:=ReadsInt.ofRowC w1
 obtain ⟨k,h⟩:=P l0 l1 a2 hm0 y0 hw0 hm1 y1 hw1 w2
 refine (madrigallaw15_MdctSays.calls k _ _ l0 _ _ l1 a2 true w (Kd.C_of_reads (d:=(0 : Int)) (h1:=fun _ => rfl) hr0) hc0 (Kd.C_of_reads (d:=(0 : Int)) (h1:=fun _ => rfl) hr1) hc1 h).mono ?_
 rintro e w' ⟨rfl,hd⟩
 exact ⟨rfl,hd⟩

end Go.Proofs.Ytlmacbiahofmcaa.P
