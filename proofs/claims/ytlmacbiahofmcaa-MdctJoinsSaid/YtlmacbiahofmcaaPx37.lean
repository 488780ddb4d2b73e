/- The machine side of the laws of one chapter, without conditions: each call of a Go function comes to what the Lean function of its name answers. Written for this claim by a program of the prover. -/
import Derived.Test.YtlmacbiahofmcaaPx0
import Derived.Test.YtlmacbiahofmcaaPx1
import Derived.Test.YtlmacbiahofmcaaPx13
import Derived.Test.YtlmacbiahofmcaaPx14
import Derived.Test.YtlmacbiahofmcaaPx15
import Derived.Test.YtlmacbiahofmcaaPx16
import Derived.Test.YtlmacbiahofmcaaPx18
import Derived.Test.YtlmacbiahofmcaaPx19
import Derived.Test.YtlmacbiahofmcaaPx20
import Derived.Test.YtlmacbiahofmcaaPx22
import Derived.Test.YtlmacbiahofmcaaPx35
import Derived.Test.YtlmacbiahofmcaaPx36
namespace Go.Proofs.Ytlmacbiahofmcaa.P
open Go.RowKit Go.Proofs.YtlmacbiahofmcaaW.PrintWords Go.Proofs.YtlmacbiahofmcaaW.PrintLast Go.Proofs.YtlmacbiahofmcaaW.PrintMore
attribute [local go_sem] max2_int min2_int max_two min_two max_three min_three max_four min_four   -- for this text's walks alone
set_option linter.unusedVariables false
set_option linter.unusedSimpArgs false

/-! ### madrigallaw15_MdctJoins: function 5 -/
mutual
def madrigallaw15_MdctJoins.j0 : Nat → Int → Int → List (List Int) → Bool → Option (Bool)
 | 0,_,_,_,_ => none
 | k + 1,x0,x1,x2,x24 => if x24 = true then (some true) else (if mdct_Good.f x0 x1 = some true then ((mdct_New1.f x0 x1).bind fun bt464 => ((madrigalref10_GoodBlock.f x0 x1).bind fun t469 => (if t469 = true then ((madrigalref10_NewJoiner.f x0 x1).bind fun bt470 => (madrigallaw15_MdctJoins.l0 k x0 x1 x2 0 bt464.1 bt464.2.1 bt464.2.2.1 bt470.1 bt470.2)) else (none)))) else ((mdct_New0.f x0 x1).bind fun t506 => ((madrigalref10_GoodBlock.f x0 x1).bind fun t507 => (if t507 = true then (none) else (some true)))))
def madrigallaw15_MdctJoins.l0 : Nat → Int → Int → List (List Int) → Int → Int → Int → List Int → Int → List Int → Option (Bool)
 | 0,_,_,_,_,_,_,_,_,_ => none
 | k + 1,x0,x1,x2,x10,x468000,x468001,x468002,x473000,x473001 => if x10 < (x2.length : Int) then ((mdct_Joiner_Copy.f x468000 x468001 x468002).bind fun bt484 => (if 0 ≤ x10 then ((mdct_Joiner_Next.f k x468000 x468001 x468002 (rd_L1 x2 x10)).bind fun bt489 => (if ((rd_L1 x2 x10).length : Int) = x0 then (if bt489.2.1 = 0 then ((madrigalref10_Joiner_Next.f k x473000 x473001 (rd_L1 x2 x10)).bind fun bt499 => ((madrigallaw15_same.f k bt489.1 bt499.1).bind fun t504 => (if t504 = true then (madrigallaw15_MdctJoins.l0 k x0 x1 x2 (wrap64 (x10 + 1)) bt489.2.2.1 bt489.2.2.2.1 bt489.2.2.2.2 bt499.2.1 bt499.2.2) else (none)))) else (none)) else (if bt489.2.1 = 1 then (if (bt489.1.length : Int) = 0 then ((mdct_Joiner_Same.f k bt484.1 bt484.2.1 bt484.2.2 bt489.2.2.1 bt489.2.2.2.1 bt489.2.2.2.2).bind fun t497 => (if t497 = true then (madrigallaw15_MdctJoins.l0 k x0 x1 x2 (wrap64 (x10 + 1)) bt489.2.2.1 bt489.2.2.2.1 bt489.2.2.2.2 x473000 x473001) else (none))) else (none)) else (none)))) else (none))) else ((mdct_Joiner_Reset.f x468000 x468001 x468002).bind fun bt473 => (if mdct_Good.f x0 x1 = some true then ((mdct_New1.f x0 x1).bind fun bt476 => ((mdct_Joiner_Same.f k bt473.1 bt473.2.1 bt473.2.2 bt476.1 bt476.2.1 bt476.2.2.1).bind fun t481 => (some t481))) else ((mdct_New0.f x0 x1).bind fun t483 => (none))))
end
def madrigallaw15_MdctJoins.f (k : Nat) (a0 : Int) (a1 : Int) (l2 : List (List Int)) : Option (Bool):=(madrigallaw15_awake.f k).bind fun t463 => (if t463 = true then (if a0 > 160 then (madrigallaw15_MdctJoins.j0 k a0 a1 l2 true) else (madrigallaw15_MdctJoins.j0 k a0 a1 l2 (decide ((l2.length : Int) > 6)))) else (none))
theorem madrigallaw15_MdctJoins.mono_l : ∀ k,(∀ y0 y1 y2 y3,LeO (madrigallaw15_MdctJoins.j0 k y0 y1 y2 y3) (madrigallaw15_MdctJoins.j0 (k + 1) y0 y1 y2 y3)) ∧ (∀ y0 y1 y2 y3 y4 y5 y6 y7 y8,LeO (madrigallaw15_MdctJoins.l0 k y0 y1 y2 y3 y4 y5 y6 y7 y8) (madrigallaw15_MdctJoins.l0 (k + 1) y0 y1 y2 y3 y4 y5 y6 y7 y8))
 | 0 => ⟨fun _ _ _ _ r h => by simp [madrigallaw15_MdctJoins.j0] at h,fun _ _ _ _ _ _ _ _ _ r h => by simp [madrigallaw15_MdctJoins.l0] at h⟩
 | k + 1 => by
  obtain ⟨ih0,ih1⟩:=madrigallaw15_MdctJoins.mono_l k
  refine ⟨?_,?_⟩
  all_goals (intros;first|unfold madrigallaw15_MdctJoins.j0|unfold madrigallaw15_MdctJoins.l0)
  all_goals (repeat' first|(with_reducible first|exact ih0 _ _ _ _|exact ih1 _ _ _ _ _ _ _ _ _|exact madrigallaw15_awake.mono _|exact madrigallaw15_same.mono _ _ _|exact madrigalref10_Joiner_Next.mono _ _ _ _|exact mdct_Joiner_Next.mono _ _ _ _ _|exact mdct_Joiner_Same.mono _ _ _ _ _ _ _|exact LeO.refl _|exact LeO.none _|refine LeO.ite ?_ ?_|refine LeO.bind ?_ (fun _ => ?_))|exact ih0 _ _ _ _|exact ih1 _ _ _ _ _ _ _ _ _|exact madrigallaw15_awake.mono _|exact madrigallaw15_same.mono _ _ _|exact madrigalref10_Joiner_Next.mono _ _ _ _|exact mdct_Joiner_Next.mono _ _ _ _ _|exact mdct_Joiner_Same.mono _ _ _ _ _ _ _|exact LeO.none _|refine LeO.ite ?_ ?_|refine LeO.bind ?_ (fun _ => ?_))
theorem madrigallaw15_MdctJoins.mono : ∀ a0 a1 a2 k,LeO (madrigallaw15_MdctJoins.f k a0 a1 a2) (madrigallaw15_MdctJoins.f (k + 1) a0 a1 a2):=by
 intro a0 a1 a2 k
 obtain ⟨ih0,ih1⟩:=madrigallaw15_MdctJoins.mono_l k
 unfold madrigallaw15_MdctJoins.f
 repeat' first|(with_reducible first|exact ih0 _ _ _ _|exact ih1 _ _ _ _ _ _ _ _ _|exact madrigallaw15_awake.mono _|exact madrigallaw15_same.mono _ _ _|exact madrigalref10_Joiner_Next.mono _ _ _ _|exact mdct_Joiner_Next.mono _ _ _ _ _|exact mdct_Joiner_Same.mono _ _ _ _ _ _ _|exact LeO.refl _|exact LeO.none _|refine LeO.ite ?_ ?_|refine LeO.bind ?_ (fun _ => ?_))|exact ih0 _ _ _ _|exact ih1 _ _ _ _ _ _ _ _ _|exact madrigallaw15_awake.mono _|exact madrigallaw15_same.mono _ _ _|exact madrigalref10_Joiner_Next.mono _ _ _ _|exact mdct_Joiner_Next.mono _ _ _ _ _|exact mdct_Joiner_Same.mono _ _ _ _ _ _ _|exact LeO.none _|refine LeO.ite ?_ ?_|refine LeO.bind ?_ (fun _ => ?_)
set_option maxHeartbeats 8000000 in
set_option maxRecDepth 100000 in
theorem madrigallaw15_MdctJoins.calls (k : Nat) (a0 : Int) (a1 : Int) (A2 : Option Addr) (c2 : Nat) (l2 : List (List Int)) (r : Bool) (w : World) (hr2 : Kd.C (Kd.slice 2 (Kd.int .i64)) w A2 l2.length l2) (hc2 : l2.length ≤ c2) (h : madrigallaw15_MdctJoins.f k a0 a1 l2 = some r) :
  Calls Try.prog 5 #[.int .i64 a0,.int .i64 a1,.slice A2 l2.length c2] w fun e w' => e = .returned (.bool r) ∧ Below w.heap.size w w':=by
 have HR2:=ak_ hr2
 have HC2:=ak_ hc2
 clear hr2 hc2
 have HB:=ak_ (Below.refl w.heap.size w)
 have H : ((madrigallaw15_awake.f k).bind fun t463 => (if t463 = true then (if a0 > 160 then (madrigallaw15_MdctJoins.j0 k a0 a1 l2 true) else (madrigallaw15_MdctJoins.j0 k a0 a1 l2 (decide ((l2.length : Int) > 6)))) else (none))) = some r:=h
 clear h
 replace H:=Option.bind_eq_some_iff.mp H
 obtain ⟨t463,A40,H⟩:=H
 (try dsimp only at H)
 have A4:=ak_ A40
 clear A40
 by_cases c5 : t463 = true
 ·subst c5
  have H1 : (if a0 > 160 then (madrigallaw15_MdctJoins.j0 k a0 a1 l2 true) else (madrigallaw15_MdctJoins.j0 k a0 a1 l2 (decide ((l2.length : Int) > 6)))) = some r:=by rw [if_pos rfl] at H;exact H
  clear H
  have H:=H1
  clear H1
  have HC6:=ak_ H
  clear H
  go_enter Try.func5,Try.ntmps5
  go_upto_region 3 with (first|((with_reducible refine gate_callee (f:=9) rfl ?_);refine goesL_ (some 16) rfl rfl Try.func9 (by kernel_rfl) rfl #[] rfl (by (try simp only [List.map_toArray,List.map_cons,List.map_nil]);first|done|rfl|(simp only [List.length_drop,List.length_take];rfl)) ?_;(with_reducible refine (madrigallaw15_awake.calls k  true _ A4.out).mono ?_);rintro e w7 ⟨rfl,hb⟩;refine ⟨_,rfl,?_⟩;have n0_:=ak_ (below_step (by repeat (first|(with_reducible first|exact HB.out|apply ba_|apply bb_|apply bc_)|exact HB.out)) hb);clear HB;have HB:=n0_;clear n0_;(try clear hb)))
  (try simp only [Act.put,List.setIfInBounds_toArray,List.set_cons_zero,List.set_cons_succ])
  go_cut [24] (fun v24 wc => ∃ (kq : Nat) (x24_5 : Bool),v24 = .bool x24_5 ∧ Aside0 (madrigallaw15_MdctJoins.j0 kq a0 a1 l2 x24_5 = some r) ∧ Aside0 (kq ≤ k) ∧ Aside0 (Below w.heap.size w wc))
  case first =>
   have H:=HC6.out
   clear HC6
   by_cases c8 : a0 > 160
   ·rw [if_pos c8] at H
    have c8b0 : decide (160 < a0) = true:=decide_eq_true c8
    clear c8
    (first|rw [c8b0]|(simp only [i64_w,i32_w];rw [c8b0])|skip)
    have H':=ak_ H
    clear H
    go_wp2
    refine Met.intro ?_
    go_step
    (repeat apply Exists.intro)
    first|refine ⟨?rel60,rfl⟩|(refine ⟨?rel60,?st60⟩;case' st60 => (first|rw [c8b0]|simp only [c8b0]))
    case rel60 => exact ⟨_,(true),(by first|rfl|(simp;done)|(simp [*];done)),H',⟨by first|omega|exact Nat.le_refl _⟩,⟨by repeat (first|(with_reducible first|exact HB.out|apply ba_|apply bb_|apply bc_)|exact HB.out)⟩⟩
   ·rw [if_neg c8] at H
    have c8b0 : decide (160 < a0) = false:=decide_eq_false c8
    clear c8
    (first|rw [c8b0]|(simp only [i64_w,i32_w];rw [c8b0])|skip)
    have H':=ak_ H
    clear H
    go_wp2
    refine Met.intro ?_
    go_step
    (repeat apply Exists.intro)
    first|refine ⟨?rel69,rfl⟩|(refine ⟨?rel69,?st69⟩;case' st69 => (first|rw [c8b0]|simp only [c8b0]))
    case rel69 => exact ⟨_,(decide ((l2.length : Int) > 6)),(by first|rfl|(simp;done)|(simp [*];done)),H',⟨by first|omega|exact Nat.le_refl _⟩,⟨by repeat (first|(with_reducible first|exact HB.out|apply ba_|apply bb_|apply bc_)|exact HB.out)⟩⟩
  case rest =>
   clear HC6
   try clear c2
   try clear p2
   try clear c5
   try clear c8
   try clear c8b0
   obtain ⟨kq,x24_5,rfl,HA,HJ5,HB⟩:=hcut
   (try simp only [i64_w,i32_w])
   cases kq with
   | zero => exact absurd HA.out (by simp [madrigallaw15_MdctJoins.j0])
   | succ kj5 =>
    have H:=HA.out
    clear HA
    simp only [madrigallaw15_MdctJoins.j0] at H
    by_cases c9 : x24_5 = true
    ·subst c9
     have H1 : (some true) = some r:=by rw [if_pos rfl] at H;exact H
     clear H
     have H:=H1
     clear H1
     obtain rfl:=Option.some.inj H
     go_wp2
     go_ret
     exact ⟨by first|rfl|(simp [errW_none,errW_some] <;> rfl)|(simp [*,errW_none,errW_some] <;> rfl),by repeat (first|(with_reducible first|exact HB.out|apply ba_|apply bb_|apply bc_)|exact HB.out)⟩
    ·replace c9:=Bool.eq_false_iff.mpr c9
     subst c9
     have H1 : (if mdct_Good.f a0 a1 = some true then ((mdct_New1.f a0 a1).bind fun bt464 => ((madrigalref10_GoodBlock.f a0 a1).bind fun t469 => (if t469 = true then ((madrigalref10_NewJoiner.f a0 a1).bind fun bt470 => (madrigallaw15_MdctJoins.l0 kj5 a0 a1 l2 0 bt464.1 bt464.2.1 bt464.2.2.1 bt470.1 bt470.2)) else (none)))) else ((mdct_New0.f a0 a1).bind fun t506 => ((madrigalref10_GoodBlock.f a0 a1).bind fun t507 => (if t507 = true then (none) else (some true))))) = some r:=by rw [if_neg (show ¬ (false = true) by decide)] at H;exact H
     clear H
     have H:=H1
     clear H1
     by_cases c10 : mdct_Good.f a0 a1 = some true
     ·rw [if_pos c10] at H
      have c10b0 : (mdct_Good.f a0 a1 == some true) = true:=beq_iff_eq.mpr c10
      have c10b1 : (mdct_Good.f a0 a1 != some true) = false:=bne_eq_false_iff_eq.mpr c10
      clear c10
      replace H:=Option.bind_eq_some_iff.mp H
      obtain ⟨⟨t464,t465,t466,t468⟩,A110,H⟩:=H
      (try dsimp only at H)
      have A11:=ak_ A110
      clear A110
      replace H:=Option.bind_eq_some_iff.mp H
      obtain ⟨t469,A120,H⟩:=H
      (try dsimp only at H)
      have A12:=ak_ A120
      clear A120
      by_cases c13 : t469 = true
      ·subst c13
       have H1 : ((madrigalref10_NewJoiner.f a0 a1).bind fun bt470 => (madrigallaw15_MdctJoins.l0 kj5 a0 a1 l2 0 t464 t465 t466 bt470.1 bt470.2)) = some r:=by rw [if_pos rfl] at H;exact H
       clear H
       have H:=H1
       clear H1
       replace H:=Option.bind_eq_some_iff.mp H
       obtain ⟨⟨t470,t471⟩,A140,H⟩:=H
       (try dsimp only at H)
       have A14:=ak_ A140
       clear A140
       have H':=ak_ H
       clear H
       go_wp2_with (first|((with_reducible refine gate_callee (f:=13) rfl ?_);refine goesL_ (some 28) rfl rfl Try.func13 (by kernel_rfl) rfl #[.int .i64 a0,.int .i64 a1] rfl (by (try simp only [List.map_toArray,List.map_cons,List.map_nil]);first|done|rfl|(simp only [List.length_drop,List.length_take];rfl)) ?_;(with_reducible refine (mdct_New1.calls a0 a1 t464 t465 t466 t468 w _ ?side1 A11.out).mono ?_);(case side1 => repeat (first|(with_reducible first|exact HB.out|apply ba_|apply bb_|apply bc_)|exact HB.out));rintro e w15 ⟨g467,rfl,hi,hb,hb2,hge⟩;refine ⟨_,rfl,?_⟩;have n0_:=ak_ (hb);have n1_:=ak_ (hi);clear HB;have HB:=n0_;have HI467:=n1_;clear n0_ n1_;(try clear hb);(try clear hb2);(try clear hi);(try clear hge))|((with_reducible refine gate_callee (f:=15) rfl ?_);refine goesL_ (some 33) rfl rfl Try.func15 (by kernel_rfl) rfl #[.int .i64 a0,.int .i64 a1] rfl (by (try simp only [List.map_toArray,List.map_cons,List.map_nil]);first|done|rfl|(simp only [List.length_drop,List.length_take];rfl)) ?_;(with_reducible refine (madrigalref10_GoodBlock.calls a0 a1 true _ A12.out).mono ?_);rintro e w' ⟨rfl,⟨nd,rfl⟩⟩;refine ⟨_,rfl,?_⟩)|((with_reducible refine gate_callee (f:=21) rfl ?_);refine goesL_ (some 49) rfl rfl Try.func21 (by kernel_rfl) rfl #[.int .i64 a0,.int .i64 a1] rfl (by (try simp only [List.map_toArray,List.map_cons,List.map_nil]);first|done|rfl|(simp only [List.length_drop,List.length_take];rfl)) ?_;(with_reducible refine (madrigalref10_NewJoiner.calls a0 a1 t470 t471 w _ ?side1 A14.out).mono ?_);(case side1 => repeat (first|(with_reducible first|exact HB.out|apply ba_|apply bb_|apply bc_|refine below_set ?_ (IsS52.ge HI467.out))|exact HB.out));rintro e w16 ⟨g472,rfl,hi,hb,hb2,hge⟩;refine ⟨_,rfl,?_⟩;have n0_:=ak_ (IsS52.below (by repeat (first|(with_reducible first|exact HI467.out|apply IsS52.alloc|apply IsS52.drewN|apply IsS52.drew)|exact HI467.out)) hb2);have n1_:=ak_ (Nat.ne_of_gt (Nat.lt_of_lt_of_le (IsS52.lt (show IsS52 w _ g467 t464 t465 t466 from by repeat (first|(with_reducible first|exact HI467.out|apply IsS52.alloc|apply IsS52.drewN|apply IsS52.drew)|exact HI467.out))) hge));have n2_:=ak_ (hb);have n3_:=ak_ (hi);clear HI467;clear HB;have HI467:=n0_;have NS472_467:=n1_;have HB:=n2_;have HI472:=n3_;clear n0_ n1_ n2_ n3_;(try clear hb);(try clear hb2);(try clear hi);(try clear hge)))
       go_loopg [10] kj5 (fun kq v10 w' => ∃ (x10_2 : Int) (x468000_2 : Int) (x468001_2 : Int) (x468002_2 : List Int) (x473000_2 : Int) (x473001_2 : List Int),v10 = .int .i64 x10_2 ∧ Aside0 (madrigallaw15_MdctJoins.l0 kq a0 a1 l2 x10_2 x468000_2 x468001_2 x468002_2 x473000_2 x473001_2 = some r) ∧ Aside0 (kq ≤ kj5) ∧ Aside0 (IsS52 w w' g467 x468000_2 x468001_2 x468002_2) ∧ Aside0 (IsS55 w w' g472 x473000_2 x473001_2) ∧ Aside0 (Below w.heap.size w w'))
       case atStart => exact ⟨(0),(t464),(t465),(t466),(t470),(t471),(by first|rfl|(simp;done)|(simp [*];done)),H',⟨Nat.le_refl _⟩,⟨by repeat (first|(with_reducible first|exact HI467.out|apply IsS52.alloc|apply IsS52.drewN|apply IsS52.drew)|exact HI467.out)⟩,⟨by repeat (first|(with_reducible first|exact HI472.out|apply IsS55.alloc|apply IsS55.drewN|apply IsS55.drew)|exact HI472.out)⟩,⟨by repeat (first|(with_reducible first|exact HB.out|apply ba_|apply bb_|apply bc_|refine below_set ?_ (IsS52.ge HI467.out)|refine below_set ?_ (IsS55.ge HI472.out))|exact HB.out)⟩⟩
       case round =>
        clear H'
        try clear c1
        try clear c2
        try clear p2
        try clear c5
        try clear c8
        try clear c8b0
        try clear c9
        try clear c10
        try clear c10b0
        try clear c10b1
        try clear c13
        try clear c15
        try clear p2
        obtain ⟨x10_2,x468000_2,x468001_2,x468002_2,x473000_2,x473001_2,rfl,HA,HK2,HI467,HI472,HB⟩:=hrel
        (try simp only [i64_w,i32_w])
        cases gk with
        | zero => exact absurd HA.out (by simp [madrigallaw15_MdctJoins.l0])
        | succ k2 =>
         have H:=HA.out
         clear HA
         simp only [madrigallaw15_MdctJoins.l0] at H
         by_cases c17 : x10_2 < (l2.length : Int)
         ·rw [if_pos c17] at H
          have c17b0:=decide_eq_true c17
          clear c17
          replace H:=Option.bind_eq_some_iff.mp H
          obtain ⟨⟨t484,t485,t486⟩,A180,H⟩:=H
          (try dsimp only at H)
          have A18:=ak_ A180
          clear A180
          by_cases c19 : 0 ≤ x10_2
          ·rw [if_pos c19] at H
           have c19b0:=decide_eq_true c19
           clear c19
           replace H:=Option.bind_eq_some_iff.mp H
           obtain ⟨⟨t489,t492,t493,t494,t495⟩,A200,H⟩:=H
           (try dsimp only at H)
           have A20:=ak_ A200
           clear A200
           by_cases c21 : ((rd_L1 l2 x10_2).length : Int) = a0
           ·rw [if_pos c21] at H
            have c21b0 : (((rd_L1 l2 x10_2).length : Int) == a0) = true:=beq_iff_eq.mpr c21
            have c21b1 : (((rd_L1 l2 x10_2).length : Int) != a0) = false:=bne_eq_false_iff_eq.mpr c21
            clear c21
            by_cases c22 : t492 = 0
            ·rw [if_pos c22] at H
             have c22b0 : (t492 == 0) = true:=beq_iff_eq.mpr c22
             have c22b1 : (t492 != 0) = false:=bne_eq_false_iff_eq.mpr c22
             clear c22
             replace H:=Option.bind_eq_some_iff.mp H
             obtain ⟨⟨t499,t502,t503⟩,A230,H⟩:=H
             (try dsimp only at H)
             have A23:=ak_ A230
             clear A230
             replace H:=Option.bind_eq_some_iff.mp H
             obtain ⟨t504,A240,H⟩:=H
             (try dsimp only at H)
             have A24:=ak_ A240
             clear A240
             by_cases c25 : t504 = true
             ·subst c25
              have H1 : (madrigallaw15_MdctJoins.l0 k2 a0 a1 l2 (wrap64 (x10_2 + 1)) t493 t494 t495 t502 t503) = some r:=by rw [if_pos rfl] at H;exact H
              clear H
              have H:=H1
              clear H1
              have H':=ak_ H
              clear H
              go_wp2_with (first|((with_reducible refine gate_callee (f:=22) rfl ?_);refine goesL_ (some 57) rfl rfl Try.func22 (by kernel_rfl) rfl #[.pointer (some ⟨g467,0,none⟩)] rfl (by (try simp only [List.map_toArray,List.map_cons,List.map_nil]);first|done|rfl|(simp only [List.length_drop,List.length_take];rfl)) ?_;(with_reducible refine (mdct_Joiner_Copy.calls g467 x468000_2 x468001_2 x468002_2 t484 t485 t486 w _ ?side1 ?side2 A18.out).mono ?_);(case side1 => repeat (first|(with_reducible first|exact HI467.out|apply IsS52.alloc|apply IsS52.drewN|apply IsS52.drew)|exact HI467.out));(case side2 => repeat (first|(with_reducible first|exact HB.out|apply ba_|apply bb_|apply bc_|refine below_set ?_ (IsS52.ge HI467.out)|refine below_set ?_ (IsS55.ge HI472.out))|exact HB.out));rintro e w26 ⟨g487,rfl,hi,hb,hb2,hge⟩;refine ⟨_,rfl,?_⟩;have n0_:=ak_ (IsS52.below (by repeat (first|(with_reducible first|exact HI467.out|apply IsS52.alloc|apply IsS52.drewN|apply IsS52.drew)|exact HI467.out)) hb2);have n1_:=ak_ (IsS55.below (by repeat (first|(with_reducible first|exact HI472.out|apply IsS55.alloc|apply IsS55.drewN|apply IsS55.drew)|exact HI472.out)) hb2);have n2_:=ak_ (Nat.ne_of_gt (Nat.lt_of_lt_of_le (IsS52.lt (show IsS52 w _ g467 x468000_2 x468001_2 x468002_2 from by repeat (first|(with_reducible first|exact HI467.out|apply IsS52.alloc|apply IsS52.drewN|apply IsS52.drew)|exact HI467.out))) hge));have n3_:=ak_ (Nat.ne_of_gt (Nat.lt_of_lt_of_le (IsS55.lt (show IsS55 w _ g472 x473000_2 x473001_2 from by repeat (first|(with_reducible first|exact HI472.out|apply IsS55.alloc|apply IsS55.drewN|apply IsS55.drew)|exact HI472.out))) hge));have n4_:=ak_ (hb);have n5_:=ak_ (hi);clear HI467;clear HI472;clear HB;have HI467:=n0_;have HI472:=n1_;have NS487_467:=n2_;have NS487_472:=n3_;have HB:=n4_;have HI487:=n5_;clear n0_ n1_ n2_ n3_ n4_ n5_;(try clear hb);(try clear hb2);(try clear hi);(try clear hge);have p488 : 0 ≤ (x10_2 : Int):=of_decide_eq_true (by first|(with_reducible assumption)|assumption);have q488 : x10_2 < (l2.length : Int):=of_decide_eq_true (by first|(with_reducible assumption)|assumption);obtain ⟨ad488,A488_0,c488_0,e488,hx488_0,hl488_0,hi488_0⟩:=at_L1 HR2.out x10_2 p488 q488;cases e488;replace hx488_0:=(HB.out.cell (World.block_lt_of_cell? w _ hx488_0)).trans hx488_0;have HR488_0:=ak_ hi488_0;have HC488_0:=ak_ hl488_0;clear hi488_0 hl488_0;replace p488:=eq_true p488;replace q488:=eq_true q488)|((with_reducible refine gate_callee (f:=14) rfl ?_);refine goesL_ (some 64) rfl rfl Try.func14 (by kernel_rfl) rfl #[.pointer (some ⟨g467,0,none⟩),.slice A488_0 (rd_L1 l2 x10_2).length c488_0] rfl (by (try simp only [List.map_toArray,List.map_cons,List.map_nil]);first|done|rfl|(simp only [List.length_drop,List.length_take];rfl)) ?_;(with_reducible refine (mdct_Joiner_Next.calls k2 g467 x468000_2 x468001_2 x468002_2 _ _ (rd_L1 l2 x10_2) t489 t492 t493 t494 t495 w _ ?side1 ?side2 ?side3 ?side4 ?side5 A20.out).mono ?_);(case side1 => repeat (first|(with_reducible first|exact HI467.out|apply IsS52.alloc|apply IsS52.drewN|apply IsS52.drew)|exact HI467.out));(case side2 => repeat (first|(with_reducible first|exact HB.out|apply ba_|apply bb_|apply bc_|refine below_set ?_ (IsS52.ge HI467.out)|refine below_set ?_ (IsS55.ge HI472.out)|refine below_set ?_ (IsS52.ge HI487.out))|exact HB.out));(case side3 => repeat (first|exact (Kd.C_below HR488_0.out HB.out)|(with_reducible refine Kd.C_alloc ?_ _)|(with_reducible refine Kd.C_drewN ?_ _)|(with_reducible refine Kd.C_drew ?_)));(case side4 => exact HC488_0.out);(case side5 => exact Kd.far_C 0 HR488_0.out (IsS52.ge HI467.out));rintro e w27 ⟨v490,rfl,ho0,hi,hb,hk⟩;refine ⟨_,rfl,?_⟩;have n0_:=ak_ (IsS55.keepB (show IsS55 w _ g472 x473000_2 x473001_2 from by repeat (first|(with_reducible first|exact HI472.out|apply IsS55.alloc|apply IsS55.drewN|apply IsS55.drew)|exact HI472.out)) hk NS472_467.out (IsS52.typ (show IsS52 w _ g467 x468000_2 x468001_2 x468002_2 from by repeat (first|(with_reducible first|exact HI467.out|apply IsS52.alloc|apply IsS52.drewN|apply IsS52.drew)|exact HI467.out))));have n1_:=ak_ (IsS52.keepB (show IsS52 w _ g487 t484 t485 t486 from by repeat (first|(with_reducible first|exact HI487.out|apply IsS52.alloc|apply IsS52.drewN|apply IsS52.drew)|exact HI487.out)) hk NS487_467.out (IsS52.typ (show IsS52 w _ g467 x468000_2 x468001_2 x468002_2 from by repeat (first|(with_reducible first|exact HI467.out|apply IsS52.alloc|apply IsS52.drewN|apply IsS52.drew)|exact HI467.out))));have n2_:=ak_ (Kd.R_lower ho0 (below_size (by repeat (first|(with_reducible first|exact HB.out|apply ba_|apply bb_|apply bc_|refine below_set ?_ (IsS52.ge HI467.out)|refine below_set ?_ (IsS55.ge HI472.out)|refine below_set ?_ (IsS52.ge HI487.out))|exact HB.out))));have n3_:=ak_ (hb);have n4_:=ak_ (hi);clear HI472;clear HI487;clear HB;clear HI467;have HI472:=n0_;have HI487:=n1_;have HO491:=n2_;have HB:=n3_;have HI467:=n4_;clear n0_ n1_ n2_ n3_ n4_;(try clear hb);(try clear hk);(try clear hi);(try clear ho0);have p496 : 0 ≤ (x10_2 : Int):=of_decide_eq_true (by first|(with_reducible assumption)|assumption);have q496 : x10_2 < (l2.length : Int):=of_decide_eq_true (by first|(with_reducible assumption)|assumption);obtain ⟨ad496,A496_0,c496_0,e496,hx496_0,hl496_0,hi496_0⟩:=at_L1 HR2.out x10_2 p496 q496;obtain rfl : ad488 = ad496:=(by injection e496);replace hx496_0:=(HB.out.cell (World.block_lt_of_cell? w _ hx496_0)).trans hx496_0;have HR496_0:=ak_ hi496_0;have HC496_0:=ak_ hl496_0;clear hi496_0 hl496_0;replace p496:=eq_true p496;replace q496:=eq_true q496;have p498 : 0 ≤ (x10_2 : Int):=of_decide_eq_true (by first|(with_reducible assumption)|assumption);have q498 : x10_2 < (l2.length : Int):=of_decide_eq_true (by first|(with_reducible assumption)|assumption);obtain ⟨ad498,A498_0,c498_0,e498,hx498_0,hl498_0,hi498_0⟩:=at_L1 HR2.out x10_2 p498 q498;obtain rfl : ad488 = ad498:=(by injection e498);replace hx498_0:=(HB.out.cell (World.block_lt_of_cell? w _ hx498_0)).trans hx498_0;have HR498_0:=ak_ hi498_0;have HC498_0:=ak_ hl498_0;clear hi498_0 hl498_0;replace p498:=eq_true p498;replace q498:=eq_true q498;have ea_:=Option.some.inj (hx496_0.symm.trans hx498_0);injection ea_ with ea_ en_ ec_;subst ea_;subst ec_;clear en_)|(go_at_call 24;(with_reducible refine (madrigalref10_Joiner_Next.calls k2 g472 x473000_2 x473001_2 _ _ (rd_L1 l2 x10_2) t499 t502 t503 w _ ?side1 ?side2 ?side3 ?side4 ?side5 A23.out).mono ?_);(case side1 => repeat (first|(with_reducible first|exact HI472.out|apply IsS55.alloc|apply IsS55.drewN|apply IsS55.drew)|exact HI472.out));(case side2 => repeat (first|(with_reducible first|exact HB.out|apply ba_|apply bb_|apply bc_|refine below_set ?_ (IsS52.ge HI467.out)|refine below_set ?_ (IsS55.ge HI472.out)|refine below_set ?_ (IsS52.ge HI487.out))|exact HB.out));(case side3 => repeat (first|exact (Kd.C_below HR498_0.out HB.out)|(with_reducible refine Kd.C_alloc ?_ _)|(with_reducible refine Kd.C_drewN ?_ _)|(with_reducible refine Kd.C_drew ?_)));(case side4 => exact HC498_0.out);(case side5 => exact Kd.far_C 0 HR498_0.out (IsS55.ge HI472.out));rintro e w28 ⟨v500,rfl,ho0,hi,hb,hk⟩;have n0_:=ak_ (IsS52.keepB (show IsS52 w _ g467 t493 t494 t495 from by repeat (first|(with_reducible first|exact HI467.out|apply IsS52.alloc|apply IsS52.drewN|apply IsS52.drew)|exact HI467.out)) hk (Ne.symm NS472_467.out) (IsS55.typ (show IsS55 w _ g472 x473000_2 x473001_2 from by repeat (first|(with_reducible first|exact HI472.out|apply IsS55.alloc|apply IsS55.drewN|apply IsS55.drew)|exact HI472.out))));have n1_:=ak_ (IsS52.keepB (show IsS52 w _ g487 t484 t485 t486 from by repeat (first|(with_reducible first|exact HI487.out|apply IsS52.alloc|apply IsS52.drewN|apply IsS52.drew)|exact HI487.out)) hk NS487_472.out (IsS55.typ (show IsS55 w _ g472 x473000_2 x473001_2 from by repeat (first|(with_reducible first|exact HI472.out|apply IsS55.alloc|apply IsS55.drewN|apply IsS55.drew)|exact HI472.out))));have n2_:=ak_ (Kd.R_mono (Kd.R_told (Kd.R_oldK (IsS55.apart (show IsS55 w _ g472 x473000_2 x473001_2 from by repeat (first|(with_reducible first|exact HI472.out|apply IsS55.alloc|apply IsS55.drewN|apply IsS55.drew)|exact HI472.out)) (by (with_reducible repeat (first|apply ra_|apply rb_|apply rc_));exact HO491.out) (by decide)) hk) (Kd.R_base ho0)) (fun _ h_ => h_.1));have n3_:=ak_ (Kd.R_lower (Kd.R_new' ho0 (Kd.R_lt (by (with_reducible repeat (first|apply ra_|apply rb_|apply rc_));exact HO491.out))) (below_size (by repeat (first|(with_reducible first|exact HB.out|apply ba_|apply bb_|apply bc_|refine below_set ?_ (IsS52.ge HI467.out)|refine below_set ?_ (IsS55.ge HI472.out)|refine below_set ?_ (IsS52.ge HI487.out))|exact HB.out))));have n4_:=ak_ (hb);have n5_:=ak_ (hi);clear HI467;clear HI487;clear HO491;clear HB;clear HI472;have HI467:=n0_;have HI487:=n1_;have HO491:=n2_;have HO501:=n3_;have HB:=n4_;have HI472:=n5_;clear n0_ n1_ n2_ n3_ n4_ n5_;(try clear hb);(try clear hk);(try clear hi);(try clear ho0);obtain ⟨Ao29,co29,eo29⟩:=Kd.R_slice HO491.out;subst eo29;obtain ⟨Ao30,co30,eo30⟩:=Kd.R_slice HO501.out;subst eo30)|(go_at_call 17;(with_reducible refine (madrigallaw15_same.calls k2 _ _ t489 _ _ t499 true _ ?side1 ?side2 ?side3 ?side4 A24.out).mono ?_);(case side1 => repeat (first|exact (Kd.R_reads' HO491.out).2.2|(with_reducible refine Kd.C_alloc ?_ _)|(with_reducible refine Kd.C_drewN ?_ _)|(with_reducible refine Kd.C_drew ?_)));(case side2 => exact (Kd.R_reads' HO491.out).2.1);(case side3 => repeat (first|exact (Kd.R_reads' HO501.out).2.2|(with_reducible refine Kd.C_alloc ?_ _)|(with_reducible refine Kd.C_drewN ?_ _)|(with_reducible refine Kd.C_drew ?_)));(case side4 => exact (Kd.R_reads' HO501.out).2.1);rintro e w' ⟨rfl,⟨nd,rfl⟩⟩))
              go_roundg k2
              case measure => have:=HJ5.out;have:=HK2.out;omega
              case rel => exact ⟨(wrap64 (x10_2 + 1)),(t493),(t494),(t495),(t502),(t503),(by first|rfl|(simp;done)|(simp [*];done)),H',⟨by have:=HJ5.out;have:=HK2.out;omega⟩,⟨by repeat (first|(with_reducible first|exact HI467.out|apply IsS52.alloc|apply IsS52.drewN|apply IsS52.drew)|exact HI467.out)⟩,⟨by repeat (first|(with_reducible first|exact HI472.out|apply IsS55.alloc|apply IsS55.drewN|apply IsS55.drew)|exact HI472.out)⟩,⟨by repeat (first|(with_reducible first|exact HB.out|apply ba_|apply bb_|apply bc_|refine below_set ?_ (IsS52.ge HI467.out)|refine below_set ?_ (IsS55.ge HI472.out)|refine below_set ?_ (IsS52.ge HI487.out))|exact HB.out)⟩⟩
             ·replace c25:=Bool.eq_false_iff.mpr c25
              subst c25
              have H1 : (none) = some r:=by rw [if_neg (show ¬ (false = true) by decide)] at H;exact H
              clear H
              have H:=H1
              clear H1
              exact absurd H (by simp)
            ·rw [if_neg c22] at H
             exact absurd H (by simp)
           ·rw [if_neg c21] at H
            have c21b0 : (((rd_L1 l2 x10_2).length : Int) == a0) = false:=beq_eq_false_iff_ne.mpr c21
            have c21b1 : (((rd_L1 l2 x10_2).length : Int) != a0) = true:=bne_iff_ne.mpr c21
            by_cases c31 : t492 = 1
            ·rw [if_pos c31] at H
             have c31b0 : (t492 == 1) = true:=beq_iff_eq.mpr c31
             have c31b1 : (t492 != 1) = false:=bne_eq_false_iff_eq.mpr c31
             clear c31
             by_cases c32 : (t489.length : Int) = 0
             ·rw [if_pos c32] at H
              have c32b0 : ((t489.length : Int) == 0) = true:=beq_iff_eq.mpr c32
              have c32b1 : ((t489.length : Int) != 0) = false:=bne_eq_false_iff_eq.mpr c32
              clear c32
              replace H:=Option.bind_eq_some_iff.mp H
              obtain ⟨t497,A330,H⟩:=H
              (try dsimp only at H)
              have A33:=ak_ A330
              clear A330
              by_cases c34 : t497 = true
              ·subst c34
               have H1 : (madrigallaw15_MdctJoins.l0 k2 a0 a1 l2 (wrap64 (x10_2 + 1)) t493 t494 t495 x473000_2 x473001_2) = some r:=by rw [if_pos rfl] at H;exact H
               clear H
               have H:=H1
               clear H1
               have H':=ak_ H
               clear H
               go_wp2_with (first|((with_reducible refine gate_callee (f:=22) rfl ?_);refine goesL_ (some 57) rfl rfl Try.func22 (by kernel_rfl) rfl #[.pointer (some ⟨g467,0,none⟩)] rfl (by (try simp only [List.map_toArray,List.map_cons,List.map_nil]);first|done|rfl|(simp only [List.length_drop,List.length_take];rfl)) ?_;(with_reducible refine (mdct_Joiner_Copy.calls g467 x468000_2 x468001_2 x468002_2 t484 t485 t486 w _ ?side1 ?side2 A18.out).mono ?_);(case side1 => repeat (first|(with_reducible first|exact HI467.out|apply IsS52.alloc|apply IsS52.drewN|apply IsS52.drew)|exact HI467.out));(case side2 => repeat (first|(with_reducible first|exact HB.out|apply ba_|apply bb_|apply bc_|refine below_set ?_ (IsS52.ge HI467.out)|refine below_set ?_ (IsS55.ge HI472.out))|exact HB.out));rintro e w35 ⟨g487,rfl,hi,hb,hb2,hge⟩;refine ⟨_,rfl,?_⟩;have n0_:=ak_ (IsS52.below (by repeat (first|(with_reducible first|exact HI467.out|apply IsS52.alloc|apply IsS52.drewN|apply IsS52.drew)|exact HI467.out)) hb2);have n1_:=ak_ (IsS55.below (by repeat (first|(with_reducible first|exact HI472.out|apply IsS55.alloc|apply IsS55.drewN|apply IsS55.drew)|exact HI472.out)) hb2);have n2_:=ak_ (Nat.ne_of_gt (Nat.lt_of_lt_of_le (IsS52.lt (show IsS52 w _ g467 x468000_2 x468001_2 x468002_2 from by repeat (first|(with_reducible first|exact HI467.out|apply IsS52.alloc|apply IsS52.drewN|apply IsS52.drew)|exact HI467.out))) hge));have n3_:=ak_ (Nat.ne_of_gt (Nat.lt_of_lt_of_le (IsS55.lt (show IsS55 w _ g472 x473000_2 x473001_2 from by repeat (first|(with_reducible first|exact HI472.out|apply IsS55.alloc|apply IsS55.drewN|apply IsS55.drew)|exact HI472.out))) hge));have n4_:=ak_ (hb);have n5_:=ak_ (hi);clear HI467;clear HI472;clear HB;have HI467:=n0_;have HI472:=n1_;have NS487_467:=n2_;have NS487_472:=n3_;have HB:=n4_;have HI487:=n5_;clear n0_ n1_ n2_ n3_ n4_ n5_;(try clear hb);(try clear hb2);(try clear hi);(try clear hge);have p488 : 0 ≤ (x10_2 : Int):=of_decide_eq_true (by first|(with_reducible assumption)|assumption);have q488 : x10_2 < (l2.length : Int):=of_decide_eq_true (by first|(with_reducible assumption)|assumption);obtain ⟨ad488,A488_0,c488_0,e488,hx488_0,hl488_0,hi488_0⟩:=at_L1 HR2.out x10_2 p488 q488;cases e488;replace hx488_0:=(HB.out.cell (World.block_lt_of_cell? w _ hx488_0)).trans hx488_0;have HR488_0:=ak_ hi488_0;have HC488_0:=ak_ hl488_0;clear hi488_0 hl488_0;replace p488:=eq_true p488;replace q488:=eq_true q488)|((with_reducible refine gate_callee (f:=14) rfl ?_);refine goesL_ (some 64) rfl rfl Try.func14 (by kernel_rfl) rfl #[.pointer (some ⟨g467,0,none⟩),.slice A488_0 (rd_L1 l2 x10_2).length c488_0] rfl (by (try simp only [List.map_toArray,List.map_cons,List.map_nil]);first|done|rfl|(simp only [List.length_drop,List.length_take];rfl)) ?_;(with_reducible refine (mdct_Joiner_Next.calls k2 g467 x468000_2 x468001_2 x468002_2 _ _ (rd_L1 l2 x10_2) t489 t492 t493 t494 t495 w _ ?side1 ?side2 ?side3 ?side4 ?side5 A20.out).mono ?_);(case side1 => repeat (first|(with_reducible first|exact HI467.out|apply IsS52.alloc|apply IsS52.drewN|apply IsS52.drew)|exact HI467.out));(case side2 => repeat (first|(with_reducible first|exact HB.out|apply ba_|apply bb_|apply bc_|refine below_set ?_ (IsS52.ge HI467.out)|refine below_set ?_ (IsS55.ge HI472.out)|refine below_set ?_ (IsS52.ge HI487.out))|exact HB.out));(case side3 => repeat (first|exact (Kd.C_below HR488_0.out HB.out)|(with_reducible refine Kd.C_alloc ?_ _)|(with_reducible refine Kd.C_drewN ?_ _)|(with_reducible refine Kd.C_drew ?_)));(case side4 => exact HC488_0.out);(case side5 => exact Kd.far_C 0 HR488_0.out (IsS52.ge HI467.out));rintro e w36 ⟨v490,rfl,ho0,hi,hb,hk⟩;refine ⟨_,rfl,?_⟩;have n0_:=ak_ (IsS55.keepB (show IsS55 w _ g472 x473000_2 x473001_2 from by repeat (first|(with_reducible first|exact HI472.out|apply IsS55.alloc|apply IsS55.drewN|apply IsS55.drew)|exact HI472.out)) hk NS472_467.out (IsS52.typ (show IsS52 w _ g467 x468000_2 x468001_2 x468002_2 from by repeat (first|(with_reducible first|exact HI467.out|apply IsS52.alloc|apply IsS52.drewN|apply IsS52.drew)|exact HI467.out))));have n1_:=ak_ (IsS52.keepB (show IsS52 w _ g487 t484 t485 t486 from by repeat (first|(with_reducible first|exact HI487.out|apply IsS52.alloc|apply IsS52.drewN|apply IsS52.drew)|exact HI487.out)) hk NS487_467.out (IsS52.typ (show IsS52 w _ g467 x468000_2 x468001_2 x468002_2 from by repeat (first|(with_reducible first|exact HI467.out|apply IsS52.alloc|apply IsS52.drewN|apply IsS52.drew)|exact HI467.out))));have n2_:=ak_ (Kd.R_lower ho0 (below_size (by repeat (first|(with_reducible first|exact HB.out|apply ba_|apply bb_|apply bc_|refine below_set ?_ (IsS52.ge HI467.out)|refine below_set ?_ (IsS55.ge HI472.out)|refine below_set ?_ (IsS52.ge HI487.out))|exact HB.out))));have n3_:=ak_ (hb);have n4_:=ak_ (hi);clear HI472;clear HI487;clear HB;clear HI467;have HI472:=n0_;have HI487:=n1_;have HO491:=n2_;have HB:=n3_;have HI467:=n4_;clear n0_ n1_ n2_ n3_ n4_;(try clear hb);(try clear hk);(try clear hi);(try clear ho0);have p496 : 0 ≤ (x10_2 : Int):=of_decide_eq_true (by first|(with_reducible assumption)|assumption);have q496 : x10_2 < (l2.length : Int):=of_decide_eq_true (by first|(with_reducible assumption)|assumption);obtain ⟨ad496,A496_0,c496_0,e496,hx496_0,hl496_0,hi496_0⟩:=at_L1 HR2.out x10_2 p496 q496;obtain rfl : ad488 = ad496:=(by injection e496);replace hx496_0:=(HB.out.cell (World.block_lt_of_cell? w _ hx496_0)).trans hx496_0;have HR496_0:=ak_ hi496_0;have HC496_0:=ak_ hl496_0;clear hi496_0 hl496_0;replace p496:=eq_true p496;replace q496:=eq_true q496;obtain ⟨Ao37,co37,eo37⟩:=Kd.R_slice HO491.out;subst eo37)|(go_at_call 23;(with_reducible refine (mdct_Joiner_Same.calls k2 g487 t484 t485 t486 g467 t493 t494 t495 true w _ ?side1 ?side2 ?side3 A33.out).mono ?_);(case side1 => repeat (first|(with_reducible first|exact HI487.out|apply IsS52.alloc|apply IsS52.drewN|apply IsS52.drew)|exact HI487.out));(case side2 => repeat (first|(with_reducible first|exact HI467.out|apply IsS52.alloc|apply IsS52.drewN|apply IsS52.drew)|exact HI467.out));(case side3 => repeat (first|(with_reducible first|exact HB.out|apply ba_|apply bb_|apply bc_|refine below_set ?_ (IsS52.ge HI467.out)|refine below_set ?_ (IsS55.ge HI472.out)|refine below_set ?_ (IsS52.ge HI487.out))|exact HB.out));rintro e w' ⟨rfl,⟨nd,rfl⟩⟩))
               go_roundg k2
               case measure => have:=HJ5.out;have:=HK2.out;omega
               case rel => exact ⟨(wrap64 (x10_2 + 1)),(t493),(t494),(t495),(x473000_2),(x473001_2),(by first|rfl|(simp;done)|(simp [*];done)),H',⟨by have:=HJ5.out;have:=HK2.out;omega⟩,⟨by repeat (first|(with_reducible first|exact HI467.out|apply IsS52.alloc|apply IsS52.drewN|apply IsS52.drew)|exact HI467.out)⟩,⟨by repeat (first|(with_reducible first|exact HI472.out|apply IsS55.alloc|apply IsS55.drewN|apply IsS55.drew)|exact HI472.out)⟩,⟨by repeat (first|(with_reducible first|exact HB.out|apply ba_|apply bb_|apply bc_|refine below_set ?_ (IsS52.ge HI467.out)|refine below_set ?_ (IsS55.ge HI472.out)|refine below_set ?_ (IsS52.ge HI487.out))|exact HB.out)⟩⟩
              ·replace c34:=Bool.eq_false_iff.mpr c34
               subst c34
               have H1 : (none) = some r:=by rw [if_neg (show ¬ (false = true) by decide)] at H;exact H
               clear H
               have H:=H1
               clear H1
               exact absurd H (by simp)
             ·rw [if_neg c32] at H
              exact absurd H (by simp)
            ·rw [if_neg c31] at H
             exact absurd H (by simp)
          ·rw [if_neg c19] at H
           exact absurd H (by simp)
         ·rw [if_neg c17] at H
          have c17b0:=decide_eq_false c17
          clear c17
          replace H:=Option.bind_eq_some_iff.mp H
          obtain ⟨⟨t473,t474,t475⟩,A380,H⟩:=H
          (try dsimp only at H)
          have A38:=ak_ A380
          clear A380
          by_cases c39 : mdct_Good.f a0 a1 = some true
          ·rw [if_pos c39] at H
           have c39b0 : (mdct_Good.f a0 a1 == some true) = true:=beq_iff_eq.mpr c39
           have c39b1 : (mdct_Good.f a0 a1 != some true) = false:=bne_eq_false_iff_eq.mpr c39
           clear c39
           replace H:=Option.bind_eq_some_iff.mp H
           obtain ⟨⟨t476,t477,t478,t480⟩,A400,H⟩:=H
           (try dsimp only at H)
           have A40:=ak_ A400
           clear A400
           replace H:=Option.bind_eq_some_iff.mp H
           obtain ⟨t481,A410,H⟩:=H
           (try dsimp only at H)
           have A41:=ak_ A410
           clear A410
           obtain rfl:=Option.some.inj H
           go_wp2_with (first|((with_reducible refine gate_callee (f:=25) rfl ?_);refine goesL_ (some 101) rfl rfl Try.func25 (by kernel_rfl) rfl #[.pointer (some ⟨g467,0,none⟩)] rfl (by (try simp only [List.map_toArray,List.map_cons,List.map_nil]);first|done|rfl|(simp only [List.length_drop,List.length_take];rfl)) ?_;(with_reducible refine (mdct_Joiner_Reset.calls g467 x468000_2 x468001_2 x468002_2 t473 t474 t475 w _ ?side1 ?side2 A38.out).mono ?_);(case side1 => repeat (first|(with_reducible first|exact HI467.out|apply IsS52.alloc|apply IsS52.drewN|apply IsS52.drew)|exact HI467.out));(case side2 => repeat (first|(with_reducible first|exact HB.out|apply ba_|apply bb_|apply bc_|refine below_set ?_ (IsS52.ge HI467.out)|refine below_set ?_ (IsS55.ge HI472.out))|exact HB.out));rintro e w42 ⟨rfl,hi,hb,hk⟩;refine ⟨_,rfl,?_⟩;have n0_:=ak_ (IsS55.keepB (show IsS55 w _ g472 x473000_2 x473001_2 from by repeat (first|(with_reducible first|exact HI472.out|apply IsS55.alloc|apply IsS55.drewN|apply IsS55.drew)|exact HI472.out)) hk NS472_467.out (IsS52.typ (show IsS52 w _ g467 x468000_2 x468001_2 x468002_2 from by repeat (first|(with_reducible first|exact HI467.out|apply IsS52.alloc|apply IsS52.drewN|apply IsS52.drew)|exact HI467.out))));have n1_:=ak_ (hb);have n2_:=ak_ (hi);clear HI472;clear HB;clear HI467;have HI472:=n0_;have HB:=n1_;have HI467:=n2_;clear n0_ n1_ n2_;(try clear hb);(try clear hk);(try clear hi))|((with_reducible refine gate_callee (f:=13) rfl ?_);refine goesL_ (some 105) rfl rfl Try.func13 (by kernel_rfl) rfl #[.int .i64 a0,.int .i64 a1] rfl (by (try simp only [List.map_toArray,List.map_cons,List.map_nil]);first|done|rfl|(simp only [List.length_drop,List.length_take];rfl)) ?_;(with_reducible refine (mdct_New1.calls a0 a1 t476 t477 t478 t480 w _ ?side1 A40.out).mono ?_);(case side1 => repeat (first|(with_reducible first|exact HB.out|apply ba_|apply bb_|apply bc_|refine below_set ?_ (IsS52.ge HI467.out)|refine below_set ?_ (IsS55.ge HI472.out))|exact HB.out));rintro e w43 ⟨g479,rfl,hi,hb,hb2,hge⟩;refine ⟨_,rfl,?_⟩;have n0_:=ak_ (IsS52.below (by repeat (first|(with_reducible first|exact HI467.out|apply IsS52.alloc|apply IsS52.drewN|apply IsS52.drew)|exact HI467.out)) hb2);have n1_:=ak_ (IsS55.below (by repeat (first|(with_reducible first|exact HI472.out|apply IsS55.alloc|apply IsS55.drewN|apply IsS55.drew)|exact HI472.out)) hb2);have n2_:=ak_ (Nat.ne_of_gt (Nat.lt_of_lt_of_le (IsS52.lt (show IsS52 w _ g467 t473 t474 t475 from by repeat (first|(with_reducible first|exact HI467.out|apply IsS52.alloc|apply IsS52.drewN|apply IsS52.drew)|exact HI467.out))) hge));have n3_:=ak_ (Nat.ne_of_gt (Nat.lt_of_lt_of_le (IsS55.lt (show IsS55 w _ g472 x473000_2 x473001_2 from by repeat (first|(with_reducible first|exact HI472.out|apply IsS55.alloc|apply IsS55.drewN|apply IsS55.drew)|exact HI472.out))) hge));have n4_:=ak_ (hb);have n5_:=ak_ (hi);clear HI467;clear HI472;clear HB;have HI467:=n0_;have HI472:=n1_;have NS479_467:=n2_;have NS479_472:=n3_;have HB:=n4_;have HI479:=n5_;clear n0_ n1_ n2_ n3_ n4_ n5_;(try clear hb);(try clear hb2);(try clear hi);(try clear hge))|((with_reducible refine gate_callee (f:=23) rfl ?_);refine goesL_ (some 110) rfl rfl Try.func23 (by kernel_rfl) rfl #[.pointer (some ⟨g467,0,none⟩),.pointer (some ⟨g479,0,none⟩)] rfl (by (try simp only [List.map_toArray,List.map_cons,List.map_nil]);first|done|rfl|(simp only [List.length_drop,List.length_take];rfl)) ?_;(with_reducible refine (mdct_Joiner_Same.calls k2 g467 t473 t474 t475 g479 t476 t477 t478 t481 w _ ?side1 ?side2 ?side3 A41.out).mono ?_);(case side1 => repeat (first|(with_reducible first|exact HI467.out|apply IsS52.alloc|apply IsS52.drewN|apply IsS52.drew)|exact HI467.out));(case side2 => repeat (first|(with_reducible first|exact HI479.out|apply IsS52.alloc|apply IsS52.drewN|apply IsS52.drew)|exact HI479.out));(case side3 => repeat (first|(with_reducible first|exact HB.out|apply ba_|apply bb_|apply bc_|refine below_set ?_ (IsS52.ge HI467.out)|refine below_set ?_ (IsS55.ge HI472.out)|refine below_set ?_ (IsS52.ge HI479.out))|exact HB.out));rintro e w' ⟨rfl,⟨nd,rfl⟩⟩;refine ⟨_,rfl,?_⟩))
           go_ret
           exact ⟨by first|rfl|(simp [errW_none,errW_some] <;> rfl)|(simp [*,errW_none,errW_some] <;> rfl),by repeat (first|(with_reducible first|exact HB.out|apply ba_|apply bb_|apply bc_|refine below_set ?_ (IsS52.ge HI467.out)|refine below_set ?_ (IsS55.ge HI472.out)|refine below_set ?_ (IsS52.ge HI479.out))|exact HB.out)⟩
          ·rw [if_neg c39] at H
           have c39b0 : (mdct_Good.f a0 a1 == some true) = false:=beq_eq_false_iff_ne.mpr c39
           have c39b1 : (mdct_Good.f a0 a1 != some true) = true:=bne_iff_ne.mpr c39
           replace H:=Option.bind_eq_some_iff.mp H
           obtain ⟨t483,A440,H⟩:=H
           (try dsimp only at H)
           have A44:=ak_ A440
           clear A440
           exact absurd H (by simp)
      ·replace c13:=Bool.eq_false_iff.mpr c13
       subst c13
       have H1 : (none) = some r:=by rw [if_neg (show ¬ (false = true) by decide)] at H;exact H
       clear H
       have H:=H1
       clear H1
       exact absurd H (by simp)
     ·rw [if_neg c10] at H
      have c10b0 : (mdct_Good.f a0 a1 == some true) = false:=beq_eq_false_iff_ne.mpr c10
      have c10b1 : (mdct_Good.f a0 a1 != some true) = true:=bne_iff_ne.mpr c10
      replace H:=Option.bind_eq_some_iff.mp H
      obtain ⟨t506,A450,H⟩:=H
      (try dsimp only at H)
      have A45:=ak_ A450
      clear A450
      replace H:=Option.bind_eq_some_iff.mp H
      obtain ⟨t507,A460,H⟩:=H
      (try dsimp only at H)
      have A46:=ak_ A460
      clear A460
      by_cases c47 : t507 = true
      ·subst c47
       have H1 : (none) = some r:=by rw [if_pos rfl] at H;exact H
       clear H
       have H:=H1
       clear H1
       exact absurd H (by simp)
      ·replace c47:=Bool.eq_false_iff.mpr c47
       subst c47
       have H1 : (some true) = some r:=by rw [if_neg (show ¬ (false = true) by decide)] at H;exact H
       clear H
       have H:=H1
       clear H1
       obtain rfl:=Option.some.inj H
       go_wp2_with (first|((with_reducible refine gate_callee (f:=13) rfl ?_);refine goesL_ (some 28) rfl rfl Try.func13 (by kernel_rfl) rfl #[.int .i64 a0,.int .i64 a1] rfl (by (try simp only [List.map_toArray,List.map_cons,List.map_nil]);first|done|rfl|(simp only [List.length_drop,List.length_take];rfl)) ?_;(with_reducible refine (mdct_New0.calls a0 a1 t506 _ A45.out).mono ?_);rintro e w' ⟨rfl,⟨nd,rfl⟩⟩;refine ⟨_,rfl,?_⟩)|((with_reducible refine gate_callee (f:=15) rfl ?_);refine goesL_ (some 33) rfl rfl Try.func15 (by kernel_rfl) rfl #[.int .i64 a0,.int .i64 a1] rfl (by (try simp only [List.map_toArray,List.map_cons,List.map_nil]);first|done|rfl|(simp only [List.length_drop,List.length_take];rfl)) ?_;(with_reducible refine (madrigalref10_GoodBlock.calls a0 a1 false _ A46.out).mono ?_);rintro e w' ⟨rfl,⟨nd,rfl⟩⟩;refine ⟨_,rfl,?_⟩))
       go_ret
       exact ⟨by first|rfl|(simp [errW_none,errW_some] <;> rfl)|(simp [*,errW_none,errW_some] <;> rfl),by repeat (first|(with_reducible first|exact HB.out|apply ba_|apply bb_|apply bc_)|exact HB.out)⟩
 ·replace c5:=Bool.eq_false_iff.mpr c5
  subst c5
  have H1 : (none) = some r:=by rw [if_neg (show ¬ (false = true) by decide)] at H;exact H
  clear H
  have H:=H1
  clear H1
  exact absurd H (by simp)

/-- THE ONE PURE STATEMENT of madrigallaw15_MdctJoins. -/
def madrigallaw15_MdctJoins.Pure : Prop:=∀ (a0 : Int) (a1 : Int) (l2 : List (List Int)),(Lit.int .i64 a0).wf = true → (Lit.int .i64 a1).wf = true → l2.length ≤ maxLen → (∀ z ∈ l2,z.length ≤ maxLen ∧ ∀ x ∈ z,(Lit.int .i64 x).wf = true) → ∃ k,madrigallaw15_MdctJoins.f k a0 a1 l2 = some true
theorem madrigallaw15_MdctJoins.walk (P : madrigallaw15_MdctJoins.Pure) (a0 : Int) (a1 : Int) (a2 : Option Addr) (len2 cap2 : Nat) (z2 : List (List Int)) (w : World) (w0 : (Lit.int .i64 a0).wf = true) (w1 : (Lit.int .i64 a1).wf = true) (w2 : Kd.C (Kd.slice 2 (Kd.int .i64)) w a2 len2 z2) (y2 : len2 ≤ cap2 ∧ z2.length ≤ maxLen ∧ ∀ z ∈ z2,z.length ≤ maxLen ∧ ∀ x ∈ z,(Lit.int .i64 x).wf = true) :
  Calls Try.prog 5 #[.int .i64 a0,.int .i64 a1,.slice a2 len2 cap2] w fun e w' => e = .returned (.bool true) ∧ Below w.heap.size w w':=by
 obtain ⟨y2,hm2,hw2⟩:=y2
 obtain rfl : z2.length = len2:=w2.1
 obtain ⟨k,h⟩:=P a0 a1 z2 w0 w1 hm2 hw2
 refine (madrigallaw15_MdctJoins.calls k a0 a1 _ _ z2 true w w2 y2 h).mono ?_
 rintro e w' ⟨rfl,hd⟩
 exact ⟨rfl,hd⟩

end Go.Proofs.Ytlmacbiahofmcaa.P
