/- The machine side of the laws of one chapter, without conditions: each call of a Go function comes to what the Lean function of its name answers. Written for this claim by a program of the prover. -/
import Derived.Test.YtcicenmmpbgmoaaPx0
import Derived.Test.YtcicenmmpbgmoaaPx1
import Derived.Test.YtcicenmmpbgmoaaPx2
import Derived.Test.YtcicenmmpbgmoaaPx11
import Derived.Test.YtcicenmmpbgmoaaPx13
import Derived.Test.YtcicenmmpbgmoaaPx14
import Derived.Test.YtcicenmmpbgmoaaPx15
import Derived.Test.YtcicenmmpbgmoaaPx18
namespace Go.Proofs.Ytcicenmmpbgmoaa.P
open Go.RowKit Go.Proofs.YtcicenmmpbgmoaaW.PrintWords Go.Proofs.YtcicenmmpbgmoaaW.PrintLast Go.Proofs.YtcicenmmpbgmoaaW.PrintMore
attribute [local go_sem] max2_int min2_int max_two min_two max_three min_three max_four min_four   -- for this text's walks alone
set_option linter.unusedVariables false
set_option linter.unusedSimpArgs false

/-! ### madrigallaw22_ResampReset: function 9 -/
mutual
def madrigallaw22_ResampReset.j0 : Nat → Int → Int → List Int → List Int → Bool → Option (Bool)
 | 0,_,_,_,_,_ => none
 | k + 1,x0,x1,x2,x3,x26 => if x26 = true then (some true) else (if resamp_Good.f x0 x1 = some true then ((resamp_New1.f x0 x1).bind fun bt524 => ((resamp_New1.f x0 x1).bind fun bt529 => ((resamp_Sampler_Run.f k bt524.1 bt524.2.1 bt524.2.2.1 x2).bind fun bt534 => ((resamp_Sampler_Reset.f bt534.2.2.1 bt534.2.2.2.1 bt534.2.2.2.2).bind fun bt541 => ((resamp_Sampler_Same.f bt541.1 bt541.2.1 bt541.2.2 bt529.1 bt529.2.1 bt529.2.2.1).bind fun t544 => (if t544 = true then ((resamp_Sampler_Same.f bt529.1 bt529.2.1 bt529.2.2.1 bt541.1 bt541.2.1 bt541.2.2).bind fun t545 => (madrigallaw22_ResampReset.j1 k x3 (!t545) bt541.1 bt541.2.1 bt541.2.2 bt529.1 bt529.2.1 bt529.2.2.1)) else (madrigallaw22_ResampReset.j1 k x3 true bt541.1 bt541.2.1 bt541.2.2 bt529.1 bt529.2.1 bt529.2.2.1))))))) else ((resamp_New0.f x0 x1).bind fun t563 => ((resamp_New0.f x0 x1).bind fun t565 => (some true))))
def madrigallaw22_ResampReset.j1 : Nat → List Int → Bool → Int → Int → List Int → Int → Int → List Int → Option (Bool)
 | 0,_,_,_,_,_,_,_,_ => none
 | k + 1,x3,x62,x528000,x528001,x528002,x533000,x533001,x533002 => if x62 = true then (none) else ((resamp_Sampler_Run.f k x528000 x528001 x528002 x3).bind fun bt546 => ((resamp_Sampler_Run.f k x533000 x533001 x533002 x3).bind fun bt553 => (if bt546.2.1 = bt553.2.1 then ((madrigallaw22_same.f k bt546.1 bt553.1).bind fun t560 => (if t560 = true then ((resamp_Sampler_Same.f bt546.2.2.1 bt546.2.2.2.1 bt546.2.2.2.2 bt553.2.2.1 bt553.2.2.2.1 bt553.2.2.2.2).bind fun t561 => (some t561)) else (none))) else (none))))
end
def madrigallaw22_ResampReset.f (k : Nat) (a0 : Int) (a1 : Int) (l2 : List Int) (l3 : List Int) : Option (Bool):=(madrigallaw22_awake.f k).bind fun t523 => (if t523 = true then (if (l2.length : Int) > 300 then (madrigallaw22_ResampReset.j0 k a0 a1 l2 l3 true) else (madrigallaw22_ResampReset.j0 k a0 a1 l2 l3 (decide ((l3.length : Int) > 300)))) else (none))
theorem madrigallaw22_ResampReset.mono_l : ∀ k,(∀ y0 y1 y2 y3 y4,LeO (madrigallaw22_ResampReset.j0 k y0 y1 y2 y3 y4) (madrigallaw22_ResampReset.j0 (k + 1) y0 y1 y2 y3 y4)) ∧ (∀ y0 y1 y2 y3 y4 y5 y6 y7,LeO (madrigallaw22_ResampReset.j1 k y0 y1 y2 y3 y4 y5 y6 y7) (madrigallaw22_ResampReset.j1 (k + 1) y0 y1 y2 y3 y4 y5 y6 y7))
 | 0 => ⟨fun _ _ _ _ _ r h => by simp [madrigallaw22_ResampReset.j0] at h,fun _ _ _ _ _ _ _ _ r h => by simp [madrigallaw22_ResampReset.j1] at h⟩
 | k + 1 => by
  obtain ⟨ih0,ih1⟩:=madrigallaw22_ResampReset.mono_l k
  refine ⟨?_,?_⟩
  all_goals (intros;first|unfold madrigallaw22_ResampReset.j0|unfold madrigallaw22_ResampReset.j1)
  all_goals (repeat' first|(with_reducible first|exact ih0 _ _ _ _ _|exact ih1 _ _ _ _ _ _ _ _|exact madrigallaw22_awake.mono _|exact madrigallaw22_same.mono _ _ _|exact resamp_Sampler_Run.mono _ _ _ _ _|exact LeO.refl _|exact LeO.none _|refine LeO.ite ?_ ?_|refine LeO.bind ?_ (fun _ => ?_))|exact ih0 _ _ _ _ _|exact ih1 _ _ _ _ _ _ _ _|exact madrigallaw22_awake.mono _|exact madrigallaw22_same.mono _ _ _|exact resamp_Sampler_Run.mono _ _ _ _ _|exact LeO.none _|refine LeO.ite ?_ ?_|refine LeO.bind ?_ (fun _ => ?_))
theorem madrigallaw22_ResampReset.mono : ∀ a0 a1 a2 a3 k,LeO (madrigallaw22_ResampReset.f k a0 a1 a2 a3) (madrigallaw22_ResampReset.f (k + 1) a0 a1 a2 a3):=by
 intro a0 a1 a2 a3 k
 obtain ⟨ih0,ih1⟩:=madrigallaw22_ResampReset.mono_l k
 unfold madrigallaw22_ResampReset.f
 repeat' first|(with_reducible first|exact ih0 _ _ _ _ _|exact ih1 _ _ _ _ _ _ _ _|exact madrigallaw22_awake.mono _|exact madrigallaw22_same.mono _ _ _|exact resamp_Sampler_Run.mono _ _ _ _ _|exact LeO.refl _|exact LeO.none _|refine LeO.ite ?_ ?_|refine LeO.bind ?_ (fun _ => ?_))|exact ih0 _ _ _ _ _|exact ih1 _ _ _ _ _ _ _ _|exact madrigallaw22_awake.mono _|exact madrigallaw22_same.mono _ _ _|exact resamp_Sampler_Run.mono _ _ _ _ _|exact LeO.none _|refine LeO.ite ?_ ?_|refine LeO.bind ?_ (fun _ => ?_)
set_option maxHeartbeats 8000000 in
set_option maxRecDepth 100000 in
theorem madrigallaw22_ResampReset.calls (k : Nat) (a0 : Int) (a1 : Int) (A2 : Option Addr) (c2 : Nat) (l2 : List Int) (A3 : Option Addr) (c3 : Nat) (l3 : List Int) (r : Bool) (w : World) (hr2 : Kd.C (Kd.int .i64) w A2 l2.length l2) (hc2 : l2.length ≤ c2) (hr3 : Kd.C (Kd.int .i64) w A3 l3.length l3) (hc3 : l3.length ≤ c3) (h : madrigallaw22_ResampReset.f k a0 a1 l2 l3 = some r) :
  Calls Try.prog 9 #[.int .i64 a0,.int .i64 a1,.slice A2 l2.length c2,.slice A3 l3.length c3] w fun e w' => e = .returned (.bool r) ∧ Below w.heap.size w w':=by
 have HR2:=ak_ hr2
 have HC2:=ak_ hc2
 clear hr2 hc2
 have HR3:=ak_ hr3
 have HC3:=ak_ hc3
 clear hr3 hc3
 have HB:=ak_ (Below.refl w.heap.size w)
 have H : ((madrigallaw22_awake.f k).bind fun t523 => (if t523 = true then (if (l2.length : Int) > 300 then (madrigallaw22_ResampReset.j0 k a0 a1 l2 l3 true) else (madrigallaw22_ResampReset.j0 k a0 a1 l2 l3 (decide ((l3.length : Int) > 300)))) else (none))) = some r:=h
 clear h
 replace H:=Option.bind_eq_some_iff.mp H
 obtain ⟨t523,A50,H⟩:=H
 (try dsimp only at H)
 have A5:=ak_ A50
 clear A50
 by_cases c6 : t523 = true
 ·subst c6
  have H1 : (if (l2.length : Int) > 300 then (madrigallaw22_ResampReset.j0 k a0 a1 l2 l3 true) else (madrigallaw22_ResampReset.j0 k a0 a1 l2 l3 (decide ((l3.length : Int) > 300)))) = some r:=by rw [if_pos rfl] at H;exact H
  clear H
  have H:=H1
  clear H1
  have HC7:=ak_ H
  clear H
  go_enter Try.func9,Try.ntmps9
  go_upto_region 3 with (first|((with_reducible refine gate_callee (f:=11) rfl ?_);refine goesL_ (some 17) rfl rfl Try.func11 (by kernel_rfl) rfl #[] rfl (by (try simp only [List.map_toArray,List.map_cons,List.map_nil]);first|done|rfl|(simp only [List.length_drop,List.length_take];rfl)) ?_;(with_reducible refine (madrigallaw22_awake.calls k  true _ A5.out).mono ?_);rintro e w8 ⟨rfl,hb⟩;refine ⟨_,rfl,?_⟩;have n0_:=ak_ (below_step (by repeat (first|(with_reducible first|exact HB.out|apply ba_|apply bb_|apply bc_)|exact HB.out)) hb);clear HB;have HB:=n0_;clear n0_;(try clear hb)))
  (try simp only [Act.put,List.setIfInBounds_toArray,List.set_cons_zero,List.set_cons_succ])
  go_cut [26] (fun v26 wc => ∃ (kq : Nat) (x26_6 : Bool),v26 = .bool x26_6 ∧ Aside0 (madrigallaw22_ResampReset.j0 kq a0 a1 l2 l3 x26_6 = some r) ∧ Aside0 (kq ≤ k) ∧ Aside0 (Below w.heap.size w wc))
  case first =>
   have H:=HC7.out
   clear HC7
   by_cases c9 : (l2.length : Int) > 300
   ·rw [if_pos c9] at H
    have c9b0 : decide (300 < (l2.length : Int)) = true:=decide_eq_true c9
    have c9b1 : decide (300 < l2.length) = true:=decide_eq_true (by omega)
    clear c9
    (first|rw [c9b0]|(simp only [i64_w,i32_w];rw [c9b0])|skip)
    have H':=ak_ H
    clear H
    go_wp2
    refine Met.intro ?_
    go_step
    (repeat apply Exists.intro)
    first|refine ⟨?rel64,rfl⟩|(refine ⟨?rel64,?st64⟩;case' st64 => (first|rw [c9b0]|simp only [c9b0]))
    case rel64 => exact ⟨_,(true),(by first|rfl|(simp;done)|(simp [*];done)),H',⟨by first|omega|exact Nat.le_refl _⟩,⟨by repeat (first|(with_reducible first|exact HB.out|apply ba_|apply bb_|apply bc_)|exact HB.out)⟩⟩
   ·rw [if_neg c9] at H
    have c9b0 : decide (300 < (l2.length : Int)) = false:=decide_eq_false c9
    have c9b1 : decide (300 < l2.length) = false:=decide_eq_false (by omega)
    clear c9
    (first|rw [c9b0]|(simp only [i64_w,i32_w];rw [c9b0])|skip)
    have H':=ak_ H
    clear H
    go_wp2
    refine Met.intro ?_
    go_step
    (repeat apply Exists.intro)
    first|refine ⟨?rel74,rfl⟩|(refine ⟨?rel74,?st74⟩;case' st74 => (first|rw [c9b0]|simp only [c9b0]))
    case rel74 => exact ⟨_,(decide ((l3.length : Int) > 300)),(by first|rfl|(simp;done)|(simp [*];done)),H',⟨by first|omega|exact Nat.le_refl _⟩,⟨by repeat (first|(with_reducible first|exact HB.out|apply ba_|apply bb_|apply bc_)|exact HB.out)⟩⟩
  case rest =>
   clear HC7
   try clear c1
   try clear c2
   try clear p2
   try clear c3
   try clear c6
   try clear c9
   try clear c9b0
   try clear c9b1
   obtain ⟨kq,x26_6,rfl,HA,HJ6,HB⟩:=hcut
   (try simp only [i64_w,i32_w])
   cases kq with
   | zero => exact absurd HA.out (by simp [madrigallaw22_ResampReset.j0])
   | succ kj6 =>
    have H:=HA.out
    clear HA
    simp only [madrigallaw22_ResampReset.j0] at H
    by_cases c10 : x26_6 = true
    ·subst c10
     have H1 : (some true) = some r:=by rw [if_pos rfl] at H;exact H
     clear H
     have H:=H1
     clear H1
     obtain rfl:=Option.some.inj H
     go_wp2
     go_ret
     exact ⟨by first|rfl|(simp [errW_none,errW_some] <;> rfl)|(simp [*,errW_none,errW_some] <;> rfl),by repeat (first|(with_reducible first|exact HB.out|apply ba_|apply bb_|apply bc_)|exact HB.out)⟩
    ·replace c10:=Bool.eq_false_iff.mpr c10
     subst c10
     have H1 : (if resamp_Good.f a0 a1 = some true then ((resamp_New1.f a0 a1).bind fun bt524 => ((resamp_New1.f a0 a1).bind fun bt529 => ((resamp_Sampler_Run.f kj6 bt524.1 bt524.2.1 bt524.2.2.1 l2).bind fun bt534 => ((resamp_Sampler_Reset.f bt534.2.2.1 bt534.2.2.2.1 bt534.2.2.2.2).bind fun bt541 => ((resamp_Sampler_Same.f bt541.1 bt541.2.1 bt541.2.2 bt529.1 bt529.2.1 bt529.2.2.1).bind fun t544 => (if t544 = true then ((resamp_Sampler_Same.f bt529.1 bt529.2.1 bt529.2.2.1 bt541.1 bt541.2.1 bt541.2.2).bind fun t545 => (madrigallaw22_ResampReset.j1 kj6 l3 (!t545) bt541.1 bt541.2.1 bt541.2.2 bt529.1 bt529.2.1 bt529.2.2.1)) else (madrigallaw22_ResampReset.j1 kj6 l3 true bt541.1 bt541.2.1 bt541.2.2 bt529.1 bt529.2.1 bt529.2.2.1))))))) else ((resamp_New0.f a0 a1).bind fun t563 => ((resamp_New0.f a0 a1).bind fun t565 => (some true)))) = some r:=by rw [if_neg (show ¬ (false = true) by decide)] at H;exact H
     clear H
     have H:=H1
     clear H1
     by_cases c11 : resamp_Good.f a0 a1 = some true
     ·rw [if_pos c11] at H
      have c11b0 : (resamp_Good.f a0 a1 == some true) = true:=beq_iff_eq.mpr c11
      have c11b1 : (resamp_Good.f a0 a1 != some true) = false:=bne_eq_false_iff_eq.mpr c11
      clear c11
      replace H:=Option.bind_eq_some_iff.mp H
      obtain ⟨⟨t524,t525,t526,t528⟩,A120,H⟩:=H
      (try dsimp only at H)
      have A12:=ak_ A120
      clear A120
      replace H:=Option.bind_eq_some_iff.mp H
      obtain ⟨⟨t529,t530,t531,t533⟩,A130,H⟩:=H
      (try dsimp only at H)
      have A13:=ak_ A130
      clear A130
      replace H:=Option.bind_eq_some_iff.mp H
      obtain ⟨⟨t534,t537,t538,t539,t540⟩,A140,H⟩:=H
      (try dsimp only at H)
      have A14:=ak_ A140
      clear A140
      replace H:=Option.bind_eq_some_iff.mp H
      obtain ⟨⟨t541,t542,t543⟩,A150,H⟩:=H
      (try dsimp only at H)
      have A15:=ak_ A150
      clear A150
      have HC16:=ak_ H
      clear H
      go_upto_region 11 with (first|((with_reducible refine gate_callee (f:=12) rfl ?_);refine goesL_ (some 30) rfl rfl Try.func12 (by kernel_rfl) rfl #[.int .i64 a0,.int .i64 a1] rfl (by (try simp only [List.map_toArray,List.map_cons,List.map_nil]);first|done|rfl|(simp only [List.length_drop,List.length_take];rfl)) ?_;(with_reducible refine (resamp_New1.calls a0 a1 t524 t525 t526 t528 w _ ?side1 A12.out).mono ?_);(case side1 => repeat (first|(with_reducible first|exact HB.out|apply ba_|apply bb_|apply bc_)|exact HB.out));rintro e w17 ⟨g527,rfl,hi,hb,hb2,hge⟩;refine ⟨_,rfl,?_⟩;have n0_:=ak_ (hb);have n1_:=ak_ (hi);clear HB;have HB:=n0_;have HI527:=n1_;clear n0_ n1_;(try clear hb);(try clear hb2);(try clear hi);(try clear hge))|((with_reducible refine gate_callee (f:=12) rfl ?_);refine goesL_ (some 36) rfl rfl Try.func12 (by kernel_rfl) rfl #[.int .i64 a0,.int .i64 a1] rfl (by (try simp only [List.map_toArray,List.map_cons,List.map_nil]);first|done|rfl|(simp only [List.length_drop,List.length_take];rfl)) ?_;(with_reducible refine (resamp_New1.calls a0 a1 t529 t530 t531 t533 w _ ?side1 A13.out).mono ?_);(case side1 => repeat (first|(with_reducible first|exact HB.out|apply ba_|apply bb_|apply bc_|refine below_set ?_ (IsS53.ge HI527.out))|exact HB.out));rintro e w18 ⟨g532,rfl,hi,hb,hb2,hge⟩;refine ⟨_,rfl,?_⟩;have n0_:=ak_ (IsS53.below (by repeat (first|(with_reducible first|exact HI527.out|apply IsS53.alloc|apply IsS53.drewN|apply IsS53.drew)|exact HI527.out)) hb2);have n1_:=ak_ (Nat.ne_of_gt (Nat.lt_of_lt_of_le (IsS53.lt (show IsS53 w _ g527 t524 t525 t526 from by repeat (first|(with_reducible first|exact HI527.out|apply IsS53.alloc|apply IsS53.drewN|apply IsS53.drew)|exact HI527.out))) hge));have n2_:=ak_ (hb);have n3_:=ak_ (hi);clear HI527;clear HB;have HI527:=n0_;have NS532_527:=n1_;have HB:=n2_;have HI532:=n3_;clear n0_ n1_ n2_ n3_;(try clear hb);(try clear hb2);(try clear hi);(try clear hge))|((with_reducible refine gate_callee (f:=13) rfl ?_);refine goesL_ (some 50) rfl rfl Try.func13 (by kernel_rfl) rfl #[.pointer (some ⟨g527,0,none⟩),.slice A2 l2.length c2] rfl (by (try simp only [List.map_toArray,List.map_cons,List.map_nil]);first|done|rfl|(simp only [List.length_drop,List.length_take];rfl)) ?_;(with_reducible refine (resamp_Sampler_Run.calls kj6 g527 t524 t525 t526 _ _ l2 t534 t537 t538 t539 t540 w _ ?side1 ?side2 ?side3 ?side4 ?side5 A14.out).mono ?_);(case side1 => repeat (first|(with_reducible first|exact HI527.out|apply IsS53.alloc|apply IsS53.drewN|apply IsS53.drew)|exact HI527.out));(case side2 => repeat (first|(with_reducible first|exact HB.out|apply ba_|apply bb_|apply bc_|refine below_set ?_ (IsS53.ge HI527.out)|refine below_set ?_ (IsS53.ge HI532.out))|exact HB.out));(case side3 => repeat (first|exact (Kd.C_below HR2.out HB.out)|(with_reducible refine Kd.C_alloc ?_ _)|(with_reducible refine Kd.C_drewN ?_ _)|(with_reducible refine Kd.C_drew ?_)));(case side4 => exact HC2.out);(case side5 => exact Kd.far_C 0 HR2.out (IsS53.ge HI527.out));rintro e w19 ⟨v535,rfl,ho0,hi,hb,hk⟩;refine ⟨_,rfl,?_⟩;have n0_:=ak_ (IsS53.keepB (show IsS53 w _ g532 t529 t530 t531 from by repeat (first|(with_reducible first|exact HI532.out|apply IsS53.alloc|apply IsS53.drewN|apply IsS53.drew)|exact HI532.out)) hk NS532_527.out);have n1_:=ak_ (Kd.R_lower ho0 (below_size (by repeat (first|(with_reducible first|exact HB.out|apply ba_|apply bb_|apply bc_|refine below_set ?_ (IsS53.ge HI527.out)|refine below_set ?_ (IsS53.ge HI532.out))|exact HB.out))));have n2_:=ak_ (hb);have n3_:=ak_ (hi);clear HI532;clear HB;clear HI527;have HI532:=n0_;have HO536:=n1_;have HB:=n2_;have HI527:=n3_;clear n0_ n1_ n2_ n3_;(try clear hb);(try clear hk);(try clear hi);(try clear ho0))|((with_reducible refine gate_callee (f:=26) rfl ?_);refine goesL_ (some 52) rfl rfl Try.func26 (by kernel_rfl) rfl #[.pointer (some ⟨g527,0,none⟩)] rfl (by (try simp only [List.map_toArray,List.map_cons,List.map_nil]);first|done|rfl|(simp only [List.length_drop,List.length_take];rfl)) ?_;(with_reducible refine (resamp_Sampler_Reset.calls g527 t538 t539 t540 t541 t542 t543 w _ ?side1 ?side2 A15.out).mono ?_);(case side1 => repeat (first|(with_reducible first|exact HI527.out|apply IsS53.alloc|apply IsS53.drewN|apply IsS53.drew)|exact HI527.out));(case side2 => repeat (first|(with_reducible first|exact HB.out|apply ba_|apply bb_|apply bc_|refine below_set ?_ (IsS53.ge HI527.out)|refine below_set ?_ (IsS53.ge HI532.out))|exact HB.out));rintro e w20 ⟨rfl,hi,hb,hk⟩;refine ⟨_,rfl,?_⟩;have n0_:=ak_ (IsS53.keepB (show IsS53 w _ g532 t529 t530 t531 from by repeat (first|(with_reducible first|exact HI532.out|apply IsS53.alloc|apply IsS53.drewN|apply IsS53.drew)|exact HI532.out)) hk NS532_527.out);have n1_:=ak_ (Kd.R_mono (Kd.R_keep (IsS53.apart (show IsS53 w _ g527 t538 t539 t540 from by repeat (first|(with_reducible first|exact HI527.out|apply IsS53.alloc|apply IsS53.drewN|apply IsS53.drew)|exact HI527.out)) (by (with_reducible repeat (first|apply ra_|apply rb_|apply rc_));exact HO536.out) (by decide)) hk (fun _ h => h.2)) (fun _ h => h.1));have n2_:=ak_ (hb);have n3_:=ak_ (hi);clear HI532;clear HO536;clear HB;clear HI527;have HI532:=n0_;have HO536:=n1_;have HB:=n2_;have HI527:=n3_;clear n0_ n1_ n2_ n3_;(try clear hb);(try clear hk);(try clear hi)))
      (try simp only [Act.put,List.setIfInBounds_toArray,List.set_cons_zero,List.set_cons_succ])
      go_cut [62] (fun v62 wc => ∃ (kq : Nat) (x62_15 : Bool) (x528000_15 : Int) (x528001_15 : Int) (x528002_15 : List Int) (x533000_15 : Int) (x533001_15 : Int) (x533002_15 : List Int),v62 = .bool x62_15 ∧ Aside0 (madrigallaw22_ResampReset.j1 kq l3 x62_15 x528000_15 x528001_15 x528002_15 x533000_15 x533001_15 x533002_15 = some r) ∧ Aside0 (kq ≤ kj6) ∧ Aside0 (IsS53 w wc g527 x528000_15 x528001_15 x528002_15) ∧ Aside0 (IsS53 w wc g532 x533000_15 x533001_15 x533002_15) ∧ Aside0 (Below w.heap.size w wc))
      case first =>
       have H:=HC16.out
       clear HC16
       replace H:=Option.bind_eq_some_iff.mp H
       obtain ⟨t544,A210,H⟩:=H
       (try dsimp only at H)
       have A21:=ak_ A210
       clear A210
       by_cases c22 : t544 = true
       ·subst c22
        have H1 : ((resamp_Sampler_Same.f t529 t530 t531 t541 t542 t543).bind fun t545 => (madrigallaw22_ResampReset.j1 kj6 l3 (!t545) t541 t542 t543 t529 t530 t531)) = some r:=by rw [if_pos rfl] at H;exact H
        clear H
        have H:=H1
        clear H1
        replace H:=Option.bind_eq_some_iff.mp H
        obtain ⟨t545,A230,H⟩:=H
        (try dsimp only at H)
        have A23:=ak_ A230
        clear A230
        have H':=ak_ H
        clear H
        go_wp2_with (first|((with_reducible refine gate_callee (f:=23) rfl ?_);refine goesL_ (some 55) rfl rfl Try.func23 (by kernel_rfl) rfl #[.pointer (some ⟨g527,0,none⟩),.pointer (some ⟨g532,0,none⟩)] rfl (by (try simp only [List.map_toArray,List.map_cons,List.map_nil]);first|done|rfl|(simp only [List.length_drop,List.length_take];rfl)) ?_;(with_reducible refine (resamp_Sampler_Same.calls g527 t541 t542 t543 g532 t529 t530 t531 true w _ ?side1 ?side2 ?side3 A21.out).mono ?_);(case side1 => repeat (first|(with_reducible first|exact HI527.out|apply IsS53.alloc|apply IsS53.drewN|apply IsS53.drew)|exact HI527.out));(case side2 => repeat (first|(with_reducible first|exact HI532.out|apply IsS53.alloc|apply IsS53.drewN|apply IsS53.drew)|exact HI532.out));(case side3 => repeat (first|(with_reducible first|exact HB.out|apply ba_|apply bb_|apply bc_|refine below_set ?_ (IsS53.ge HI527.out)|refine below_set ?_ (IsS53.ge HI532.out))|exact HB.out));rintro e w' ⟨rfl,⟨nd,rfl⟩⟩;refine ⟨_,rfl,?_⟩)|(go_at_call 23;(with_reducible refine (resamp_Sampler_Same.calls g532 t529 t530 t531 g527 t541 t542 t543 t545 w _ ?side1 ?side2 ?side3 A23.out).mono ?_);(case side1 => repeat (first|(with_reducible first|exact HI532.out|apply IsS53.alloc|apply IsS53.drewN|apply IsS53.drew)|exact HI532.out));(case side2 => repeat (first|(with_reducible first|exact HI527.out|apply IsS53.alloc|apply IsS53.drewN|apply IsS53.drew)|exact HI527.out));(case side3 => repeat (first|(with_reducible first|exact HB.out|apply ba_|apply bb_|apply bc_|refine below_set ?_ (IsS53.ge HI527.out)|refine below_set ?_ (IsS53.ge HI532.out))|exact HB.out));rintro e w' ⟨rfl,⟨nd,rfl⟩⟩))
        go_meet
        case rel => exact ⟨_,(!t545),(t541),(t542),(t543),(t529),(t530),(t531),(by first|rfl|(simp;done)|(simp [*];done)),H',⟨by have:=HJ6.out;first|omega|exact Nat.le_refl _⟩,⟨by repeat (first|(with_reducible first|exact HI527.out|apply IsS53.alloc|apply IsS53.drewN|apply IsS53.drew)|exact HI527.out)⟩,⟨by repeat (first|(with_reducible first|exact HI532.out|apply IsS53.alloc|apply IsS53.drewN|apply IsS53.drew)|exact HI532.out)⟩,⟨by repeat (first|(with_reducible first|exact HB.out|apply ba_|apply bb_|apply bc_|refine below_set ?_ (IsS53.ge HI527.out)|refine below_set ?_ (IsS53.ge HI532.out))|exact HB.out)⟩⟩
       ·replace c22:=Bool.eq_false_iff.mpr c22
        subst c22
        have H1 : (madrigallaw22_ResampReset.j1 kj6 l3 true t541 t542 t543 t529 t530 t531) = some r:=by rw [if_neg (show ¬ (false = true) by decide)] at H;exact H
        clear H
        have H:=H1
        clear H1
        have H':=ak_ H
        clear H
        go_wp2_with (first|((with_reducible refine gate_callee (f:=23) rfl ?_);refine goesL_ (some 55) rfl rfl Try.func23 (by kernel_rfl) rfl #[.pointer (some ⟨g527,0,none⟩),.pointer (some ⟨g532,0,none⟩)] rfl (by (try simp only [List.map_toArray,List.map_cons,List.map_nil]);first|done|rfl|(simp only [List.length_drop,List.length_take];rfl)) ?_;(with_reducible refine (resamp_Sampler_Same.calls g527 t541 t542 t543 g532 t529 t530 t531 false w _ ?side1 ?side2 ?side3 A21.out).mono ?_);(case side1 => repeat (first|(with_reducible first|exact HI527.out|apply IsS53.alloc|apply IsS53.drewN|apply IsS53.drew)|exact HI527.out));(case side2 => repeat (first|(with_reducible first|exact HI532.out|apply IsS53.alloc|apply IsS53.drewN|apply IsS53.drew)|exact HI532.out));(case side3 => repeat (first|(with_reducible first|exact HB.out|apply ba_|apply bb_|apply bc_|refine below_set ?_ (IsS53.ge HI527.out)|refine below_set ?_ (IsS53.ge HI532.out))|exact HB.out));rintro e w' ⟨rfl,⟨nd,rfl⟩⟩;refine ⟨_,rfl,?_⟩))
        go_meet
        case rel => exact ⟨_,(true),(t541),(t542),(t543),(t529),(t530),(t531),(by first|rfl|(simp;done)|(simp [*];done)),H',⟨by have:=HJ6.out;first|omega|exact Nat.le_refl _⟩,⟨by repeat (first|(with_reducible first|exact HI527.out|apply IsS53.alloc|apply IsS53.drewN|apply IsS53.drew)|exact HI527.out)⟩,⟨by repeat (first|(with_reducible first|exact HI532.out|apply IsS53.alloc|apply IsS53.drewN|apply IsS53.drew)|exact HI532.out)⟩,⟨by repeat (first|(with_reducible first|exact HB.out|apply ba_|apply bb_|apply bc_|refine below_set ?_ (IsS53.ge HI527.out)|refine below_set ?_ (IsS53.ge HI532.out))|exact HB.out)⟩⟩
      case rest =>
       clear HC16
       try clear c1
       try clear c2
       try clear p2
       try clear c3
       try clear c6
       try clear c9
       try clear c9b0
       try clear c9b1
       try clear c10
       try clear c11
       try clear c11b0
       try clear c11b1
       try clear c12
       try clear c13
       try clear c22
       try clear c23
       try clear p2
       obtain ⟨kq,x62_15,x528000_15,x528001_15,x528002_15,x533000_15,x533001_15,x533002_15,rfl,HA,HJ15,HI527,HI532,HB⟩:=hcut
       (try simp only [i64_w,i32_w])
       cases kq with
       | zero => exact absurd HA.out (by simp [madrigallaw22_ResampReset.j1])
       | succ kj15 =>
        have H:=HA.out
        clear HA
        simp only [madrigallaw22_ResampReset.j1] at H
        by_cases c24 : x62_15 = true
        ·subst c24
         have H1 : (none) = some r:=by rw [if_pos rfl] at H;exact H
         clear H
         have H:=H1
         clear H1
         exact absurd H (by simp)
        ·replace c24:=Bool.eq_false_iff.mpr c24
         subst c24
         have H1 : ((resamp_Sampler_Run.f kj15 x528000_15 x528001_15 x528002_15 l3).bind fun bt546 => ((resamp_Sampler_Run.f kj15 x533000_15 x533001_15 x533002_15 l3).bind fun bt553 => (if bt546.2.1 = bt553.2.1 then ((madrigallaw22_same.f kj15 bt546.1 bt553.1).bind fun t560 => (if t560 = true then ((resamp_Sampler_Same.f bt546.2.2.1 bt546.2.2.2.1 bt546.2.2.2.2 bt553.2.2.1 bt553.2.2.2.1 bt553.2.2.2.2).bind fun t561 => (some t561)) else (none))) else (none)))) = some r:=by rw [if_neg (show ¬ (false = true) by decide)] at H;exact H
         clear H
         have H:=H1
         clear H1
         replace H:=Option.bind_eq_some_iff.mp H
         obtain ⟨⟨t546,t549,t550,t551,t552⟩,A250,H⟩:=H
         (try dsimp only at H)
         have A25:=ak_ A250
         clear A250
         replace H:=Option.bind_eq_some_iff.mp H
         obtain ⟨⟨t553,t556,t557,t558,t559⟩,A260,H⟩:=H
         (try dsimp only at H)
         have A26:=ak_ A260
         clear A260
         by_cases c27 : t549 = t556
         ·rw [if_pos c27] at H
          have c27b0 : (t549 == t556) = true:=beq_iff_eq.mpr c27
          have c27b1 : (t549 != t556) = false:=bne_eq_false_iff_eq.mpr c27
          clear c27
          replace H:=Option.bind_eq_some_iff.mp H
          obtain ⟨t560,A280,H⟩:=H
          (try dsimp only at H)
          have A28:=ak_ A280
          clear A280
          by_cases c29 : t560 = true
          ·subst c29
           have H1 : ((resamp_Sampler_Same.f t550 t551 t552 t557 t558 t559).bind fun t561 => (some t561)) = some r:=by rw [if_pos rfl] at H;exact H
           clear H
           have H:=H1
           clear H1
           replace H:=Option.bind_eq_some_iff.mp H
           obtain ⟨t561,A300,H⟩:=H
           (try dsimp only at H)
           have A30:=ak_ A300
           clear A300
           obtain rfl:=Option.some.inj H
           go_wp2_with (first|((with_reducible refine gate_callee (f:=13) rfl ?_);refine goesL_ (some 66) rfl rfl Try.func13 (by kernel_rfl) rfl #[.pointer (some ⟨g527,0,none⟩),.slice A3 l3.length c3] rfl (by (try simp only [List.map_toArray,List.map_cons,List.map_nil]);first|done|rfl|(simp only [List.length_drop,List.length_take];rfl)) ?_;(with_reducible refine (resamp_Sampler_Run.calls kj15 g527 x528000_15 x528001_15 x528002_15 _ _ l3 t546 t549 t550 t551 t552 w _ ?side1 ?side2 ?side3 ?side4 ?side5 A25.out).mono ?_);(case side1 => repeat (first|(with_reducible first|exact HI527.out|apply IsS53.alloc|apply IsS53.drewN|apply IsS53.drew)|exact HI527.out));(case side2 => repeat (first|(with_reducible first|exact HB.out|apply ba_|apply bb_|apply bc_|refine below_set ?_ (IsS53.ge HI527.out)|refine below_set ?_ (IsS53.ge HI532.out))|exact HB.out));(case side3 => repeat (first|exact (Kd.C_below HR3.out HB.out)|(with_reducible refine Kd.C_alloc ?_ _)|(with_reducible refine Kd.C_drewN ?_ _)|(with_reducible refine Kd.C_drew ?_)));(case side4 => exact HC3.out);(case side5 => exact Kd.far_C 0 HR3.out (IsS53.ge HI527.out));rintro e w31 ⟨v547,rfl,ho0,hi,hb,hk⟩;refine ⟨_,rfl,?_⟩;have n0_:=ak_ (IsS53.keepB (show IsS53 w _ g532 x533000_15 x533001_15 x533002_15 from by repeat (first|(with_reducible first|exact HI532.out|apply IsS53.alloc|apply IsS53.drewN|apply IsS53.drew)|exact HI532.out)) hk NS532_527.out);have n1_:=ak_ (Kd.R_lower ho0 (below_size (by repeat (first|(with_reducible first|exact HB.out|apply ba_|apply bb_|apply bc_|refine below_set ?_ (IsS53.ge HI527.out)|refine below_set ?_ (IsS53.ge HI532.out))|exact HB.out))));have n2_:=ak_ (hb);have n3_:=ak_ (hi);clear HI532;clear HB;clear HI527;have HI532:=n0_;have HO548:=n1_;have HB:=n2_;have HI527:=n3_;clear n0_ n1_ n2_ n3_;(try clear hb);(try clear hk);(try clear hi);(try clear ho0))|((with_reducible refine gate_callee (f:=13) rfl ?_);refine goesL_ (some 72) rfl rfl Try.func13 (by kernel_rfl) rfl #[.pointer (some ⟨g532,0,none⟩),.slice A3 l3.length c3] rfl (by (try simp only [List.map_toArray,List.map_cons,List.map_nil]);first|done|rfl|(simp only [List.length_drop,List.length_take];rfl)) ?_;(with_reducible refine (resamp_Sampler_Run.calls kj15 g532 x533000_15 x533001_15 x533002_15 _ _ l3 t553 t556 t557 t558 t559 w _ ?side1 ?side2 ?side3 ?side4 ?side5 A26.out).mono ?_);(case side1 => repeat (first|(with_reducible first|exact HI532.out|apply IsS53.alloc|apply IsS53.drewN|apply IsS53.drew)|exact HI532.out));(case side2 => repeat (first|(with_reducible first|exact HB.out|apply ba_|apply bb_|apply bc_|refine below_set ?_ (IsS53.ge HI527.out)|refine below_set ?_ (IsS53.ge HI532.out))|exact HB.out));(case side3 => repeat (first|exact (Kd.C_below HR3.out HB.out)|(with_reducible refine Kd.C_alloc ?_ _)|(with_reducible refine Kd.C_drewN ?_ _)|(with_reducible refine Kd.C_drew ?_)));(case side4 => exact HC3.out);(case side5 => exact Kd.far_C 0 HR3.out (IsS53.ge HI532.out));rintro e w32 ⟨v554,rfl,ho0,hi,hb,hk⟩;refine ⟨_,rfl,?_⟩;have n0_:=ak_ (IsS53.keepB (show IsS53 w _ g527 t550 t551 t552 from by repeat (first|(with_reducible first|exact HI527.out|apply IsS53.alloc|apply IsS53.drewN|apply IsS53.drew)|exact HI527.out)) hk (Ne.symm NS532_527.out));have n1_:=ak_ (Kd.R_mono (Kd.R_told (Kd.R_oldK (IsS53.apart (show IsS53 w _ g532 x533000_15 x533001_15 x533002_15 from by repeat (first|(with_reducible first|exact HI532.out|apply IsS53.alloc|apply IsS53.drewN|apply IsS53.drew)|exact HI532.out)) (by (with_reducible repeat (first|apply ra_|apply rb_|apply rc_));exact HO548.out) (by decide)) hk) (Kd.R_base ho0)) (fun _ h_ => h_.1));have n2_:=ak_ (Kd.R_lower (Kd.R_new' ho0 (Kd.R_lt (by (with_reducible repeat (first|apply ra_|apply rb_|apply rc_));exact HO548.out))) (below_size (by repeat (first|(with_reducible first|exact HB.out|apply ba_|apply bb_|apply bc_|refine below_set ?_ (IsS53.ge HI527.out)|refine below_set ?_ (IsS53.ge HI532.out))|exact HB.out))));have n3_:=ak_ (hb);have n4_:=ak_ (hi);clear HI527;clear HO548;clear HB;clear HI532;have HI527:=n0_;have HO548:=n1_;have HO555:=n2_;have HB:=n3_;have HI532:=n4_;clear n0_ n1_ n2_ n3_ n4_;(try clear hb);(try clear hk);(try clear hi);(try clear ho0);obtain ⟨Ao33,co33,eo33⟩:=Kd.R_slice HO548.out;subst eo33;obtain ⟨Ao34,co34,eo34⟩:=Kd.R_slice HO555.out;subst eo34)|(go_at_call 18;(with_reducible refine (madrigallaw22_same.calls kj15 _ _ t546 _ _ t553 true _ ?side1 ?side2 ?side3 ?side4 A28.out).mono ?_);(case side1 => repeat (first|exact (Kd.R_reads' HO548.out).2.2|(with_reducible refine Kd.C_alloc ?_ _)|(with_reducible refine Kd.C_drewN ?_ _)|(with_reducible refine Kd.C_drew ?_)));(case side2 => exact (Kd.R_reads' HO548.out).2.1);(case side3 => repeat (first|exact (Kd.R_reads' HO555.out).2.2|(with_reducible refine Kd.C_alloc ?_ _)|(with_reducible refine Kd.C_drewN ?_ _)|(with_reducible refine Kd.C_drew ?_)));(case side4 => exact (Kd.R_reads' HO555.out).2.1);rintro e w' ⟨rfl,⟨nd,rfl⟩⟩)|(go_at_call 23;(with_reducible refine (resamp_Sampler_Same.calls g527 t550 t551 t552 g532 t557 t558 t559 t561 w _ ?side1 ?side2 ?side3 A30.out).mono ?_);(case side1 => repeat (first|(with_reducible first|exact HI527.out|apply IsS53.alloc|apply IsS53.drewN|apply IsS53.drew)|exact HI527.out));(case side2 => repeat (first|(with_reducible first|exact HI532.out|apply IsS53.alloc|apply IsS53.drewN|apply IsS53.drew)|exact HI532.out));(case side3 => repeat (first|(with_reducible first|exact HB.out|apply ba_|apply bb_|apply bc_|refine below_set ?_ (IsS53.ge HI527.out)|refine below_set ?_ (IsS53.ge HI532.out))|exact HB.out));rintro e w' ⟨rfl,⟨nd,rfl⟩⟩))
           go_ret
           exact ⟨by first|rfl|(simp [errW_none,errW_some] <;> rfl)|(simp [*,errW_none,errW_some] <;> rfl),by repeat (first|(with_reducible first|exact HB.out|apply ba_|apply bb_|apply bc_|refine below_set ?_ (IsS53.ge HI527.out)|refine below_set ?_ (IsS53.ge HI532.out))|exact HB.out)⟩
          ·replace c29:=Bool.eq_false_iff.mpr c29
           subst c29
           have H1 : (none) = some r:=by rw [if_neg (show ¬ (false = true) by decide)] at H;exact H
           clear H
           have H:=H1
           clear H1
           exact absurd H (by simp)
         ·rw [if_neg c27] at H
          exact absurd H (by simp)
     ·rw [if_neg c11] at H
      have c11b0 : (resamp_Good.f a0 a1 == some true) = false:=beq_eq_false_iff_ne.mpr c11
      have c11b1 : (resamp_Good.f a0 a1 != some true) = true:=bne_iff_ne.mpr c11
      replace H:=Option.bind_eq_some_iff.mp H
      obtain ⟨t563,A350,H⟩:=H
      (try dsimp only at H)
      have A35:=ak_ A350
      clear A350
      replace H:=Option.bind_eq_some_iff.mp H
      obtain ⟨t565,A360,H⟩:=H
      (try dsimp only at H)
      have A36:=ak_ A360
      clear A360
      obtain rfl:=Option.some.inj H
      go_wp2_with (first|((with_reducible refine gate_callee (f:=12) rfl ?_);refine goesL_ (some 30) rfl rfl Try.func12 (by kernel_rfl) rfl #[.int .i64 a0,.int .i64 a1] rfl (by (try simp only [List.map_toArray,List.map_cons,List.map_nil]);first|done|rfl|(simp only [List.length_drop,List.length_take];rfl)) ?_;(with_reducible refine (resamp_New0.calls a0 a1 t563 _ A35.out).mono ?_);rintro e w' ⟨rfl,⟨nd,rfl⟩⟩;refine ⟨_,rfl,?_⟩)|((with_reducible refine gate_callee (f:=12) rfl ?_);refine goesL_ (some 36) rfl rfl Try.func12 (by kernel_rfl) rfl #[.int .i64 a0,.int .i64 a1] rfl (by (try simp only [List.map_toArray,List.map_cons,List.map_nil]);first|done|rfl|(simp only [List.length_drop,List.length_take];rfl)) ?_;(with_reducible refine (resamp_New0.calls a0 a1 t565 _ A36.out).mono ?_);rintro e w' ⟨rfl,⟨nd,rfl⟩⟩;refine ⟨_,rfl,?_⟩))
      go_ret
      exact ⟨by first|rfl|(simp [errW_none,errW_some] <;> rfl)|(simp [*,errW_none,errW_some] <;> rfl),by repeat (first|(with_reducible first|exact HB.out|apply ba_|apply bb_|apply bc_)|exact HB.out)⟩
 ·replace c6:=Bool.eq_false_iff.mpr c6
  subst c6
  have H1 : (none) = some r:=by rw [if_neg (show ¬ (false = true) by decide)] at H;exact H
  clear H
  have H:=H1
  clear H1
  exact absurd H (by simp)

/-- THE ONE PURE STATEMENT of madrigallaw22_ResampReset. -/
def madrigallaw22_ResampReset.Pure : Prop:=∀ (a0 : Int) (a1 : Int) (l2 : List Int) (l3 : List Int),(Lit.int .i64 a0).wf = true → (Lit.int .i64 a1).wf = true → l2.length ≤ maxLen → l2.length * 8 ≤ 140737488351232 → (∀ x ∈ l2,(Lit.int .i64 x).wf = true) → l3.length ≤ maxLen → l3.length * 8 ≤ 140737488351232 → (∀ x ∈ l3,(Lit.int .i64 x).wf = true) → ∃ k,madrigallaw22_ResampReset.f k a0 a1 l2 l3 = some true
theorem madrigallaw22_ResampReset.walk (P : madrigallaw22_ResampReset.Pure) (a0 : Int) (a1 : Int) (a2 : Option Addr) (len2 cap2 : Nat) (z2 : List Int) (a3 : Option Addr) (len3 cap3 : Nat) (z3 : List Int) (w : World) (w0 : (Lit.int .i64 a0).wf = true) (w1 : (Lit.int .i64 a1).wf = true) (w2 : (a2 = none ∧ len2 = 0 ∧ cap2 = 0 ∧ z2 = []) ∨ ∃ x,a2 = some x ∧ len2 ≤ cap2 ∧ cap2 ≤ maxLen ∧ z2.length = cap2 ∧ (∀ i,i < z2.length → w.cell? (x.add i) = some (.int .i64 (z2.getD i 0))) ∧ ∀ n ∈ z2,(Lit.int .i64 n).wf = true) (y2 : len2 * 8 ≤ 140737488351232) (w3 : (a3 = none ∧ len3 = 0 ∧ cap3 = 0 ∧ z3 = []) ∨ ∃ x,a3 = some x ∧ len3 ≤ cap3 ∧ cap3 ≤ maxLen ∧ z3.length = cap3 ∧ (∀ i,i < z3.length → w.cell? (x.add i) = some (.int .i64 (z3.getD i 0))) ∧ ∀ n ∈ z3,(Lit.int .i64 n).wf = true) (y3 : len3 * 8 ≤ 140737488351232) :
  Calls Try.prog 9 #[.int .i64 a0,.int .i64 a1,.slice a2 len2 cap2,.slice a3 len3 cap3] w fun e w' => e = .returned (.bool true) ∧ Below w.heap.size w w':=by
 obtain ⟨l2,rfl,hr2,hm2,hw2,hc2⟩:=ReadsInt.ofRowC w2
 obtain ⟨l3,rfl,hr3,hm3,hw3,hc3⟩:=ReadsInt.ofRowC w3
 obtain ⟨k,h⟩:=P a0 a1 l2 l3 w0 w1 hm2 y2 hw2 hm3 y3 hw3
 refine (madrigallaw22_ResampReset.calls k a0 a1 _ _ l2 _ _ l3 true w (Kd.C_of_reads (d:=(0 : Int)) (h1:=fun _ => rfl) hr2) hc2 (Kd.C_of_reads (d:=(0 : Int)) (h1:=fun _ => rfl) hr3) hc3 h).mono ?_
 rintro e w' ⟨rfl,hd⟩
 exact ⟨rfl,hd⟩

end Go.Proofs.Ytcicenmmpbgmoaa.P
