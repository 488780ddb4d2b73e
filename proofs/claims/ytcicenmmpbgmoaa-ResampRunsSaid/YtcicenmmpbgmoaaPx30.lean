/- The machine side of the laws of one chapter, without conditions: each call of a Go function comes to what the Lean function of its name answers. Written for this claim by a program of the prover. -/
import Derived.Test.YtcicenmmpbgmoaaPx0
import Derived.Test.YtcicenmmpbgmoaaPx1
import Derived.Test.YtcicenmmpbgmoaaPx2
import Derived.Test.YtcicenmmpbgmoaaPx11
import Derived.Test.YtcicenmmpbgmoaaPx12
import Derived.Test.YtcicenmmpbgmoaaPx13
import Derived.Test.YtcicenmmpbgmoaaPx15
import Derived.Test.YtcicenmmpbgmoaaPx17
import Derived.Test.YtcicenmmpbgmoaaPx18
import Derived.Test.YtcicenmmpbgmoaaPx27
import Derived.Test.YtcicenmmpbgmoaaPx29
namespace Go.Proofs.Ytcicenmmpbgmoaa.P
open Go.RowKit Go.Proofs.YtcicenmmpbgmoaaW.PrintWords Go.Proofs.YtcicenmmpbgmoaaW.PrintLast Go.Proofs.YtcicenmmpbgmoaaW.PrintMore
attribute [local go_sem] max2_int min2_int max_two min_two max_three min_three max_four min_four   -- for this text's walks alone
set_option linter.unusedVariables false
set_option linter.unusedSimpArgs false

/-! ### madrigallaw22_ResampRuns: function 5 -/
mutual
def madrigallaw22_ResampRuns.j0 : Nat → Int → Int → List (List Int) → Bool → Int → Int → List Int → Option (Bool)
 | 0,_,_,_,_,_,_,_ => none
 | k + 1,x0,x1,x2,x36,x388000,x388001,x388002 => if x36 = true then (none) else ((madrigalref10_NewSampler.f x0 x1).bind fun bt391 => ((madrigalref10_Parts.f k x0 x1).bind fun bt395 => (madrigallaw22_ResampRuns.l0 k x2 bt395.2 0 x388000 x388001 x388002 bt391.1 bt391.2.1 bt391.2.2)))
def madrigallaw22_ResampRuns.l0 : Nat → List (List Int) → Int → Int → Int → Int → List Int → Int → Int → List Int → Option (Bool)
 | 0,_,_,_,_,_,_,_,_,_ => none
 | k + 1,x2,x11,x12,x388000,x388001,x388002,x395000,x395001,x395002 => if x12 < (x2.length : Int) then (if 0 ≤ x12 then (if ((rd_L1 x2 x12).length : Int) > 500 then (some true) else ((resamp_Sampler_Copy.f x388000 x388001 x388002).bind fun bt398 => ((some (([] : List Int) : List Int)).bind fun y402 => (if y402.length + (rd_L1 x2 x12).length < 17592186044416 then ((resamp_Sampler_Run.f k x388000 x388001 x388002 (y402 ++ (rd_L1 x2 x12))).bind fun bt409 => (if x11 = 0 then (none) else (if (((rd_L1 x2 x12).length : Int) % x11) = 0 then (if bt409.2.1 = 0 then ((madrigalref10_Sampler_Run.f k x395000 x395001 x395002 (rd_L1 x2 x12)).bind fun bt419 => ((madrigallaw22_same.f k bt409.1 bt419.1).bind fun t425 => (madrigallaw22_ResampRuns.j2 k x2 x11 x12 bt409.1 (!t425) bt409.2.2.1 bt409.2.2.2.1 bt409.2.2.2.2 bt419.2.1 bt419.2.2.1 bt419.2.2.2 bt398.1 bt398.2.1 bt398.2.2))) else (madrigallaw22_ResampRuns.j2 k x2 x11 x12 bt409.1 true bt409.2.2.1 bt409.2.2.2.1 bt409.2.2.2.2 x395000 x395001 x395002 bt398.1 bt398.2.1 bt398.2.2)) else (if bt409.2.1 = 1 then (if (bt409.1.length : Int) = 0 then ((resamp_Sampler_Same.f bt409.2.2.1 bt409.2.2.2.1 bt409.2.2.2.2 bt398.1 bt398.2.1 bt398.2.2).bind fun t417 => (if t417 = true then (madrigallaw22_ResampRuns.l0 k x2 x11 (wrap64 (x12 + 1)) bt409.2.2.1 bt409.2.2.2.1 bt409.2.2.2.2 x395000 x395001 x395002) else (none))) else (none)) else (none))))) else (none))))) else (none)) else (some true)
def madrigallaw22_ResampRuns.j2 : Nat → List (List Int) → Int → Int → List Int → Bool → Int → Int → List Int → Int → Int → List Int → Int → Int → List Int → Option (Bool)
 | 0,_,_,_,_,_,_,_,_,_,_,_,_,_,_ => none
 | k + 1,x2,x11,x12,x14,x116,x388000,x388001,x388002,x395000,x395001,x395002,x402000,x402001,x402002 => if x116 = true then (none) else (if 0 ≤ x12 then (if x12 < (x2.length : Int) then ((resamp_Sampler_Run.f k x402000 x402001 x402002 (rd_L1 x2 x12)).bind fun bt427 => ((madrigallaw22_same.f k x14 bt427.1).bind fun t434 => (if t434 = true then ((resamp_Sampler_Same.f bt427.2.2.1 bt427.2.2.2.1 bt427.2.2.2.2 x388000 x388001 x388002).bind fun t435 => (if t435 = true then (madrigallaw22_ResampRuns.l0 k x2 x11 (wrap64 (x12 + 1)) x388000 x388001 x388002 x395000 x395001 x395002) else (none))) else (none)))) else (none)) else (none))
def madrigallaw22_ResampRuns.j3 : Nat → Bool → Option (Bool)
 | 0,_ => none
 | k + 1,x36 => if x36 = true then (some true) else (none)
end
def madrigallaw22_ResampRuns.f (k : Nat) (a0 : Int) (a1 : Int) (l2 : List (List Int)) : Option (Bool):=(madrigallaw22_awake.f k).bind fun t383 => (if t383 = true then (if (l2.length : Int) > 8 then (some true) else (if resamp_Good.f a0 a1 = some true then ((resamp_New1.f a0 a1).bind fun bt384 => ((madrigalref10_Known.f a0).bind fun t389 => (if t389 = true then ((madrigalref10_Known.f a1).bind fun t390 => (madrigallaw22_ResampRuns.j0 k a0 a1 l2 (!t390) bt384.1 bt384.2.1 bt384.2.2.1)) else (madrigallaw22_ResampRuns.j0 k a0 a1 l2 true bt384.1 bt384.2.1 bt384.2.2.1)))) else ((resamp_New0.f a0 a1).bind fun t437 => ((madrigalref10_Known.f a0).bind fun t438 => (if t438 = true then ((madrigalref10_Known.f a1).bind fun t439 => (madrigallaw22_ResampRuns.j3 k (!t439))) else (madrigallaw22_ResampRuns.j3 k true)))))) else (none))
theorem madrigallaw22_ResampRuns.mono_l : ∀ k,(∀ y0 y1 y2 y3 y4 y5 y6,LeO (madrigallaw22_ResampRuns.j0 k y0 y1 y2 y3 y4 y5 y6) (madrigallaw22_ResampRuns.j0 (k + 1) y0 y1 y2 y3 y4 y5 y6)) ∧ (∀ y0 y1 y2 y3 y4 y5 y6 y7 y8,LeO (madrigallaw22_ResampRuns.l0 k y0 y1 y2 y3 y4 y5 y6 y7 y8) (madrigallaw22_ResampRuns.l0 (k + 1) y0 y1 y2 y3 y4 y5 y6 y7 y8)) ∧ (∀ y0 y1 y2 y3 y4 y5 y6 y7 y8 y9 y10 y11 y12 y13,LeO (madrigallaw22_ResampRuns.j2 k y0 y1 y2 y3 y4 y5 y6 y7 y8 y9 y10 y11 y12 y13) (madrigallaw22_ResampRuns.j2 (k + 1) y0 y1 y2 y3 y4 y5 y6 y7 y8 y9 y10 y11 y12 y13)) ∧ (∀ y0,LeO (madrigallaw22_ResampRuns.j3 k y0) (madrigallaw22_ResampRuns.j3 (k + 1) y0))
 | 0 => ⟨fun _ _ _ _ _ _ _ r h => by simp [madrigallaw22_ResampRuns.j0] at h,fun _ _ _ _ _ _ _ _ _ r h => by simp [madrigallaw22_ResampRuns.l0] at h,fun _ _ _ _ _ _ _ _ _ _ _ _ _ _ r h => by simp [madrigallaw22_ResampRuns.j2] at h,fun _ r h => by simp [madrigallaw22_ResampRuns.j3] at h⟩
 | k + 1 => by
  obtain ⟨ih0,ih1,ih2,ih3⟩:=madrigallaw22_ResampRuns.mono_l k
  refine ⟨?_,?_,?_,?_⟩
  all_goals (intros;first|unfold madrigallaw22_ResampRuns.j0|unfold madrigallaw22_ResampRuns.l0|unfold madrigallaw22_ResampRuns.j2|unfold madrigallaw22_ResampRuns.j3)
  all_goals (repeat' first|(with_reducible first|exact ih0 _ _ _ _ _ _ _|exact ih1 _ _ _ _ _ _ _ _ _|exact ih2 _ _ _ _ _ _ _ _ _ _ _ _ _ _|exact ih3 _|exact madrigallaw22_awake.mono _|exact madrigallaw22_same.mono _ _ _|exact madrigalref10_Parts.mono _ _ _|exact madrigalref10_Sampler_Run.mono _ _ _ _ _|exact resamp_Sampler_Run.mono _ _ _ _ _|exact LeO.refl _|exact LeO.none _|refine LeO.ite ?_ ?_|refine LeO.bind ?_ (fun _ => ?_))|exact ih0 _ _ _ _ _ _ _|exact ih1 _ _ _ _ _ _ _ _ _|exact ih2 _ _ _ _ _ _ _ _ _ _ _ _ _ _|exact ih3 _|exact madrigallaw22_awake.mono _|exact madrigallaw22_same.mono _ _ _|exact madrigalref10_Parts.mono _ _ _|exact madrigalref10_Sampler_Run.mono _ _ _ _ _|exact resamp_Sampler_Run.mono _ _ _ _ _|exact LeO.none _|refine LeO.ite ?_ ?_|refine LeO.bind ?_ (fun _ => ?_))
theorem madrigallaw22_ResampRuns.mono : ∀ a0 a1 a2 k,LeO (madrigallaw22_ResampRuns.f k a0 a1 a2) (madrigallaw22_ResampRuns.f (k + 1) a0 a1 a2):=by
 intro a0 a1 a2 k
 obtain ⟨ih0,ih1,ih2,ih3⟩:=madrigallaw22_ResampRuns.mono_l k
 unfold madrigallaw22_ResampRuns.f
 repeat' first|(with_reducible first|exact ih0 _ _ _ _ _ _ _|exact ih1 _ _ _ _ _ _ _ _ _|exact ih2 _ _ _ _ _ _ _ _ _ _ _ _ _ _|exact ih3 _|exact madrigallaw22_awake.mono _|exact madrigallaw22_same.mono _ _ _|exact madrigalref10_Parts.mono _ _ _|exact madrigalref10_Sampler_Run.mono _ _ _ _ _|exact resamp_Sampler_Run.mono _ _ _ _ _|exact LeO.refl _|exact LeO.none _|refine LeO.ite ?_ ?_|refine LeO.bind ?_ (fun _ => ?_))|exact ih0 _ _ _ _ _ _ _|exact ih1 _ _ _ _ _ _ _ _ _|exact ih2 _ _ _ _ _ _ _ _ _ _ _ _ _ _|exact ih3 _|exact madrigallaw22_awake.mono _|exact madrigallaw22_same.mono _ _ _|exact madrigalref10_Parts.mono _ _ _|exact madrigalref10_Sampler_Run.mono _ _ _ _ _|exact resamp_Sampler_Run.mono _ _ _ _ _|exact LeO.none _|refine LeO.ite ?_ ?_|refine LeO.bind ?_ (fun _ => ?_)
set_option maxHeartbeats 8000000 in
set_option maxRecDepth 100000 in
theorem madrigallaw22_ResampRuns.calls (k : Nat) (a0 : Int) (a1 : Int) (A2 : Option Addr) (c2 : Nat) (l2 : List (List Int)) (r : Bool) (w : World) (hr2 : Kd.C (Kd.slice 2 (Kd.int .i64)) w A2 l2.length l2) (hc2 : l2.length ≤ c2) (h : madrigallaw22_ResampRuns.f k a0 a1 l2 = some r) :
  Calls Try.prog 5 #[.int .i64 a0,.int .i64 a1,.slice A2 l2.length c2] w fun e w' => e = .returned (.bool r) ∧ Below w.heap.size w w':=by
 have HR2:=ak_ hr2
 have HC2:=ak_ hc2
 clear hr2 hc2
 have HB:=ak_ (Below.refl w.heap.size w)
 have H : ((madrigallaw22_awake.f k).bind fun t383 => (if t383 = true then (if (l2.length : Int) > 8 then (some true) else (if resamp_Good.f a0 a1 = some true then ((resamp_New1.f a0 a1).bind fun bt384 => ((madrigalref10_Known.f a0).bind fun t389 => (if t389 = true then ((madrigalref10_Known.f a1).bind fun t390 => (madrigallaw22_ResampRuns.j0 k a0 a1 l2 (!t390) bt384.1 bt384.2.1 bt384.2.2.1)) else (madrigallaw22_ResampRuns.j0 k a0 a1 l2 true bt384.1 bt384.2.1 bt384.2.2.1)))) else ((resamp_New0.f a0 a1).bind fun t437 => ((madrigalref10_Known.f a0).bind fun t438 => (if t438 = true then ((madrigalref10_Known.f a1).bind fun t439 => (madrigallaw22_ResampRuns.j3 k (!t439))) else (madrigallaw22_ResampRuns.j3 k true)))))) else (none))) = some r:=h
 clear h
 replace H:=Option.bind_eq_some_iff.mp H
 obtain ⟨t383,A40,H⟩:=H
 (try dsimp only at H)
 have A4:=ak_ A40
 clear A40
 by_cases c5 : t383 = true
 ·subst c5
  have H1 : (if (l2.length : Int) > 8 then (some true) else (if resamp_Good.f a0 a1 = some true then ((resamp_New1.f a0 a1).bind fun bt384 => ((madrigalref10_Known.f a0).bind fun t389 => (if t389 = true then ((madrigalref10_Known.f a1).bind fun t390 => (madrigallaw22_ResampRuns.j0 k a0 a1 l2 (!t390) bt384.1 bt384.2.1 bt384.2.2.1)) else (madrigallaw22_ResampRuns.j0 k a0 a1 l2 true bt384.1 bt384.2.1 bt384.2.2.1)))) else ((resamp_New0.f a0 a1).bind fun t437 => ((madrigalref10_Known.f a0).bind fun t438 => (if t438 = true then ((madrigalref10_Known.f a1).bind fun t439 => (madrigallaw22_ResampRuns.j3 k (!t439))) else (madrigallaw22_ResampRuns.j3 k true)))))) = some r:=by rw [if_pos rfl] at H;exact H
  clear H
  have H:=H1
  clear H1
  by_cases c6 : (l2.length : Int) > 8
  ·rw [if_pos c6] at H
   have c6b0 : decide (8 < (l2.length : Int)) = true:=decide_eq_true c6
   have c6b1 : decide (8 < l2.length) = true:=decide_eq_true (by omega)
   clear c6
   obtain rfl:=Option.some.inj H
   go_enter Try.func5,Try.ntmps5
   go_wp2_with (first|((with_reducible refine gate_callee (f:=11) rfl ?_);refine goesL_ (some 18) rfl rfl Try.func11 (by kernel_rfl) rfl #[] rfl (by (try simp only [List.map_toArray,List.map_cons,List.map_nil]);first|done|rfl|(simp only [List.length_drop,List.length_take];rfl)) ?_;(with_reducible refine (madrigallaw22_awake.calls k  true _ A4.out).mono ?_);rintro e w7 ⟨rfl,hb⟩;refine ⟨_,rfl,?_⟩;have n0_:=ak_ (below_step (by repeat (first|(with_reducible first|exact HB.out|apply ba_|apply bb_|apply bc_)|exact HB.out)) hb);clear HB;have HB:=n0_;clear n0_;(try clear hb)))
   go_ret
   exact ⟨by first|rfl|(simp [errW_none,errW_some] <;> rfl)|(simp [*,errW_none,errW_some] <;> rfl),by repeat (first|(with_reducible first|exact HB.out|apply ba_|apply bb_|apply bc_)|exact HB.out)⟩
  ·rw [if_neg c6] at H
   have c6b0 : decide (8 < (l2.length : Int)) = false:=decide_eq_false c6
   have c6b1 : decide (8 < l2.length) = false:=decide_eq_false (by omega)
   clear c6
   by_cases c8 : resamp_Good.f a0 a1 = some true
   ·rw [if_pos c8] at H
    have c8b0 : (resamp_Good.f a0 a1 == some true) = true:=beq_iff_eq.mpr c8
    have c8b1 : (resamp_Good.f a0 a1 != some true) = false:=bne_eq_false_iff_eq.mpr c8
    clear c8
    replace H:=Option.bind_eq_some_iff.mp H
    obtain ⟨⟨t384,t385,t386,t388⟩,A90,H⟩:=H
    (try dsimp only at H)
    have A9:=ak_ A90
    clear A90
    have HC10:=ak_ H
    clear H
    go_enter Try.func5,Try.ntmps5
    go_upto_region 6 with (first|((with_reducible refine gate_callee (f:=11) rfl ?_);refine goesL_ (some 18) rfl rfl Try.func11 (by kernel_rfl) rfl #[] rfl (by (try simp only [List.map_toArray,List.map_cons,List.map_nil]);first|done|rfl|(simp only [List.length_drop,List.length_take];rfl)) ?_;(with_reducible refine (madrigallaw22_awake.calls k  true _ A4.out).mono ?_);rintro e w11 ⟨rfl,hb⟩;refine ⟨_,rfl,?_⟩;have n0_:=ak_ (below_step (by repeat (first|(with_reducible first|exact HB.out|apply ba_|apply bb_|apply bc_)|exact HB.out)) hb);clear HB;have HB:=n0_;clear n0_;(try clear hb))|((with_reducible refine gate_callee (f:=12) rfl ?_);refine goesL_ (some 26) rfl rfl Try.func12 (by kernel_rfl) rfl #[.int .i64 a0,.int .i64 a1] rfl (by (try simp only [List.map_toArray,List.map_cons,List.map_nil]);first|done|rfl|(simp only [List.length_drop,List.length_take];rfl)) ?_;(with_reducible refine (resamp_New1.calls a0 a1 t384 t385 t386 t388 w _ ?side1 A9.out).mono ?_);(case side1 => repeat (first|(with_reducible first|exact HB.out|apply ba_|apply bb_|apply bc_)|exact HB.out));rintro e w12 ⟨g387,rfl,hi,hb,hb2,hge⟩;refine ⟨_,rfl,?_⟩;have n0_:=ak_ (hb);have n1_:=ak_ (hi);clear HB;have HB:=n0_;have HI387:=n1_;clear n0_ n1_;(try clear hb);(try clear hb2);(try clear hi);(try clear hge)))
    (try simp only [Act.put,List.setIfInBounds_toArray,List.set_cons_zero,List.set_cons_succ])
    go_cut [36] (fun v36 wc => ∃ (kq : Nat) (x36_9 : Bool),v36 = .bool x36_9 ∧ Aside0 (madrigallaw22_ResampRuns.j0 kq a0 a1 l2 x36_9 t384 t385 t386 = some r) ∧ Aside0 (kq ≤ k) ∧ Aside0 (IsS53 w wc g387 t384 t385 t386) ∧ Aside0 (Below w.heap.size w wc))
    case first =>
     have H:=HC10.out
     clear HC10
     replace H:=Option.bind_eq_some_iff.mp H
     obtain ⟨t389,A130,H⟩:=H
     (try dsimp only at H)
     have A13:=ak_ A130
     clear A130
     by_cases c14 : t389 = true
     ·subst c14
      have H1 : ((madrigalref10_Known.f a1).bind fun t390 => (madrigallaw22_ResampRuns.j0 k a0 a1 l2 (!t390) t384 t385 t386)) = some r:=by rw [if_pos rfl] at H;exact H
      clear H
      have H:=H1
      clear H1
      replace H:=Option.bind_eq_some_iff.mp H
      obtain ⟨t390,A150,H⟩:=H
      (try dsimp only at H)
      have A15:=ak_ A150
      clear A150
      have H':=ak_ H
      clear H
      go_wp2_with (first|((with_reducible refine gate_callee (f:=15) rfl ?_);refine goesL_ (some 30) rfl rfl Try.func15 (by kernel_rfl) rfl #[.int .i64 a0] rfl (by (try simp only [List.map_toArray,List.map_cons,List.map_nil]);first|done|rfl|(simp only [List.length_drop,List.length_take];rfl)) ?_;(with_reducible refine (madrigalref10_Known.calls a0 true _ A13.out).mono ?_);rintro e w' ⟨rfl,⟨nd,rfl⟩⟩;refine ⟨_,rfl,?_⟩)|(go_at_call 15;(with_reducible refine (madrigalref10_Known.calls a1 t390 _ A15.out).mono ?_);rintro e w' ⟨rfl,⟨nd,rfl⟩⟩))
      go_meet
      case rel => exact ⟨_,(!t390),(by first|rfl|(simp;done)|(simp [*];done)),H',⟨by first|omega|exact Nat.le_refl _⟩,⟨by repeat (first|(with_reducible first|exact HI387.out|apply IsS53.alloc|apply IsS53.drewN|apply IsS53.drew)|exact HI387.out)⟩,⟨by repeat (first|(with_reducible first|exact HB.out|apply ba_|apply bb_|apply bc_|refine below_set ?_ (IsS53.ge HI387.out))|exact HB.out)⟩⟩
     ·replace c14:=Bool.eq_false_iff.mpr c14
      subst c14
      have H1 : (madrigallaw22_ResampRuns.j0 k a0 a1 l2 true t384 t385 t386) = some r:=by rw [if_neg (show ¬ (false = true) by decide)] at H;exact H
      clear H
      have H:=H1
      clear H1
      have H':=ak_ H
      clear H
      go_wp2_with (first|((with_reducible refine gate_callee (f:=15) rfl ?_);refine goesL_ (some 30) rfl rfl Try.func15 (by kernel_rfl) rfl #[.int .i64 a0] rfl (by (try simp only [List.map_toArray,List.map_cons,List.map_nil]);first|done|rfl|(simp only [List.length_drop,List.length_take];rfl)) ?_;(with_reducible refine (madrigalref10_Known.calls a0 false _ A13.out).mono ?_);rintro e w' ⟨rfl,⟨nd,rfl⟩⟩;refine ⟨_,rfl,?_⟩))
      go_meet
      case rel => exact ⟨_,(true),(by first|rfl|(simp;done)|(simp [*];done)),H',⟨by first|omega|exact Nat.le_refl _⟩,⟨by repeat (first|(with_reducible first|exact HI387.out|apply IsS53.alloc|apply IsS53.drewN|apply IsS53.drew)|exact HI387.out)⟩,⟨by repeat (first|(with_reducible first|exact HB.out|apply ba_|apply bb_|apply bc_|refine below_set ?_ (IsS53.ge HI387.out))|exact HB.out)⟩⟩
    case rest =>
     clear HC10
     try clear c1
     try clear c2
     try clear p2
     try clear c5
     try clear c6
     try clear c6b0
     try clear c6b1
     try clear c8
     try clear c8b0
     try clear c8b1
     try clear c11
     try clear c12
     try clear c14
     try clear c15
     obtain ⟨kq,x36_9,rfl,HA,HJ9,HI387,HB⟩:=hcut
     (try simp only [i64_w,i32_w])
     cases kq with
     | zero => exact absurd HA.out (by simp [madrigallaw22_ResampRuns.j0])
     | succ kj9 =>
      have H:=HA.out
      clear HA
      simp only [madrigallaw22_ResampRuns.j0] at H
      by_cases c16 : x36_9 = true
      ·subst c16
       have H1 : (none) = some r:=by rw [if_pos rfl] at H;exact H
       clear H
       have H:=H1
       clear H1
       exact absurd H (by simp)
      ·replace c16:=Bool.eq_false_iff.mpr c16
       subst c16
       have H1 : ((madrigalref10_NewSampler.f a0 a1).bind fun bt391 => ((madrigalref10_Parts.f kj9 a0 a1).bind fun bt395 => (madrigallaw22_ResampRuns.l0 kj9 l2 bt395.2 0 t384 t385 t386 bt391.1 bt391.2.1 bt391.2.2))) = some r:=by rw [if_neg (show ¬ (false = true) by decide)] at H;exact H
       clear H
       have H:=H1
       clear H1
       replace H:=Option.bind_eq_some_iff.mp H
       obtain ⟨⟨t391,t392,t393⟩,A170,H⟩:=H
       (try dsimp only at H)
       have A17:=ak_ A170
       clear A170
       replace H:=Option.bind_eq_some_iff.mp H
       obtain ⟨⟨t395,t396⟩,A180,H⟩:=H
       (try dsimp only at H)
       have A18:=ak_ A180
       clear A180
       have H':=ak_ H
       clear H
       go_wp2_with (first|((with_reducible refine gate_callee (f:=21) rfl ?_);refine goesL_ (some 51) rfl rfl Try.func21 (by kernel_rfl) rfl #[.int .i64 a0,.int .i64 a1] rfl (by (try simp only [List.map_toArray,List.map_cons,List.map_nil]);first|done|rfl|(simp only [List.length_drop,List.length_take];rfl)) ?_;(with_reducible refine (madrigalref10_NewSampler.calls a0 a1 t391 t392 t393 w _ ?side1 A17.out).mono ?_);(case side1 => repeat (first|(with_reducible first|exact HB.out|apply ba_|apply bb_|apply bc_|refine below_set ?_ (IsS53.ge HI387.out))|exact HB.out));rintro e w19 ⟨g394,rfl,hi,hb,hb2,hge⟩;refine ⟨_,rfl,?_⟩;have n0_:=ak_ (IsS53.below (by repeat (first|(with_reducible first|exact HI387.out|apply IsS53.alloc|apply IsS53.drewN|apply IsS53.drew)|exact HI387.out)) hb2);have n1_:=ak_ (Nat.ne_of_gt (Nat.lt_of_lt_of_le (IsS53.lt (show IsS53 w _ g387 t384 t385 t386 from by repeat (first|(with_reducible first|exact HI387.out|apply IsS53.alloc|apply IsS53.drewN|apply IsS53.drew)|exact HI387.out))) hge));have n2_:=ak_ (hb);have n3_:=ak_ (hi);clear HI387;clear HB;have HI387:=n0_;have NS394_387:=n1_;have HB:=n2_;have HI394:=n3_;clear n0_ n1_ n2_ n3_;(try clear hb);(try clear hb2);(try clear hi);(try clear hge))|((with_reducible refine gate_callee (f:=17) rfl ?_);refine goesL_ (some 55) rfl rfl Try.func17 (by kernel_rfl) rfl #[.int .i64 a0,.int .i64 a1] rfl (by (try simp only [List.map_toArray,List.map_cons,List.map_nil]);first|done|rfl|(simp only [List.length_drop,List.length_take];rfl)) ?_;(with_reducible refine (madrigalref10_Parts.calls kj9 a0 a1 t395 t396 _ A18.out).mono ?_);rintro e w' ⟨rfl,⟨nd,rfl⟩⟩;refine ⟨_,rfl,?_⟩))
       go_loopg [12] kj9 (fun kq v12 w' => ∃ (x12_2 : Int) (x388000_2 : Int) (x388001_2 : Int) (x388002_2 : List Int) (x395000_2 : Int) (x395001_2 : Int) (x395002_2 : List Int),v12 = .int .i64 x12_2 ∧ Aside0 (madrigallaw22_ResampRuns.l0 kq l2 t396 x12_2 x388000_2 x388001_2 x388002_2 x395000_2 x395001_2 x395002_2 = some r) ∧ Aside0 (kq ≤ kj9) ∧ Aside0 (IsS53 w w' g387 x388000_2 x388001_2 x388002_2) ∧ Aside0 (IsS58 w w' g394 x395000_2 x395001_2 x395002_2) ∧ Aside0 (Below w.heap.size w w'))
       case atStart => exact ⟨(0),(t384),(t385),(t386),(t391),(t392),(t393),(by first|rfl|(simp;done)|(simp [*];done)),H',⟨Nat.le_refl _⟩,⟨by repeat (first|(with_reducible first|exact HI387.out|apply IsS53.alloc|apply IsS53.drewN|apply IsS53.drew)|exact HI387.out)⟩,⟨by repeat (first|(with_reducible first|exact HI394.out|apply IsS58.alloc|apply IsS58.drewN|apply IsS58.drew)|exact HI394.out)⟩,⟨by repeat (first|(with_reducible first|exact HB.out|apply ba_|apply bb_|apply bc_|refine below_set ?_ (IsS53.ge HI387.out)|refine below_set ?_ (IsS58.ge HI394.out))|exact HB.out)⟩⟩
       case round =>
        clear H'
        try clear c1
        try clear c2
        try clear p2
        try clear c5
        try clear c6
        try clear c6b0
        try clear c6b1
        try clear c8
        try clear c8b0
        try clear c8b1
        try clear c11
        try clear c12
        try clear c14
        try clear c15
        try clear c16
        try clear c17
        try clear p2
        obtain ⟨x12_2,x388000_2,x388001_2,x388002_2,x395000_2,x395001_2,x395002_2,rfl,HA,HK2,HI387,HI394,HB⟩:=hrel
        (try simp only [i64_w,i32_w])
        cases gk with
        | zero => exact absurd HA.out (by simp [madrigallaw22_ResampRuns.l0])
        | succ k2 =>
         have H:=HA.out
         clear HA
         simp only [madrigallaw22_ResampRuns.l0] at H
         by_cases c20 : x12_2 < (l2.length : Int)
         ·rw [if_pos c20] at H
          have c20b0:=decide_eq_true c20
          clear c20
          by_cases c21 : 0 ≤ x12_2
          ·rw [if_pos c21] at H
           have c21b0:=decide_eq_true c21
           clear c21
           by_cases c22 : ((rd_L1 l2 x12_2).length : Int) > 500
           ·rw [if_pos c22] at H
            have c22b0 : decide (500 < ((rd_L1 l2 x12_2).length : Int)) = true:=decide_eq_true c22
            have c22b1 : decide (500 < (rd_L1 l2 x12_2).length) = true:=decide_eq_true (by omega)
            clear c22
            obtain rfl:=Option.some.inj H
            have p397 : 0 ≤ (x12_2 : Int):=of_decide_eq_true (by first|(with_reducible assumption)|assumption)
            have q397 : x12_2 < (l2.length : Int):=of_decide_eq_true (by first|(with_reducible assumption)|assumption)
            obtain ⟨ad397,A397_0,c397_0,e397,hx397_0,hl397_0,hi397_0⟩:=at_L1 HR2.out x12_2 p397 q397
            cases e397
            replace hx397_0:=(HB.out.cell (World.block_lt_of_cell? w _ hx397_0)).trans hx397_0;(try (have e_:=hx405_0.symm.trans hx397_0;injection e_ with e_;injection e_ with e1_ e2_ e3_;cases e1_;cases e3_));(try (have e_:=hx416_0.symm.trans hx397_0;injection e_ with e_;injection e_ with e1_ e2_ e3_;cases e1_;cases e3_));(try (have e_:=hx418_0.symm.trans hx397_0;injection e_ with e_;injection e_ with e1_ e2_ e3_;cases e1_;cases e3_));(try (have e_:=hx426_0.symm.trans hx397_0;injection e_ with e_;injection e_ with e1_ e2_ e3_;cases e1_;cases e3_))
            have HR397_0:=ak_ hi397_0
            have HC397_0:=ak_ hl397_0
            clear hi397_0 hl397_0
            replace p397:=eq_true p397
            replace q397:=eq_true q397
            go_wp2
            go_ret
            exact ⟨by first|rfl|(simp [errW_none,errW_some] <;> rfl)|(simp [*,errW_none,errW_some] <;> rfl),by repeat (first|(with_reducible first|exact HB.out|apply ba_|apply bb_|apply bc_|refine below_set ?_ (IsS53.ge HI387.out)|refine below_set ?_ (IsS58.ge HI394.out))|exact HB.out)⟩
           ·rw [if_neg c22] at H
            have c22b0 : decide (500 < ((rd_L1 l2 x12_2).length : Int)) = false:=decide_eq_false c22
            have c22b1 : decide (500 < (rd_L1 l2 x12_2).length) = false:=decide_eq_false (by omega)
            clear c22
            replace H:=Option.bind_eq_some_iff.mp H
            obtain ⟨⟨t398,t399,t400⟩,A230,H⟩:=H
            (try dsimp only at H)
            have A23:=ak_ A230
            clear A230
            obtain ⟨y402,hy402⟩ : ∃ y_ : List Int,y_ = (([] : List Int)):=⟨_,rfl⟩
            replace H : (if y402.length + (rd_L1 l2 x12_2).length < 17592186044416 then ((resamp_Sampler_Run.f k2 x388000_2 x388001_2 x388002_2 (y402 ++ (rd_L1 l2 x12_2))).bind fun bt409 => (if t396 = 0 then (none) else (if (((rd_L1 l2 x12_2).length : Int) % t396) = 0 then (if bt409.2.1 = 0 then ((madrigalref10_Sampler_Run.f k2 x395000_2 x395001_2 x395002_2 (rd_L1 l2 x12_2)).bind fun bt419 => ((madrigallaw22_same.f k2 bt409.1 bt419.1).bind fun t425 => (madrigallaw22_ResampRuns.j2 k2 l2 t396 x12_2 bt409.1 (!t425) bt409.2.2.1 bt409.2.2.2.1 bt409.2.2.2.2 bt419.2.1 bt419.2.2.1 bt419.2.2.2 t398 t399 t400))) else (madrigallaw22_ResampRuns.j2 k2 l2 t396 x12_2 bt409.1 true bt409.2.2.1 bt409.2.2.2.1 bt409.2.2.2.2 x395000_2 x395001_2 x395002_2 t398 t399 t400)) else (if bt409.2.1 = 1 then (if (bt409.1.length : Int) = 0 then ((resamp_Sampler_Same.f bt409.2.2.1 bt409.2.2.2.1 bt409.2.2.2.2 t398 t399 t400).bind fun t417 => (if t417 = true then (madrigallaw22_ResampRuns.l0 k2 l2 t396 (wrap64 (x12_2 + 1)) bt409.2.2.1 bt409.2.2.2.1 bt409.2.2.2.2 x395000_2 x395001_2 x395002_2) else (none))) else (none)) else (none))))) else (none)) = some r:=by first|(rw [hy402];with_reducible exact H)|(have H2_:=(Option.bind_some _ _).symm.trans H;rw [hy402];with_reducible exact H2_)|(have H2_:=(Option.bind_some _ _).symm.trans H;with_reducible exact H2_)|with_reducible exact H|(rw [hy402];exact H)|exact H
            have Ny402:=ak_ hy402
            clear hy402
            by_cases c24 : y402.length + (rd_L1 l2 x12_2).length < 17592186044416
            ·rw [if_pos c24] at H
             have LMc24:=ak_ c24
             clear c24
             obtain ⟨y406,hy406⟩ : ∃ y_ : List Int,y_ = (y402 ++ (rd_L1 l2 x12_2)):=⟨_,rfl⟩
             replace H : ((resamp_Sampler_Run.f k2 x388000_2 x388001_2 x388002_2 y406).bind fun bt409 => (if t396 = 0 then (none) else (if (((rd_L1 l2 x12_2).length : Int) % t396) = 0 then (if bt409.2.1 = 0 then ((madrigalref10_Sampler_Run.f k2 x395000_2 x395001_2 x395002_2 (rd_L1 l2 x12_2)).bind fun bt419 => ((madrigallaw22_same.f k2 bt409.1 bt419.1).bind fun t425 => (madrigallaw22_ResampRuns.j2 k2 l2 t396 x12_2 bt409.1 (!t425) bt409.2.2.1 bt409.2.2.2.1 bt409.2.2.2.2 bt419.2.1 bt419.2.2.1 bt419.2.2.2 t398 t399 t400))) else (madrigallaw22_ResampRuns.j2 k2 l2 t396 x12_2 bt409.1 true bt409.2.2.1 bt409.2.2.2.1 bt409.2.2.2.2 x395000_2 x395001_2 x395002_2 t398 t399 t400)) else (if bt409.2.1 = 1 then (if (bt409.1.length : Int) = 0 then ((resamp_Sampler_Same.f bt409.2.2.1 bt409.2.2.2.1 bt409.2.2.2.2 t398 t399 t400).bind fun t417 => (if t417 = true then (madrigallaw22_ResampRuns.l0 k2 l2 t396 (wrap64 (x12_2 + 1)) bt409.2.2.1 bt409.2.2.2.1 bt409.2.2.2.2 x395000_2 x395001_2 x395002_2) else (none))) else (none)) else (none))))) = some r:=by first|(rw [hy406];with_reducible exact H)|(have H2_:=(Option.bind_some _ _).symm.trans H;rw [hy406];with_reducible exact H2_)|(have H2_:=(Option.bind_some _ _).symm.trans H;with_reducible exact H2_)|with_reducible exact H|(rw [hy406];exact H)|exact H
             have Ny406:=ak_ hy406
             clear hy406
             replace H:=Option.bind_eq_some_iff.mp H
             obtain ⟨⟨t409,t412,t413,t414,t415⟩,A250,H⟩:=H
             (try dsimp only at H)
             have A25:=ak_ A250
             clear A250
             by_cases c26 : t396 = 0
             ·rw [if_pos c26] at H
              exact absurd H (by simp)
             ·rw [if_neg c26] at H
              have c26b0 : (t396 == 0) = false:=beq_eq_false_iff_ne.mpr c26
              have c26b1 : (t396 != 0) = true:=bne_iff_ne.mpr c26
              by_cases c27 : (((rd_L1 l2 x12_2).length : Int) % t396) = 0
              ·rw [if_pos c27] at H
               have c27b0 : ((((rd_L1 l2 x12_2).length : Int) % t396) == 0) = true:=beq_iff_eq.mpr c27
               have c27b1 : ((((rd_L1 l2 x12_2).length : Int) % t396) != 0) = false:=bne_eq_false_iff_eq.mpr c27
               clear c27
               have HC28:=ak_ H
               clear H
               have p397 : 0 ≤ (x12_2 : Int):=of_decide_eq_true (by first|(with_reducible assumption)|assumption)
               have q397 : x12_2 < (l2.length : Int):=of_decide_eq_true (by first|(with_reducible assumption)|assumption)
               obtain ⟨ad397,A397_0,c397_0,e397,hx397_0,hl397_0,hi397_0⟩:=at_L1 HR2.out x12_2 p397 q397
               cases e397
               replace hx397_0:=(HB.out.cell (World.block_lt_of_cell? w _ hx397_0)).trans hx397_0;(try (have e_:=hx405_0.symm.trans hx397_0;injection e_ with e_;injection e_ with e1_ e2_ e3_;cases e1_;cases e3_));(try (have e_:=hx416_0.symm.trans hx397_0;injection e_ with e_;injection e_ with e1_ e2_ e3_;cases e1_;cases e3_));(try (have e_:=hx418_0.symm.trans hx397_0;injection e_ with e_;injection e_ with e1_ e2_ e3_;cases e1_;cases e3_));(try (have e_:=hx426_0.symm.trans hx397_0;injection e_ with e_;injection e_ with e1_ e2_ e3_;cases e1_;cases e3_))
               have HR397_0:=ak_ hi397_0
               have HC397_0:=ak_ hl397_0
               clear hi397_0 hl397_0
               replace p397:=eq_true p397
               replace q397:=eq_true q397
               go_upto_region 22 with (first|((with_reducible refine gate_callee (f:=22) rfl ?_);refine goesL_ (some 71) rfl rfl Try.func22 (by kernel_rfl) rfl #[.pointer (some ⟨g387,0,none⟩)] rfl (by (try simp only [List.map_toArray,List.map_cons,List.map_nil]);first|done|rfl|(simp only [List.length_drop,List.length_take];rfl)) ?_;(with_reducible refine (resamp_Sampler_Copy.calls g387 x388000_2 x388001_2 x388002_2 t398 t399 t400 w _ ?side1 ?side2 A23.out).mono ?_);(case side1 => repeat (first|(with_reducible first|exact HI387.out|apply IsS53.alloc|apply IsS53.drewN|apply IsS53.drew)|exact HI387.out));(case side2 => repeat (first|(with_reducible first|exact HB.out|apply ba_|apply bb_|apply bc_|refine below_set ?_ (IsS53.ge HI387.out)|refine below_set ?_ (IsS58.ge HI394.out))|exact HB.out));rintro e w29 ⟨g401,rfl,hi,hb,hb2,hge⟩;refine ⟨_,rfl,?_⟩;have n0_:=ak_ (IsS53.below (by repeat (first|(with_reducible first|exact HI387.out|apply IsS53.alloc|apply IsS53.drewN|apply IsS53.drew)|exact HI387.out)) hb2);have n1_:=ak_ (IsS58.below (by repeat (first|(with_reducible first|exact HI394.out|apply IsS58.alloc|apply IsS58.drewN|apply IsS58.drew)|exact HI394.out)) hb2);have n2_:=ak_ (Nat.ne_of_gt (Nat.lt_of_lt_of_le (IsS53.lt (show IsS53 w _ g387 x388000_2 x388001_2 x388002_2 from by repeat (first|(with_reducible first|exact HI387.out|apply IsS53.alloc|apply IsS53.drewN|apply IsS53.drew)|exact HI387.out))) hge));have n3_:=ak_ (Nat.ne_of_gt (Nat.lt_of_lt_of_le (IsS58.lt (show IsS58 w _ g394 x395000_2 x395001_2 x395002_2 from by repeat (first|(with_reducible first|exact HI394.out|apply IsS58.alloc|apply IsS58.drewN|apply IsS58.drew)|exact HI394.out))) hge));have n4_:=ak_ (hb);have n5_:=ak_ (hi);clear HI387;clear HI394;clear HB;have HI387:=n0_;have HI394:=n1_;have NS401_387:=n2_;have NS401_394:=n3_;have HB:=n4_;have HI401:=n5_;clear n0_ n1_ n2_ n3_ n4_ n5_;(try clear hb);(try clear hb2);(try clear hi);(try clear hge))|((with_reducible refine gate_dst (N:=74) rfl ?_);(try (refine gate_guard (by rfl) ?_;dsimp only));refine Kd.R_lit (Kd.int .i64) _ 2 ?hg (N:=74) ?hd (xs:=([] : List Int)) (inner:=[]) (ok:=fun _ => True) (okp:=fun _ => True) ?hr ?hp (fun _ hk => hk) trivial (Below.refl _ _) (Nat.le_refl _) (by simp) ?_;(case hd => rfl);(case hg => rfl);(case hr => first|(go_simp;done)|(go_simp;rfl));(case hp => exact (Reps.none _ _));intro v403 w30 ho31 hb hg_ hnew_;have hsx_:=IsS58.newer (by repeat (first|(with_reducible first|exact HI394.out|apply IsS58.alloc|apply IsS58.drewN|apply IsS58.drew)|exact HI394.out)) hnew_ hb;clear hg_ hnew_;(first|rw [← Ny402.out] at ho31|(simp only [Int.reduceToNat] at ho31;rw [← Ny402.out] at ho31));have n0_:=ak_ (Kd.R_lower ho31 (below_size (by repeat (first|(with_reducible first|exact HB.out|apply ba_|apply bb_|apply bc_|refine below_set ?_ (IsS53.ge HI387.out)|refine below_set ?_ (IsS58.ge HI394.out)|refine below_set ?_ (IsS53.ge HI401.out))|exact HB.out))));have n1_:=ak_ (IsS53.below (by repeat (first|(with_reducible first|exact HI387.out|apply IsS53.alloc|apply IsS53.drewN|apply IsS53.drew)|exact HI387.out)) hb);have n2_:=ak_ (hsx_);have n3_:=ak_ (IsS53.below (by repeat (first|(with_reducible first|exact HI401.out|apply IsS53.alloc|apply IsS53.drewN|apply IsS53.drew)|exact HI401.out)) hb);have n4_:=ak_ (below_step (by repeat (first|(with_reducible first|exact HB.out|apply ba_|apply bb_|apply bc_|refine below_set ?_ (IsS53.ge HI387.out)|refine below_set ?_ (IsS58.ge HI394.out)|refine below_set ?_ (IsS53.ge HI401.out))|exact HB.out)) hb);clear HI387;clear HI394;clear HI401;clear HB;have HO404:=n0_;have HI387:=n1_;have HI394:=n2_;have HI401:=n3_;have HB:=n4_;clear n0_ n1_ n2_ n3_ n4_;clear hb ho31;have p405 : 0 ≤ (x12_2 : Int):=of_decide_eq_true (by first|(with_reducible assumption)|assumption);have q405 : x12_2 < (l2.length : Int):=of_decide_eq_true (by first|(with_reducible assumption)|assumption);obtain ⟨ad405,A405_0,c405_0,e405,hx405_0,hl405_0,hi405_0⟩:=at_L1 HR2.out x12_2 p405 q405;obtain rfl : ad397 = ad405:=(by injection e405);replace hx405_0:=(HB.out.cell (World.block_lt_of_cell? w _ hx405_0)).trans hx405_0;(try (have e_:=hx397_0.symm.trans hx405_0;injection e_ with e_;injection e_ with e1_ e2_ e3_;cases e1_;cases e3_));(try (have e_:=hx416_0.symm.trans hx405_0;injection e_ with e_;injection e_ with e1_ e2_ e3_;cases e1_;cases e3_));(try (have e_:=hx418_0.symm.trans hx405_0;injection e_ with e_;injection e_ with e1_ e2_ e3_;cases e1_;cases e3_));(try (have e_:=hx426_0.symm.trans hx405_0;injection e_ with e_;injection e_ with e1_ e2_ e3_;cases e1_;cases e3_));have HR405_0:=ak_ hi405_0;have HC405_0:=ak_ hl405_0;clear hi405_0 hl405_0;replace p405:=eq_true p405;replace q405:=eq_true q405)|((with_reducible refine gate_builtin (b:=.append) (xs:=#[.tmp 74,.tmp 78]) rfl ?_);(try (refine gate_guard (by rfl) ?_;dsimp only));at_builtin;refine Kd.R_append_rows (Kd.int .i64) (w0:=w) w.heap.size rfl (.tmp 74) (.tmp 78) 27 2 (.int .i64 0) 8 rfl Try.underlying27 info2 rfl (by decide) (by omega) v403 y402 (rd_L1 l2 x12_2) _ _ _ (fun _ => True) (fun _ => False) rfl rfl ?aO ?aR (fun _ _ h => h) (fun _ h => h.elim) ?aF ?aB ?aS ?aL ?_;(case aR => repeat (first|exact (Kd.C_below HR405_0.out HB.out)|(with_reducible refine Kd.C_alloc ?_ _)|(with_reducible refine Kd.C_drewN ?_ _)|(with_reducible refine Kd.C_drew ?_)));(case aB => exact (by repeat (first|(with_reducible first|exact HB.out|apply ba_|apply bb_|apply bc_|refine below_set ?_ (IsS53.ge HI387.out)|refine below_set ?_ (IsS58.ge HI394.out)|refine below_set ?_ (IsS53.ge HI401.out))|exact HB.out)));(case aF => exact (fun _ _ => trivial));(case aO => exact (by (with_reducible repeat (first|apply ra_|apply rb_|apply rc_));exact HO404.out));(case aS => exact (below_size (by repeat (first|(with_reducible first|exact HB.out|apply ba_|apply bb_|apply bc_|refine below_set ?_ (IsS53.ge HI387.out)|refine below_set ?_ (IsS58.ge HI394.out)|refine below_set ?_ (IsS53.ge HI401.out))|exact HB.out))));(case aL => have:=LMc24.out;omega);intro v407 w32 ho hb hg hat;rw [← Ny406.out] at ho;have n0_:=ak_ (IsS53.grown (by repeat (first|(with_reducible first|exact HI387.out|apply IsS53.alloc|apply IsS53.drewN|apply IsS53.drew)|exact HI387.out)) hg (IsS53.own_ne HI387.out HO404.out (by decide)));have n1_:=ak_ (IsS58x.grown HI394.out hg (IsS58x.own_ne HI394.out HO404.out (by decide)));have n2_:=ak_ (IsS53.grown (by repeat (first|(with_reducible first|exact HI401.out|apply IsS53.alloc|apply IsS53.drewN|apply IsS53.drew)|exact HI401.out)) hg (IsS53.own_ne HI401.out HO404.out (by decide)));have n3_:=ak_ (hb);have n4_:=ak_ (ho);clear HI387;clear HI394;clear HI401;clear HB;clear HO404;have HI387:=n0_;have HI394:=n1_;have HI401:=n2_;have HB:=n3_;have HO408:=n4_;clear n0_ n1_ n2_ n3_ n4_;clear ho hb hg hat;obtain ⟨Ao33,co33,eo33⟩:=Kd.R_slice HO408.out;subst eo33)|((with_reducible refine gate_callee (f:=13) rfl ?_);refine goesL_ (some 80) rfl rfl Try.func13 (by kernel_rfl) rfl #[.pointer (some ⟨g387,0,none⟩),.slice Ao33 y406.length co33] rfl (by (try simp only [List.map_toArray,List.map_cons,List.map_nil]);first|done|rfl|(simp only [List.length_drop,List.length_take];rfl)) ?_;(with_reducible refine (resamp_Sampler_Run.calls k2 g387 x388000_2 x388001_2 x388002_2 _ _ y406 t409 t412 t413 t414 t415 w _ ?side1 ?side2 ?side3 ?side4 ?side5 A25.out).mono ?_);(case side1 => repeat (first|(with_reducible first|exact HI387.out|apply IsS53.alloc|apply IsS53.drewN|apply IsS53.drew)|exact HI387.out));(case side2 => repeat (first|(with_reducible first|exact HB.out|apply ba_|apply bb_|apply bc_|refine below_set ?_ (IsS53.ge HI387.out)|refine below_set ?_ (IsS58.ge HI394.out)|refine below_set ?_ (IsS53.ge HI401.out))|exact HB.out));(case side3 => repeat (first|exact (Kd.R_reads' HO408.out).2.2|(with_reducible refine Kd.C_alloc ?_ _)|(with_reducible refine Kd.C_drewN ?_ _)|(with_reducible refine Kd.C_drew ?_)));(case side4 => exact (Kd.R_reads' HO408.out).2.1);(case side5 => exact far_slice (IsS53.own_ne HI387.out HO408.out (by decide)));rintro e w34 ⟨v410,rfl,ho0,hi,hb,hk⟩;refine ⟨_,rfl,?_⟩;have n0_:=ak_ (IsS58.keepB (show IsS58 w _ g394 x395000_2 x395001_2 x395002_2 from by repeat (first|(with_reducible first|exact HI394.out|apply IsS58.alloc|apply IsS58.drewN|apply IsS58.drew)|exact HI394.out)) hk NS394_387.out (IsS53.typ (show IsS53 w _ g387 x388000_2 x388001_2 x388002_2 from by repeat (first|(with_reducible first|exact HI387.out|apply IsS53.alloc|apply IsS53.drewN|apply IsS53.drew)|exact HI387.out))));have n1_:=ak_ (IsS53.keepB (show IsS53 w _ g401 t398 t399 t400 from by repeat (first|(with_reducible first|exact HI401.out|apply IsS53.alloc|apply IsS53.drewN|apply IsS53.drew)|exact HI401.out)) hk NS401_387.out);have n2_:=ak_ (Kd.R_mono (Kd.R_told (Kd.R_oldK (IsS53.apart (show IsS53 w _ g387 x388000_2 x388001_2 x388002_2 from by repeat (first|(with_reducible first|exact HI387.out|apply IsS53.alloc|apply IsS53.drewN|apply IsS53.drew)|exact HI387.out)) (by (with_reducible repeat (first|apply ra_|apply rb_|apply rc_));exact HO408.out) (by decide)) hk) (Kd.R_base ho0)) (fun _ h_ => h_.1));have n3_:=ak_ (Kd.R_lower (Kd.R_new' ho0 (Kd.R_lt (by (with_reducible repeat (first|apply ra_|apply rb_|apply rc_));exact HO408.out))) (below_size (by repeat (first|(with_reducible first|exact HB.out|apply ba_|apply bb_|apply bc_|refine below_set ?_ (IsS53.ge HI387.out)|refine below_set ?_ (IsS58.ge HI394.out)|refine below_set ?_ (IsS53.ge HI401.out))|exact HB.out))));have n4_:=ak_ (hb);have n5_:=ak_ (hi);clear HI394;clear HI401;clear HO408;clear HB;clear HI387;have HI394:=n0_;have HI401:=n1_;have HO408:=n2_;have HO411:=n3_;have HB:=n4_;have HI387:=n5_;clear n0_ n1_ n2_ n3_ n4_ n5_;(try clear hb);(try clear hk);(try clear hi);(try clear ho0);have p416 : 0 ≤ (x12_2 : Int):=of_decide_eq_true (by first|(with_reducible assumption)|assumption);have q416 : x12_2 < (l2.length : Int):=of_decide_eq_true (by first|(with_reducible assumption)|assumption);obtain ⟨ad416,A416_0,c416_0,e416,hx416_0,hl416_0,hi416_0⟩:=at_L1 HR2.out x12_2 p416 q416;obtain rfl : ad397 = ad416:=(by injection e416);replace hx416_0:=(HB.out.cell (World.block_lt_of_cell? w _ hx416_0)).trans hx416_0;(try (have e_:=hx397_0.symm.trans hx416_0;injection e_ with e_;injection e_ with e1_ e2_ e3_;cases e1_;cases e3_));(try (have e_:=hx405_0.symm.trans hx416_0;injection e_ with e_;injection e_ with e1_ e2_ e3_;cases e1_;cases e3_));(try (have e_:=hx418_0.symm.trans hx416_0;injection e_ with e_;injection e_ with e1_ e2_ e3_;cases e1_;cases e3_));(try (have e_:=hx426_0.symm.trans hx416_0;injection e_ with e_;injection e_ with e1_ e2_ e3_;cases e1_;cases e3_));have HR416_0:=ak_ hi416_0;have HC416_0:=ak_ hl416_0;clear hi416_0 hl416_0;replace p416:=eq_true p416;replace q416:=eq_true q416))
               (try simp only [Act.put,List.setIfInBounds_toArray,List.set_cons_zero,List.set_cons_succ])
               go_cut [116] (fun v116 wc => ∃ (kq : Nat) (x116_27 : Bool) (x395000_27 : Int) (x395001_27 : Int) (x395002_27 : List Int),v116 = .bool x116_27 ∧ Aside0 (madrigallaw22_ResampRuns.j2 kq l2 t396 x12_2 t409 x116_27 t413 t414 t415 x395000_27 x395001_27 x395002_27 t398 t399 t400 = some r) ∧ Aside0 (kq ≤ k2) ∧ Aside0 (Kd.R (Kd.int .i64) 2 wc w.heap.size (fun _ => True) v410 t409) ∧ Aside0 (IsS53 w wc g387 t413 t414 t415) ∧ Aside0 (IsS58 w wc g394 x395000_27 x395001_27 x395002_27) ∧ Aside0 (IsS53 w wc g401 t398 t399 t400) ∧ Aside0 (Below w.heap.size w wc))
               case first =>
                have H:=HC28.out
                clear HC28
                by_cases c35 : t412 = 0
                ·rw [if_pos c35] at H
                 have c35b0 : (t412 == 0) = true:=beq_iff_eq.mpr c35
                 have c35b1 : (t412 != 0) = false:=bne_eq_false_iff_eq.mpr c35
                 clear c35
                 (first|rw [c35b0]|(simp only [i64_w,i32_w];rw [c35b0])|skip)
                 replace H:=Option.bind_eq_some_iff.mp H
                 obtain ⟨⟨t419,t422,t423,t424⟩,A360,H⟩:=H
                 (try dsimp only at H)
                 have A36:=ak_ A360
                 clear A360
                 replace H:=Option.bind_eq_some_iff.mp H
                 obtain ⟨t425,A370,H⟩:=H
                 (try dsimp only at H)
                 have A37:=ak_ A370
                 clear A370
                 have H':=ak_ H
                 clear H
                 have p418 : 0 ≤ (x12_2 : Int):=of_decide_eq_true (by first|(with_reducible assumption)|assumption)
                 have q418 : x12_2 < (l2.length : Int):=of_decide_eq_true (by first|(with_reducible assumption)|assumption)
                 obtain ⟨ad418,A418_0,c418_0,e418,hx418_0,hl418_0,hi418_0⟩:=at_L1 HR2.out x12_2 p418 q418
                 obtain rfl : ad397 = ad418:=(by injection e418)
                 replace hx418_0:=(HB.out.cell (World.block_lt_of_cell? w _ hx418_0)).trans hx418_0;(try (have e_:=hx397_0.symm.trans hx418_0;injection e_ with e_;injection e_ with e1_ e2_ e3_;cases e1_;cases e3_));(try (have e_:=hx405_0.symm.trans hx418_0;injection e_ with e_;injection e_ with e1_ e2_ e3_;cases e1_;cases e3_));(try (have e_:=hx416_0.symm.trans hx418_0;injection e_ with e_;injection e_ with e1_ e2_ e3_;cases e1_;cases e3_));(try (have e_:=hx426_0.symm.trans hx418_0;injection e_ with e_;injection e_ with e1_ e2_ e3_;cases e1_;cases e3_))
                 have HR418_0:=ak_ hi418_0
                 have HC418_0:=ak_ hl418_0
                 clear hi418_0 hl418_0
                 replace p418:=eq_true p418
                 replace q418:=eq_true q418
                 go_wp2_with (first|(go_at_call 24;(with_reducible refine (madrigalref10_Sampler_Run.calls k2 g394 x395000_2 x395001_2 x395002_2 _ _ (rd_L1 l2 x12_2) t419 t422 t423 t424 w _ ?side1 ?side2 ?side3 ?side4 ?side5 A36.out).mono ?_);(case side1 => repeat (first|(with_reducible first|exact HI394.out|apply IsS58.alloc|apply IsS58.drewN|apply IsS58.drew)|exact HI394.out));(case side2 => repeat (first|(with_reducible first|exact HB.out|apply ba_|apply bb_|apply bc_|refine below_set ?_ (IsS53.ge HI387.out)|refine below_set ?_ (IsS58.ge HI394.out)|refine below_set ?_ (IsS53.ge HI401.out))|exact HB.out));(case side3 => repeat (first|exact (Kd.C_below HR418_0.out HB.out)|(with_reducible refine Kd.C_alloc ?_ _)|(with_reducible refine Kd.C_drewN ?_ _)|(with_reducible refine Kd.C_drew ?_)));(case side4 => exact HC418_0.out);(case side5 => exact Kd.far_C 0 HR418_0.out (IsS58.ge HI394.out));rintro e w38 ⟨v420,rfl,ho0,hi,hb,hk⟩;have n0_:=ak_ (IsS53.keepB (show IsS53 w _ g387 t413 t414 t415 from by repeat (first|(with_reducible first|exact HI387.out|apply IsS53.alloc|apply IsS53.drewN|apply IsS53.drew)|exact HI387.out)) hk (Ne.symm NS394_387.out));have n1_:=ak_ (IsS53.keepB (show IsS53 w _ g401 t398 t399 t400 from by repeat (first|(with_reducible first|exact HI401.out|apply IsS53.alloc|apply IsS53.drewN|apply IsS53.drew)|exact HI401.out)) hk NS401_394.out);have n2_:=ak_ (Kd.R_mono (Kd.R_told (Kd.R_oldK (IsS58.apart (show IsS58 w _ g394 x395000_2 x395001_2 x395002_2 from by repeat (first|(with_reducible first|exact HI394.out|apply IsS58.alloc|apply IsS58.drewN|apply IsS58.drew)|exact HI394.out)) (by (with_reducible repeat (first|apply ra_|apply rb_|apply rc_));exact HO408.out) (by decide)) hk) (Kd.R_base ho0)) (fun _ h_ => h_.1));have n3_:=ak_ (Kd.R_mono (Kd.R_told (Kd.R_oldK (IsS58.apart (show IsS58 w _ g394 x395000_2 x395001_2 x395002_2 from by repeat (first|(with_reducible first|exact HI394.out|apply IsS58.alloc|apply IsS58.drewN|apply IsS58.drew)|exact HI394.out)) (by (with_reducible repeat (first|apply ra_|apply rb_|apply rc_));exact HO411.out) (by decide)) hk) (Kd.R_base ho0)) (fun _ h_ => h_.1));have n4_:=ak_ (Kd.R_lower (Kd.R_new' (Kd.R_new' ho0 (Kd.R_lt (by (with_reducible repeat (first|apply ra_|apply rb_|apply rc_));exact HO408.out))) (Kd.R_lt (by (with_reducible repeat (first|apply ra_|apply rb_|apply rc_));exact HO411.out))) (below_size (by repeat (first|(with_reducible first|exact HB.out|apply ba_|apply bb_|apply bc_|refine below_set ?_ (IsS53.ge HI387.out)|refine below_set ?_ (IsS58.ge HI394.out)|refine below_set ?_ (IsS53.ge HI401.out))|exact HB.out))));have n5_:=ak_ (hb);have n6_:=ak_ (hi);clear HI387;clear HI401;clear HO408;clear HO411;clear HB;clear HI394;have HI387:=n0_;have HI401:=n1_;have HO408:=n2_;have HO411:=n3_;have HO421:=n4_;have HB:=n5_;have HI394:=n6_;clear n0_ n1_ n2_ n3_ n4_ n5_ n6_;(try clear hb);(try clear hk);(try clear hi);(try clear ho0);obtain ⟨Ao39,co39,eo39⟩:=Kd.R_slice HO411.out;subst eo39;obtain ⟨Ao40,co40,eo40⟩:=Kd.R_slice HO421.out;subst eo40)|(go_at_call 18;(with_reducible refine (madrigallaw22_same.calls k2 _ _ t409 _ _ t419 t425 _ ?side1 ?side2 ?side3 ?side4 A37.out).mono ?_);(case side1 => repeat (first|exact (Kd.R_reads' HO411.out).2.2|(with_reducible refine Kd.C_alloc ?_ _)|(with_reducible refine Kd.C_drewN ?_ _)|(with_reducible refine Kd.C_drew ?_)));(case side2 => exact (Kd.R_reads' HO411.out).2.1);(case side3 => repeat (first|exact (Kd.R_reads' HO421.out).2.2|(with_reducible refine Kd.C_alloc ?_ _)|(with_reducible refine Kd.C_drewN ?_ _)|(with_reducible refine Kd.C_drew ?_)));(case side4 => exact (Kd.R_reads' HO421.out).2.1);rintro e w' ⟨rfl,⟨nd,rfl⟩⟩))
                 go_meet
                 case rel => exact ⟨_,(!t425),(t422),(t423),(t424),(by first|rfl|(simp;done)|(simp [*];done)),H',⟨by have:=HJ9.out;have:=HK2.out;first|omega|exact Nat.le_refl _⟩,⟨by (with_reducible repeat (first|apply ra_|apply rb_|apply rc_));exact Kd.R_mono HO411.out (fun _ hk => trivial)⟩,⟨by repeat (first|(with_reducible first|exact HI387.out|apply IsS53.alloc|apply IsS53.drewN|apply IsS53.drew)|exact HI387.out)⟩,⟨by repeat (first|(with_reducible first|exact HI394.out|apply IsS58.alloc|apply IsS58.drewN|apply IsS58.drew)|exact HI394.out)⟩,⟨by repeat (first|(with_reducible first|exact HI401.out|apply IsS53.alloc|apply IsS53.drewN|apply IsS53.drew)|exact HI401.out)⟩,⟨by repeat (first|(with_reducible first|exact HB.out|apply ba_|apply bb_|apply bc_|refine below_set ?_ (IsS53.ge HI387.out)|refine below_set ?_ (IsS58.ge HI394.out)|refine below_set ?_ (IsS53.ge HI401.out))|exact HB.out)⟩⟩
                ·rw [if_neg c35] at H
                 have c35b0 : (t412 == 0) = false:=beq_eq_false_iff_ne.mpr c35
                 have c35b1 : (t412 != 0) = true:=bne_iff_ne.mpr c35
                 (first|rw [c35b0]|(simp only [i64_w,i32_w];rw [c35b0])|skip)
                 have H':=ak_ H
                 clear H
                 go_wp2
                 go_meet
                 case rel => exact ⟨_,(true),(x395000_2),(x395001_2),(x395002_2),(by first|rfl|(simp;done)|(simp [*];done)),H',⟨by have:=HJ9.out;have:=HK2.out;first|omega|exact Nat.le_refl _⟩,⟨by (with_reducible repeat (first|apply ra_|apply rb_|apply rc_));exact Kd.R_mono HO411.out (fun _ hk => trivial)⟩,⟨by repeat (first|(with_reducible first|exact HI387.out|apply IsS53.alloc|apply IsS53.drewN|apply IsS53.drew)|exact HI387.out)⟩,⟨by repeat (first|(with_reducible first|exact HI394.out|apply IsS58.alloc|apply IsS58.drewN|apply IsS58.drew)|exact HI394.out)⟩,⟨by repeat (first|(with_reducible first|exact HI401.out|apply IsS53.alloc|apply IsS53.drewN|apply IsS53.drew)|exact HI401.out)⟩,⟨by repeat (first|(with_reducible first|exact HB.out|apply ba_|apply bb_|apply bc_|refine below_set ?_ (IsS53.ge HI387.out)|refine below_set ?_ (IsS58.ge HI394.out)|refine below_set ?_ (IsS53.ge HI401.out))|exact HB.out)⟩⟩
               case rest =>
                clear HC28
                try clear c1
                try clear c2
                try clear p2
                try clear c3
                try clear p3
                try clear q3
                try clear hx3
                try clear c4
                try clear p4
                try clear q4
                try clear hx4
                try clear c5
                try clear c6
                try clear c6b0
                try clear c6b1
                try clear p6
                try clear c8
                try clear c8b0
                try clear c8b1
                try clear c11
                try clear c12
                try clear c13
                try clear c14
                try clear c15
                try clear c16
                try clear c17
                try clear c20
                try clear c20b0
                try clear c21
                try clear c21b0
                try clear c22
                try clear c22b0
                try clear c22b1
                try clear c24
                try clear c26
                try clear c26b0
                try clear c26b1
                try clear c27
                try clear c27b0
                try clear c27b1
                try clear c35
                try clear c35b0
                try clear c35b1
                try clear c39
                try clear p39
                try clear q39
                try clear hx39
                try clear c40
                try clear p40
                try clear q40
                try clear hx40
                try clear hx397_0
                try clear hx405_0
                try clear hx416_0
                try clear hx418_0
                try clear p2
                try clear p397
                try clear p405
                try clear p416
                try clear p418
                try clear q397
                try clear q405
                try clear q416
                try clear q418
                obtain ⟨kq,x116_27,x395000_27,x395001_27,x395002_27,rfl,HA,HJ27,HO_14,HI387,HI394,HI401,HB⟩:=hcut
                (try simp only [i64_w,i32_w])
                cases kq with
                | zero => exact absurd HA.out (by simp [madrigallaw22_ResampRuns.j2])
                | succ kj27 =>
                 have H:=HA.out
                 clear HA
                 simp only [madrigallaw22_ResampRuns.j2] at H
                 by_cases c41 : x116_27 = true
                 ·subst c41
                  have H1 : (none) = some r:=by rw [if_pos rfl] at H;exact H
                  clear H
                  have H:=H1
                  clear H1
                  exact absurd H (by simp)
                 ·replace c41:=Bool.eq_false_iff.mpr c41
                  subst c41
                  have H1 : (if 0 ≤ x12_2 then (if x12_2 < (l2.length : Int) then ((resamp_Sampler_Run.f kj27 t398 t399 t400 (rd_L1 l2 x12_2)).bind fun bt427 => ((madrigallaw22_same.f kj27 t409 bt427.1).bind fun t434 => (if t434 = true then ((resamp_Sampler_Same.f bt427.2.2.1 bt427.2.2.2.1 bt427.2.2.2.2 t413 t414 t415).bind fun t435 => (if t435 = true then (madrigallaw22_ResampRuns.l0 kj27 l2 t396 (wrap64 (x12_2 + 1)) t413 t414 t415 x395000_27 x395001_27 x395002_27) else (none))) else (none)))) else (none)) else (none)) = some r:=by rw [if_neg (show ¬ (false = true) by decide)] at H;exact H
                  clear H
                  have H:=H1
                  clear H1
                  by_cases c42 : 0 ≤ x12_2
                  ·rw [if_pos c42] at H
                   have c42b0:=decide_eq_true c42
                   clear c42
                   by_cases c43 : x12_2 < (l2.length : Int)
                   ·rw [if_pos c43] at H
                    have c43b0:=decide_eq_true c43
                    clear c43
                    replace H:=Option.bind_eq_some_iff.mp H
                    obtain ⟨⟨t427,t430,t431,t432,t433⟩,A440,H⟩:=H
                    (try dsimp only at H)
                    have A44:=ak_ A440
                    clear A440
                    replace H:=Option.bind_eq_some_iff.mp H
                    obtain ⟨t434,A450,H⟩:=H
                    (try dsimp only at H)
                    have A45:=ak_ A450
                    clear A450
                    by_cases c46 : t434 = true
                    ·subst c46
                     have H1 : ((resamp_Sampler_Same.f t431 t432 t433 t413 t414 t415).bind fun t435 => (if t435 = true then (madrigallaw22_ResampRuns.l0 kj27 l2 t396 (wrap64 (x12_2 + 1)) t413 t414 t415 x395000_27 x395001_27 x395002_27) else (none))) = some r:=by rw [if_pos rfl] at H;exact H
                     clear H
                     have H:=H1
                     clear H1
                     replace H:=Option.bind_eq_some_iff.mp H
                     obtain ⟨t435,A470,H⟩:=H
                     (try dsimp only at H)
                     have A47:=ak_ A470
                     clear A470
                     by_cases c48 : t435 = true
                     ·subst c48
                      have H1 : (madrigallaw22_ResampRuns.l0 kj27 l2 t396 (wrap64 (x12_2 + 1)) t413 t414 t415 x395000_27 x395001_27 x395002_27) = some r:=by rw [if_pos rfl] at H;exact H
                      clear H
                      have H:=H1
                      clear H1
                      have H':=ak_ H
                      clear H
                      have p426 : 0 ≤ (x12_2 : Int):=of_decide_eq_true (by first|(with_reducible assumption)|assumption)
                      have q426 : x12_2 < (l2.length : Int):=of_decide_eq_true (by first|(with_reducible assumption)|assumption)
                      obtain ⟨ad426,A426_0,c426_0,e426,hx426_0,hl426_0,hi426_0⟩:=at_L1 HR2.out x12_2 p426 q426
                      obtain rfl : ad397 = ad426:=(by injection e426)
                      replace hx426_0:=(HB.out.cell (World.block_lt_of_cell? w _ hx426_0)).trans hx426_0;(try (have e_:=hx397_0.symm.trans hx426_0;injection e_ with e_;injection e_ with e1_ e2_ e3_;cases e1_;cases e3_));(try (have e_:=hx405_0.symm.trans hx426_0;injection e_ with e_;injection e_ with e1_ e2_ e3_;cases e1_;cases e3_));(try (have e_:=hx416_0.symm.trans hx426_0;injection e_ with e_;injection e_ with e1_ e2_ e3_;cases e1_;cases e3_));(try (have e_:=hx418_0.symm.trans hx426_0;injection e_ with e_;injection e_ with e1_ e2_ e3_;cases e1_;cases e3_))
                      have HR426_0:=ak_ hi426_0
                      have HC426_0:=ak_ hl426_0
                      clear hi426_0 hl426_0
                      replace p426:=eq_true p426
                      replace q426:=eq_true q426
                      go_wp2_with (first|((with_reducible refine gate_callee (f:=13) rfl ?_);refine goesL_ (some 123) rfl rfl Try.func13 (by kernel_rfl) rfl #[.pointer (some ⟨g401,0,none⟩),.slice A426_0 (rd_L1 l2 x12_2).length c426_0] rfl (by (try simp only [List.map_toArray,List.map_cons,List.map_nil]);first|done|rfl|(simp only [List.length_drop,List.length_take];rfl)) ?_;(with_reducible refine (resamp_Sampler_Run.calls kj27 g401 t398 t399 t400 _ _ (rd_L1 l2 x12_2) t427 t430 t431 t432 t433 w _ ?side1 ?side2 ?side3 ?side4 ?side5 A44.out).mono ?_);(case side1 => repeat (first|(with_reducible first|exact HI401.out|apply IsS53.alloc|apply IsS53.drewN|apply IsS53.drew)|exact HI401.out));(case side2 => repeat (first|(with_reducible first|exact HB.out|apply ba_|apply bb_|apply bc_|refine below_set ?_ (IsS53.ge HI387.out)|refine below_set ?_ (IsS58.ge HI394.out)|refine below_set ?_ (IsS53.ge HI401.out))|exact HB.out));(case side3 => repeat (first|exact (Kd.C_below HR426_0.out HB.out)|(with_reducible refine Kd.C_alloc ?_ _)|(with_reducible refine Kd.C_drewN ?_ _)|(with_reducible refine Kd.C_drew ?_)));(case side4 => exact HC426_0.out);(case side5 => exact Kd.far_C 0 HR426_0.out (IsS53.ge HI401.out));rintro e w49 ⟨v428,rfl,ho0,hi,hb,hk⟩;refine ⟨_,rfl,?_⟩;have n0_:=ak_ (Kd.R_mono (Kd.R_told (Kd.R_oldK (IsS53.apart (show IsS53 w _ g401 t398 t399 t400 from by repeat (first|(with_reducible first|exact HI401.out|apply IsS53.alloc|apply IsS53.drewN|apply IsS53.drew)|exact HI401.out)) (by (with_reducible repeat (first|apply ra_|apply rb_|apply rc_));exact HO_14.out) (by decide)) hk) (Kd.R_base ho0)) (fun _ h_ => h_.1));have n1_:=ak_ (IsS53.keepB (show IsS53 w _ g387 t413 t414 t415 from by repeat (first|(with_reducible first|exact HI387.out|apply IsS53.alloc|apply IsS53.drewN|apply IsS53.drew)|exact HI387.out)) hk (Ne.symm NS401_387.out));have n2_:=ak_ (IsS58.keepB (show IsS58 w _ g394 x395000_27 x395001_27 x395002_27 from by repeat (first|(with_reducible first|exact HI394.out|apply IsS58.alloc|apply IsS58.drewN|apply IsS58.drew)|exact HI394.out)) hk (Ne.symm NS401_394.out) (IsS53.typ (show IsS53 w _ g401 t398 t399 t400 from by repeat (first|(with_reducible first|exact HI401.out|apply IsS53.alloc|apply IsS53.drewN|apply IsS53.drew)|exact HI401.out))));have n3_:=ak_ (Kd.R_lower (Kd.R_new' ho0 (Kd.R_lt (by (with_reducible repeat (first|apply ra_|apply rb_|apply rc_));exact HO_14.out))) (below_size (by repeat (first|(with_reducible first|exact HB.out|apply ba_|apply bb_|apply bc_|refine below_set ?_ (IsS53.ge HI387.out)|refine below_set ?_ (IsS58.ge HI394.out)|refine below_set ?_ (IsS53.ge HI401.out))|exact HB.out))));have n4_:=ak_ (hb);have n5_:=ak_ (hi);clear HO_14;clear HI387;clear HI394;clear HB;clear HI401;have HO_14:=n0_;have HI387:=n1_;have HI394:=n2_;have HO429:=n3_;have HB:=n4_;have HI401:=n5_;clear n0_ n1_ n2_ n3_ n4_ n5_;(try clear hb);(try clear hk);(try clear hi);(try clear ho0);obtain ⟨Ao50,co50,eo50⟩:=Kd.R_slice HO_14.out;subst eo50;obtain ⟨Ao51,co51,eo51⟩:=Kd.R_slice HO429.out;subst eo51)|((with_reducible refine gate_callee (f:=18) rfl ?_);refine goesL_ (some 128) rfl rfl Try.func18 (by kernel_rfl) rfl #[.slice Ao50 t409.length co50,.slice Ao51 t427.length co51] rfl (by (try simp only [List.map_toArray,List.map_cons,List.map_nil]);first|done|rfl|(simp only [List.length_drop,List.length_take];rfl)) ?_;(with_reducible refine (madrigallaw22_same.calls kj27 _ _ t409 _ _ t427 true _ ?side1 ?side2 ?side3 ?side4 A45.out).mono ?_);(case side1 => repeat (first|exact (Kd.R_reads' HO_14.out).2.2|(with_reducible refine Kd.C_alloc ?_ _)|(with_reducible refine Kd.C_drewN ?_ _)|(with_reducible refine Kd.C_drew ?_)));(case side2 => exact (Kd.R_reads' HO_14.out).2.1);(case side3 => repeat (first|exact (Kd.R_reads' HO429.out).2.2|(with_reducible refine Kd.C_alloc ?_ _)|(with_reducible refine Kd.C_drewN ?_ _)|(with_reducible refine Kd.C_drew ?_)));(case side4 => exact (Kd.R_reads' HO429.out).2.1);rintro e w' ⟨rfl,⟨nd,rfl⟩⟩;refine ⟨_,rfl,?_⟩)|(go_at_call 23;(with_reducible refine (resamp_Sampler_Same.calls g401 t431 t432 t433 g387 t413 t414 t415 true w _ ?side1 ?side2 ?side3 A47.out).mono ?_);(case side1 => repeat (first|(with_reducible first|exact HI401.out|apply IsS53.alloc|apply IsS53.drewN|apply IsS53.drew)|exact HI401.out));(case side2 => repeat (first|(with_reducible first|exact HI387.out|apply IsS53.alloc|apply IsS53.drewN|apply IsS53.drew)|exact HI387.out));(case side3 => repeat (first|(with_reducible first|exact HB.out|apply ba_|apply bb_|apply bc_|refine below_set ?_ (IsS53.ge HI387.out)|refine below_set ?_ (IsS58.ge HI394.out)|refine below_set ?_ (IsS53.ge HI401.out))|exact HB.out));rintro e w' ⟨rfl,⟨nd,rfl⟩⟩))
                      go_roundg kj27
                      case measure => have:=HJ9.out;have:=HK2.out;have:=HJ27.out;omega
                      case rel => exact ⟨(wrap64 (x12_2 + 1)),(t413),(t414),(t415),(x395000_27),(x395001_27),(x395002_27),(by first|rfl|(simp;done)|(simp [*];done)),H',⟨by have:=HJ9.out;have:=HK2.out;have:=HJ27.out;omega⟩,⟨by repeat (first|(with_reducible first|exact HI387.out|apply IsS53.alloc|apply IsS53.drewN|apply IsS53.drew)|exact HI387.out)⟩,⟨by repeat (first|(with_reducible first|exact HI394.out|apply IsS58.alloc|apply IsS58.drewN|apply IsS58.drew)|exact HI394.out)⟩,⟨by repeat (first|(with_reducible first|exact HB.out|apply ba_|apply bb_|apply bc_|refine below_set ?_ (IsS53.ge HI387.out)|refine below_set ?_ (IsS58.ge HI394.out)|refine below_set ?_ (IsS53.ge HI401.out))|exact HB.out)⟩⟩
                     ·replace c48:=Bool.eq_false_iff.mpr c48
                      subst c48
                      have H1 : (none) = some r:=by rw [if_neg (show ¬ (false = true) by decide)] at H;exact H
                      clear H
                      have H:=H1
                      clear H1
                      exact absurd H (by simp)
                    ·replace c46:=Bool.eq_false_iff.mpr c46
                     subst c46
                     have H1 : (none) = some r:=by rw [if_neg (show ¬ (false = true) by decide)] at H;exact H
                     clear H
                     have H:=H1
                     clear H1
                     exact absurd H (by simp)
                   ·rw [if_neg c43] at H
                    exact absurd H (by simp)
                  ·rw [if_neg c42] at H
                   exact absurd H (by simp)
              ·rw [if_neg c27] at H
               have c27b0 : ((((rd_L1 l2 x12_2).length : Int) % t396) == 0) = false:=beq_eq_false_iff_ne.mpr c27
               have c27b1 : ((((rd_L1 l2 x12_2).length : Int) % t396) != 0) = true:=bne_iff_ne.mpr c27
               by_cases c52 : t412 = 1
               ·rw [if_pos c52] at H
                have c52b0 : (t412 == 1) = true:=beq_iff_eq.mpr c52
                have c52b1 : (t412 != 1) = false:=bne_eq_false_iff_eq.mpr c52
                clear c52
                by_cases c53 : (t409.length : Int) = 0
                ·rw [if_pos c53] at H
                 have c53b0 : ((t409.length : Int) == 0) = true:=beq_iff_eq.mpr c53
                 have c53b1 : ((t409.length : Int) != 0) = false:=bne_eq_false_iff_eq.mpr c53
                 clear c53
                 replace H:=Option.bind_eq_some_iff.mp H
                 obtain ⟨t417,A540,H⟩:=H
                 (try dsimp only at H)
                 have A54:=ak_ A540
                 clear A540
                 by_cases c55 : t417 = true
                 ·subst c55
                  have H1 : (madrigallaw22_ResampRuns.l0 k2 l2 t396 (wrap64 (x12_2 + 1)) t413 t414 t415 x395000_2 x395001_2 x395002_2) = some r:=by rw [if_pos rfl] at H;exact H
                  clear H
                  have H:=H1
                  clear H1
                  have H':=ak_ H
                  clear H
                  have p397 : 0 ≤ (x12_2 : Int):=of_decide_eq_true (by first|(with_reducible assumption)|assumption)
                  have q397 : x12_2 < (l2.length : Int):=of_decide_eq_true (by first|(with_reducible assumption)|assumption)
                  obtain ⟨ad397,A397_0,c397_0,e397,hx397_0,hl397_0,hi397_0⟩:=at_L1 HR2.out x12_2 p397 q397
                  cases e397
                  replace hx397_0:=(HB.out.cell (World.block_lt_of_cell? w _ hx397_0)).trans hx397_0;(try (have e_:=hx405_0.symm.trans hx397_0;injection e_ with e_;injection e_ with e1_ e2_ e3_;cases e1_;cases e3_));(try (have e_:=hx416_0.symm.trans hx397_0;injection e_ with e_;injection e_ with e1_ e2_ e3_;cases e1_;cases e3_));(try (have e_:=hx418_0.symm.trans hx397_0;injection e_ with e_;injection e_ with e1_ e2_ e3_;cases e1_;cases e3_));(try (have e_:=hx426_0.symm.trans hx397_0;injection e_ with e_;injection e_ with e1_ e2_ e3_;cases e1_;cases e3_))
                  have HR397_0:=ak_ hi397_0
                  have HC397_0:=ak_ hl397_0
                  clear hi397_0 hl397_0
                  replace p397:=eq_true p397
                  replace q397:=eq_true q397
                  go_wp2_with (first|((with_reducible refine gate_callee (f:=22) rfl ?_);refine goesL_ (some 71) rfl rfl Try.func22 (by kernel_rfl) rfl #[.pointer (some ⟨g387,0,none⟩)] rfl (by (try simp only [List.map_toArray,List.map_cons,List.map_nil]);first|done|rfl|(simp only [List.length_drop,List.length_take];rfl)) ?_;(with_reducible refine (resamp_Sampler_Copy.calls g387 x388000_2 x388001_2 x388002_2 t398 t399 t400 w _ ?side1 ?side2 A23.out).mono ?_);(case side1 => repeat (first|(with_reducible first|exact HI387.out|apply IsS53.alloc|apply IsS53.drewN|apply IsS53.drew)|exact HI387.out));(case side2 => repeat (first|(with_reducible first|exact HB.out|apply ba_|apply bb_|apply bc_|refine below_set ?_ (IsS53.ge HI387.out)|refine below_set ?_ (IsS58.ge HI394.out))|exact HB.out));rintro e w56 ⟨g401,rfl,hi,hb,hb2,hge⟩;refine ⟨_,rfl,?_⟩;have n0_:=ak_ (IsS53.below (by repeat (first|(with_reducible first|exact HI387.out|apply IsS53.alloc|apply IsS53.drewN|apply IsS53.drew)|exact HI387.out)) hb2);have n1_:=ak_ (IsS58.below (by repeat (first|(with_reducible first|exact HI394.out|apply IsS58.alloc|apply IsS58.drewN|apply IsS58.drew)|exact HI394.out)) hb2);have n2_:=ak_ (Nat.ne_of_gt (Nat.lt_of_lt_of_le (IsS53.lt (show IsS53 w _ g387 x388000_2 x388001_2 x388002_2 from by repeat (first|(with_reducible first|exact HI387.out|apply IsS53.alloc|apply IsS53.drewN|apply IsS53.drew)|exact HI387.out))) hge));have n3_:=ak_ (Nat.ne_of_gt (Nat.lt_of_lt_of_le (IsS58.lt (show IsS58 w _ g394 x395000_2 x395001_2 x395002_2 from by repeat (first|(with_reducible first|exact HI394.out|apply IsS58.alloc|apply IsS58.drewN|apply IsS58.drew)|exact HI394.out))) hge));have n4_:=ak_ (hb);have n5_:=ak_ (hi);clear HI387;clear HI394;clear HB;have HI387:=n0_;have HI394:=n1_;have NS401_387:=n2_;have NS401_394:=n3_;have HB:=n4_;have HI401:=n5_;clear n0_ n1_ n2_ n3_ n4_ n5_;(try clear hb);(try clear hb2);(try clear hi);(try clear hge))|((with_reducible refine gate_dst (N:=74) rfl ?_);(try (refine gate_guard (by rfl) ?_;dsimp only));refine Kd.R_lit (Kd.int .i64) _ 2 ?hg (N:=74) ?hd (xs:=([] : List Int)) (inner:=[]) (ok:=fun _ => True) (okp:=fun _ => True) ?hr ?hp (fun _ hk => hk) trivial (Below.refl _ _) (Nat.le_refl _) (by simp) ?_;(case hd => rfl);(case hg => rfl);(case hr => first|(go_simp;done)|(go_simp;rfl));(case hp => exact (Reps.none _ _));intro v403 w57 ho58 hb hg_ hnew_;have hsx_:=IsS58.newer (by repeat (first|(with_reducible first|exact HI394.out|apply IsS58.alloc|apply IsS58.drewN|apply IsS58.drew)|exact HI394.out)) hnew_ hb;clear hg_ hnew_;(first|rw [← Ny402.out] at ho58|(simp only [Int.reduceToNat] at ho58;rw [← Ny402.out] at ho58));have n0_:=ak_ (Kd.R_lower ho58 (below_size (by repeat (first|(with_reducible first|exact HB.out|apply ba_|apply bb_|apply bc_|refine below_set ?_ (IsS53.ge HI387.out)|refine below_set ?_ (IsS58.ge HI394.out)|refine below_set ?_ (IsS53.ge HI401.out))|exact HB.out))));have n1_:=ak_ (IsS53.below (by repeat (first|(with_reducible first|exact HI387.out|apply IsS53.alloc|apply IsS53.drewN|apply IsS53.drew)|exact HI387.out)) hb);have n2_:=ak_ (hsx_);have n3_:=ak_ (IsS53.below (by repeat (first|(with_reducible first|exact HI401.out|apply IsS53.alloc|apply IsS53.drewN|apply IsS53.drew)|exact HI401.out)) hb);have n4_:=ak_ (below_step (by repeat (first|(with_reducible first|exact HB.out|apply ba_|apply bb_|apply bc_|refine below_set ?_ (IsS53.ge HI387.out)|refine below_set ?_ (IsS58.ge HI394.out)|refine below_set ?_ (IsS53.ge HI401.out))|exact HB.out)) hb);clear HI387;clear HI394;clear HI401;clear HB;have HO404:=n0_;have HI387:=n1_;have HI394:=n2_;have HI401:=n3_;have HB:=n4_;clear n0_ n1_ n2_ n3_ n4_;clear hb ho58;have p405 : 0 ≤ (x12_2 : Int):=of_decide_eq_true (by first|(with_reducible assumption)|assumption);have q405 : x12_2 < (l2.length : Int):=of_decide_eq_true (by first|(with_reducible assumption)|assumption);obtain ⟨ad405,A405_0,c405_0,e405,hx405_0,hl405_0,hi405_0⟩:=at_L1 HR2.out x12_2 p405 q405;obtain rfl : ad397 = ad405:=(by injection e405);replace hx405_0:=(HB.out.cell (World.block_lt_of_cell? w _ hx405_0)).trans hx405_0;(try (have e_:=hx397_0.symm.trans hx405_0;injection e_ with e_;injection e_ with e1_ e2_ e3_;cases e1_;cases e3_));(try (have e_:=hx416_0.symm.trans hx405_0;injection e_ with e_;injection e_ with e1_ e2_ e3_;cases e1_;cases e3_));(try (have e_:=hx418_0.symm.trans hx405_0;injection e_ with e_;injection e_ with e1_ e2_ e3_;cases e1_;cases e3_));(try (have e_:=hx426_0.symm.trans hx405_0;injection e_ with e_;injection e_ with e1_ e2_ e3_;cases e1_;cases e3_));have HR405_0:=ak_ hi405_0;have HC405_0:=ak_ hl405_0;clear hi405_0 hl405_0;replace p405:=eq_true p405;replace q405:=eq_true q405)|((with_reducible refine gate_builtin (b:=.append) (xs:=#[.tmp 74,.tmp 78]) rfl ?_);(try (refine gate_guard (by rfl) ?_;dsimp only));at_builtin;refine Kd.R_append_rows (Kd.int .i64) (w0:=w) w.heap.size rfl (.tmp 74) (.tmp 78) 27 2 (.int .i64 0) 8 rfl Try.underlying27 info2 rfl (by decide) (by omega) v403 y402 (rd_L1 l2 x12_2) _ _ _ (fun _ => True) (fun _ => False) rfl rfl ?aO ?aR (fun _ _ h => h) (fun _ h => h.elim) ?aF ?aB ?aS ?aL ?_;(case aR => repeat (first|exact (Kd.C_below HR405_0.out HB.out)|(with_reducible refine Kd.C_alloc ?_ _)|(with_reducible refine Kd.C_drewN ?_ _)|(with_reducible refine Kd.C_drew ?_)));(case aB => exact (by repeat (first|(with_reducible first|exact HB.out|apply ba_|apply bb_|apply bc_|refine below_set ?_ (IsS53.ge HI387.out)|refine below_set ?_ (IsS58.ge HI394.out)|refine below_set ?_ (IsS53.ge HI401.out))|exact HB.out)));(case aF => exact (fun _ _ => trivial));(case aO => exact (by (with_reducible repeat (first|apply ra_|apply rb_|apply rc_));exact HO404.out));(case aS => exact (below_size (by repeat (first|(with_reducible first|exact HB.out|apply ba_|apply bb_|apply bc_|refine below_set ?_ (IsS53.ge HI387.out)|refine below_set ?_ (IsS58.ge HI394.out)|refine below_set ?_ (IsS53.ge HI401.out))|exact HB.out))));(case aL => have:=LMc24.out;omega);intro v407 w59 ho hb hg hat;rw [← Ny406.out] at ho;have n0_:=ak_ (IsS53.grown (by repeat (first|(with_reducible first|exact HI387.out|apply IsS53.alloc|apply IsS53.drewN|apply IsS53.drew)|exact HI387.out)) hg (IsS53.own_ne HI387.out HO404.out (by decide)));have n1_:=ak_ (IsS58x.grown HI394.out hg (IsS58x.own_ne HI394.out HO404.out (by decide)));have n2_:=ak_ (IsS53.grown (by repeat (first|(with_reducible first|exact HI401.out|apply IsS53.alloc|apply IsS53.drewN|apply IsS53.drew)|exact HI401.out)) hg (IsS53.own_ne HI401.out HO404.out (by decide)));have n3_:=ak_ (hb);have n4_:=ak_ (ho);clear HI387;clear HI394;clear HI401;clear HB;clear HO404;have HI387:=n0_;have HI394:=n1_;have HI401:=n2_;have HB:=n3_;have HO408:=n4_;clear n0_ n1_ n2_ n3_ n4_;clear ho hb hg hat;obtain ⟨Ao60,co60,eo60⟩:=Kd.R_slice HO408.out;subst eo60)|((with_reducible refine gate_callee (f:=13) rfl ?_);refine goesL_ (some 80) rfl rfl Try.func13 (by kernel_rfl) rfl #[.pointer (some ⟨g387,0,none⟩),.slice Ao60 y406.length co60] rfl (by (try simp only [List.map_toArray,List.map_cons,List.map_nil]);first|done|rfl|(simp only [List.length_drop,List.length_take];rfl)) ?_;(with_reducible refine (resamp_Sampler_Run.calls k2 g387 x388000_2 x388001_2 x388002_2 _ _ y406 t409 t412 t413 t414 t415 w _ ?side1 ?side2 ?side3 ?side4 ?side5 A25.out).mono ?_);(case side1 => repeat (first|(with_reducible first|exact HI387.out|apply IsS53.alloc|apply IsS53.drewN|apply IsS53.drew)|exact HI387.out));(case side2 => repeat (first|(with_reducible first|exact HB.out|apply ba_|apply bb_|apply bc_|refine below_set ?_ (IsS53.ge HI387.out)|refine below_set ?_ (IsS58.ge HI394.out)|refine below_set ?_ (IsS53.ge HI401.out))|exact HB.out));(case side3 => repeat (first|exact (Kd.R_reads' HO408.out).2.2|(with_reducible refine Kd.C_alloc ?_ _)|(with_reducible refine Kd.C_drewN ?_ _)|(with_reducible refine Kd.C_drew ?_)));(case side4 => exact (Kd.R_reads' HO408.out).2.1);(case side5 => exact far_slice (IsS53.own_ne HI387.out HO408.out (by decide)));rintro e w61 ⟨v410,rfl,ho0,hi,hb,hk⟩;refine ⟨_,rfl,?_⟩;have n0_:=ak_ (IsS58.keepB (show IsS58 w _ g394 x395000_2 x395001_2 x395002_2 from by repeat (first|(with_reducible first|exact HI394.out|apply IsS58.alloc|apply IsS58.drewN|apply IsS58.drew)|exact HI394.out)) hk NS394_387.out (IsS53.typ (show IsS53 w _ g387 x388000_2 x388001_2 x388002_2 from by repeat (first|(with_reducible first|exact HI387.out|apply IsS53.alloc|apply IsS53.drewN|apply IsS53.drew)|exact HI387.out))));have n1_:=ak_ (IsS53.keepB (show IsS53 w _ g401 t398 t399 t400 from by repeat (first|(with_reducible first|exact HI401.out|apply IsS53.alloc|apply IsS53.drewN|apply IsS53.drew)|exact HI401.out)) hk NS401_387.out);have n2_:=ak_ (Kd.R_mono (Kd.R_told (Kd.R_oldK (IsS53.apart (show IsS53 w _ g387 x388000_2 x388001_2 x388002_2 from by repeat (first|(with_reducible first|exact HI387.out|apply IsS53.alloc|apply IsS53.drewN|apply IsS53.drew)|exact HI387.out)) (by (with_reducible repeat (first|apply ra_|apply rb_|apply rc_));exact HO408.out) (by decide)) hk) (Kd.R_base ho0)) (fun _ h_ => h_.1));have n3_:=ak_ (Kd.R_lower (Kd.R_new' ho0 (Kd.R_lt (by (with_reducible repeat (first|apply ra_|apply rb_|apply rc_));exact HO408.out))) (below_size (by repeat (first|(with_reducible first|exact HB.out|apply ba_|apply bb_|apply bc_|refine below_set ?_ (IsS53.ge HI387.out)|refine below_set ?_ (IsS58.ge HI394.out)|refine below_set ?_ (IsS53.ge HI401.out))|exact HB.out))));have n4_:=ak_ (hb);have n5_:=ak_ (hi);clear HI394;clear HI401;clear HO408;clear HB;clear HI387;have HI394:=n0_;have HI401:=n1_;have HO408:=n2_;have HO411:=n3_;have HB:=n4_;have HI387:=n5_;clear n0_ n1_ n2_ n3_ n4_ n5_;(try clear hb);(try clear hk);(try clear hi);(try clear ho0);have p416 : 0 ≤ (x12_2 : Int):=of_decide_eq_true (by first|(with_reducible assumption)|assumption);have q416 : x12_2 < (l2.length : Int):=of_decide_eq_true (by first|(with_reducible assumption)|assumption);obtain ⟨ad416,A416_0,c416_0,e416,hx416_0,hl416_0,hi416_0⟩:=at_L1 HR2.out x12_2 p416 q416;obtain rfl : ad397 = ad416:=(by injection e416);replace hx416_0:=(HB.out.cell (World.block_lt_of_cell? w _ hx416_0)).trans hx416_0;(try (have e_:=hx397_0.symm.trans hx416_0;injection e_ with e_;injection e_ with e1_ e2_ e3_;cases e1_;cases e3_));(try (have e_:=hx405_0.symm.trans hx416_0;injection e_ with e_;injection e_ with e1_ e2_ e3_;cases e1_;cases e3_));(try (have e_:=hx418_0.symm.trans hx416_0;injection e_ with e_;injection e_ with e1_ e2_ e3_;cases e1_;cases e3_));(try (have e_:=hx426_0.symm.trans hx416_0;injection e_ with e_;injection e_ with e1_ e2_ e3_;cases e1_;cases e3_));have HR416_0:=ak_ hi416_0;have HC416_0:=ak_ hl416_0;clear hi416_0 hl416_0;replace p416:=eq_true p416;replace q416:=eq_true q416;obtain ⟨Ao62,co62,eo62⟩:=Kd.R_slice HO411.out;subst eo62)|(go_at_call 23;(with_reducible refine (resamp_Sampler_Same.calls g387 t413 t414 t415 g401 t398 t399 t400 true w _ ?side1 ?side2 ?side3 A54.out).mono ?_);(case side1 => repeat (first|(with_reducible first|exact HI387.out|apply IsS53.alloc|apply IsS53.drewN|apply IsS53.drew)|exact HI387.out));(case side2 => repeat (first|(with_reducible first|exact HI401.out|apply IsS53.alloc|apply IsS53.drewN|apply IsS53.drew)|exact HI401.out));(case side3 => repeat (first|(with_reducible first|exact HB.out|apply ba_|apply bb_|apply bc_|refine below_set ?_ (IsS53.ge HI387.out)|refine below_set ?_ (IsS58.ge HI394.out)|refine below_set ?_ (IsS53.ge HI401.out))|exact HB.out));rintro e w' ⟨rfl,⟨nd,rfl⟩⟩))
                  go_roundg k2
                  case measure => have:=HJ9.out;have:=HK2.out;omega
                  case rel => exact ⟨(wrap64 (x12_2 + 1)),(t413),(t414),(t415),(x395000_2),(x395001_2),(x395002_2),(by first|rfl|(simp;done)|(simp [*];done)),H',⟨by have:=HJ9.out;have:=HK2.out;omega⟩,⟨by repeat (first|(with_reducible first|exact HI387.out|apply IsS53.alloc|apply IsS53.drewN|apply IsS53.drew)|exact HI387.out)⟩,⟨by repeat (first|(with_reducible first|exact HI394.out|apply IsS58.alloc|apply IsS58.drewN|apply IsS58.drew)|exact HI394.out)⟩,⟨by repeat (first|(with_reducible first|exact HB.out|apply ba_|apply bb_|apply bc_|refine below_set ?_ (IsS53.ge HI387.out)|refine below_set ?_ (IsS58.ge HI394.out)|refine below_set ?_ (IsS53.ge HI401.out))|exact HB.out)⟩⟩
                 ·replace c55:=Bool.eq_false_iff.mpr c55
                  subst c55
                  have H1 : (none) = some r:=by rw [if_neg (show ¬ (false = true) by decide)] at H;exact H
                  clear H
                  have H:=H1
                  clear H1
                  exact absurd H (by simp)
                ·rw [if_neg c53] at H
                 exact absurd H (by simp)
               ·rw [if_neg c52] at H
                exact absurd H (by simp)
            ·rw [if_neg c24] at H
             exact absurd H (by simp)
          ·rw [if_neg c21] at H
           exact absurd H (by simp)
         ·rw [if_neg c20] at H
          have c20b0:=decide_eq_false c20
          clear c20
          obtain rfl:=Option.some.inj H
          go_wp2
          go_ret
          exact ⟨by first|rfl|(simp [errW_none,errW_some] <;> rfl)|(simp [*,errW_none,errW_some] <;> rfl),by repeat (first|(with_reducible first|exact HB.out|apply ba_|apply bb_|apply bc_|refine below_set ?_ (IsS53.ge HI387.out)|refine below_set ?_ (IsS58.ge HI394.out))|exact HB.out)⟩
   ·rw [if_neg c8] at H
    have c8b0 : (resamp_Good.f a0 a1 == some true) = false:=beq_eq_false_iff_ne.mpr c8
    have c8b1 : (resamp_Good.f a0 a1 != some true) = true:=bne_iff_ne.mpr c8
    replace H:=Option.bind_eq_some_iff.mp H
    obtain ⟨t437,A630,H⟩:=H
    (try dsimp only at H)
    have A63:=ak_ A630
    clear A630
    have HC64:=ak_ H
    clear H
    go_enter Try.func5,Try.ntmps5
    go_upto_region 6 with (first|((with_reducible refine gate_callee (f:=11) rfl ?_);refine goesL_ (some 18) rfl rfl Try.func11 (by kernel_rfl) rfl #[] rfl (by (try simp only [List.map_toArray,List.map_cons,List.map_nil]);first|done|rfl|(simp only [List.length_drop,List.length_take];rfl)) ?_;(with_reducible refine (madrigallaw22_awake.calls k  true _ A4.out).mono ?_);rintro e w65 ⟨rfl,hb⟩;refine ⟨_,rfl,?_⟩;have n0_:=ak_ (below_step (by repeat (first|(with_reducible first|exact HB.out|apply ba_|apply bb_|apply bc_)|exact HB.out)) hb);clear HB;have HB:=n0_;clear n0_;(try clear hb))|((with_reducible refine gate_callee (f:=12) rfl ?_);refine goesL_ (some 26) rfl rfl Try.func12 (by kernel_rfl) rfl #[.int .i64 a0,.int .i64 a1] rfl (by (try simp only [List.map_toArray,List.map_cons,List.map_nil]);first|done|rfl|(simp only [List.length_drop,List.length_take];rfl)) ?_;(with_reducible refine (resamp_New0.calls a0 a1 t437 _ A63.out).mono ?_);rintro e w' ⟨rfl,⟨nd,rfl⟩⟩;refine ⟨_,rfl,?_⟩))
    (try simp only [Act.put,List.setIfInBounds_toArray,List.set_cons_zero,List.set_cons_succ])
    go_cut [36] (fun v36 wc => ∃ (kq : Nat) (x36_63 : Bool),v36 = .bool x36_63 ∧ Aside0 (madrigallaw22_ResampRuns.j3 kq x36_63 = some r) ∧ Aside0 (kq ≤ k) ∧ Aside0 (Below w.heap.size w wc))
    case first =>
     have H:=HC64.out
     clear HC64
     replace H:=Option.bind_eq_some_iff.mp H
     obtain ⟨t438,A660,H⟩:=H
     (try dsimp only at H)
     have A66:=ak_ A660
     clear A660
     by_cases c67 : t438 = true
     ·subst c67
      have H1 : ((madrigalref10_Known.f a1).bind fun t439 => (madrigallaw22_ResampRuns.j3 k (!t439))) = some r:=by rw [if_pos rfl] at H;exact H
      clear H
      have H:=H1
      clear H1
      replace H:=Option.bind_eq_some_iff.mp H
      obtain ⟨t439,A680,H⟩:=H
      (try dsimp only at H)
      have A68:=ak_ A680
      clear A680
      have H':=ak_ H
      clear H
      go_wp2_with (first|((with_reducible refine gate_callee (f:=15) rfl ?_);refine goesL_ (some 30) rfl rfl Try.func15 (by kernel_rfl) rfl #[.int .i64 a0] rfl (by (try simp only [List.map_toArray,List.map_cons,List.map_nil]);first|done|rfl|(simp only [List.length_drop,List.length_take];rfl)) ?_;(with_reducible refine (madrigalref10_Known.calls a0 true _ A66.out).mono ?_);rintro e w' ⟨rfl,⟨nd,rfl⟩⟩;refine ⟨_,rfl,?_⟩)|(go_at_call 15;(with_reducible refine (madrigalref10_Known.calls a1 t439 _ A68.out).mono ?_);rintro e w' ⟨rfl,⟨nd,rfl⟩⟩))
      go_meet
      case rel => exact ⟨_,(!t439),(by first|rfl|(simp;done)|(simp [*];done)),H',⟨by first|omega|exact Nat.le_refl _⟩,⟨by repeat (first|(with_reducible first|exact HB.out|apply ba_|apply bb_|apply bc_)|exact HB.out)⟩⟩
     ·replace c67:=Bool.eq_false_iff.mpr c67
      subst c67
      have H1 : (madrigallaw22_ResampRuns.j3 k true) = some r:=by rw [if_neg (show ¬ (false = true) by decide)] at H;exact H
      clear H
      have H:=H1
      clear H1
      have H':=ak_ H
      clear H
      go_wp2_with (first|((with_reducible refine gate_callee (f:=15) rfl ?_);refine goesL_ (some 30) rfl rfl Try.func15 (by kernel_rfl) rfl #[.int .i64 a0] rfl (by (try simp only [List.map_toArray,List.map_cons,List.map_nil]);first|done|rfl|(simp only [List.length_drop,List.length_take];rfl)) ?_;(with_reducible refine (madrigalref10_Known.calls a0 false _ A66.out).mono ?_);rintro e w' ⟨rfl,⟨nd,rfl⟩⟩;refine ⟨_,rfl,?_⟩))
      go_meet
      case rel => exact ⟨_,(true),(by first|rfl|(simp;done)|(simp [*];done)),H',⟨by first|omega|exact Nat.le_refl _⟩,⟨by repeat (first|(with_reducible first|exact HB.out|apply ba_|apply bb_|apply bc_)|exact HB.out)⟩⟩
    case rest =>
     clear HC64
     try clear c1
     try clear c2
     try clear p2
     try clear c3
     try clear p3
     try clear q3
     try clear hx3
     try clear c4
     try clear p4
     try clear q4
     try clear hx4
     try clear c5
     try clear c6
     try clear c6b0
     try clear c6b1
     try clear p6
     try clear c8
     try clear c8b0
     try clear c8b1
     try clear c11
     try clear c12
     try clear c13
     try clear c14
     try clear c15
     try clear c16
     try clear c17
     try clear c18
     try clear c20
     try clear c20b0
     try clear c21
     try clear c21b0
     try clear c22
     try clear c22b0
     try clear c22b1
     try clear c24
     try clear c26
     try clear c26b0
     try clear c26b1
     try clear c27
     try clear c27b0
     try clear c27b1
     try clear c35
     try clear c35b0
     try clear c35b1
     try clear c39
     try clear p39
     try clear q39
     try clear hx39
     try clear c40
     try clear p40
     try clear q40
     try clear hx40
     try clear c41
     try clear p41
     try clear q41
     try clear hx41
     try clear c42
     try clear c42b0
     try clear p42
     try clear q42
     try clear hx42
     try clear c43
     try clear c43b0
     try clear c46
     try clear c48
     try clear c52
     try clear c52b0
     try clear c52b1
     try clear c53
     try clear c53b0
     try clear c53b1
     try clear c55
     try clear p64
     try clear c67
     try clear hx397_0
     try clear hx405_0
     try clear hx416_0
     try clear hx418_0
     try clear hx426_0
     try clear p2
     try clear p3
     try clear p39
     try clear p397
     try clear p4
     try clear p40
     try clear p405
     try clear p416
     try clear p418
     try clear p426
     try clear p6
     try clear q3
     try clear q39
     try clear q397
     try clear q4
     try clear q40
     try clear q405
     try clear q416
     try clear q418
     try clear q426
     obtain ⟨kq,x36_63,rfl,HA,HJ63,HB⟩:=hcut
     (try simp only [i64_w,i32_w])
     cases kq with
     | zero => exact absurd HA.out (by simp [madrigallaw22_ResampRuns.j3])
     | succ kj63 =>
      have H:=HA.out
      clear HA
      simp only [madrigallaw22_ResampRuns.j3] at H
      by_cases c69 : x36_63 = true
      ·subst c69
       have H1 : (some true) = some r:=by rw [if_pos rfl] at H;exact H
       clear H
       have H:=H1
       clear H1
       obtain rfl:=Option.some.inj H
       go_wp2
       go_ret
       exact ⟨by first|rfl|(simp [errW_none,errW_some] <;> rfl)|(simp [*,errW_none,errW_some] <;> rfl),by repeat (first|(with_reducible first|exact HB.out|apply ba_|apply bb_|apply bc_)|exact HB.out)⟩
      ·replace c69:=Bool.eq_false_iff.mpr c69
       subst c69
       have H1 : (none) = some r:=by rw [if_neg (show ¬ (false = true) by decide)] at H;exact H
       clear H
       have H:=H1
       clear H1
       exact absurd H (by simp)
 ·replace c5:=Bool.eq_false_iff.mpr c5
  subst c5
  have H1 : (none) = some r:=by rw [if_neg (show ¬ (false = true) by decide)] at H;exact H
  clear H
  have H:=H1
  clear H1
  exact absurd H (by simp)

/-- THE ONE PURE STATEMENT of madrigallaw22_ResampRuns. -/
def madrigallaw22_ResampRuns.Pure : Prop:=∀ (a0 : Int) (a1 : Int) (l2 : List (List Int)),(Lit.int .i64 a0).wf = true → (Lit.int .i64 a1).wf = true → l2.length ≤ maxLen → (∀ z ∈ l2,z.length ≤ maxLen ∧ ∀ x ∈ z,(Lit.int .i64 x).wf = true) → ∃ k,madrigallaw22_ResampRuns.f k a0 a1 l2 = some true
theorem madrigallaw22_ResampRuns.walk (P : madrigallaw22_ResampRuns.Pure) (a0 : Int) (a1 : Int) (a2 : Option Addr) (len2 cap2 : Nat) (z2 : List (List Int)) (w : World) (w0 : (Lit.int .i64 a0).wf = true) (w1 : (Lit.int .i64 a1).wf = true) (w2 : Kd.C (Kd.slice 2 (Kd.int .i64)) w a2 len2 z2) (y2 : len2 ≤ cap2 ∧ z2.length ≤ maxLen ∧ ∀ z ∈ z2,z.length ≤ maxLen ∧ ∀ x ∈ z,(Lit.int .i64 x).wf = true) :
  Calls Try.prog 5 #[.int .i64 a0,.int .i64 a1,.slice a2 len2 cap2] w fun e w' => e = .returned (.bool true) ∧ Below w.heap.size w w':=by
 obtain ⟨y2,hm2,hw2⟩:=y2
 obtain rfl : z2.length = len2:=w2.1
 obtain ⟨k,h⟩:=P a0 a1 z2 w0 w1 hm2 hw2
 refine (madrigallaw22_ResampRuns.calls k a0 a1 _ _ z2 true w w2 y2 h).mono ?_
 rintro e w' ⟨rfl,hd⟩
 exact ⟨rfl,hd⟩

end Go.Proofs.Ytcicenmmpbgmoaa.P
