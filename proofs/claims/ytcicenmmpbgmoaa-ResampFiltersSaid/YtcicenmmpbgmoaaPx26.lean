/- The machine side of the laws of one chapter, without conditions: each call of a Go function comes to what the Lean function of its name answers. Written for this claim by a program of the prover. -/
import Derived.Test.YtcicenmmpbgmoaaPx0
import Derived.Test.YtcicenmmpbgmoaaPx1
import Derived.Test.YtcicenmmpbgmoaaPx9
import Derived.Test.YtcicenmmpbgmoaaPx12
import Derived.Test.YtcicenmmpbgmoaaPx15
import Derived.Test.YtcicenmmpbgmoaaPx17
import Derived.Test.YtcicenmmpbgmoaaPx18
import Derived.Test.YtcicenmmpbgmoaaPx25
namespace Go.Proofs.Ytcicenmmpbgmoaa.P
open Go.RowKit Go.Proofs.YtcicenmmpbgmoaaW.PrintWords Go.Proofs.YtcicenmmpbgmoaaW.PrintLast Go.Proofs.YtcicenmmpbgmoaaW.PrintMore
attribute [local go_sem] max2_int min2_int max_two min_two max_three min_three max_four min_four   -- for this text's walks alone
set_option linter.unusedVariables false
set_option linter.unusedSimpArgs false

/-! ### madrigallaw22_ResampFilters: function 4 -/
mutual
def madrigallaw22_ResampFilters.j0 : Nat → Int → Int → Int → List Int → Bool → Option (Bool)
 | 0,_,_,_,_,_ => none
 | k + 1,x0,x1,x2,x7,x8 => (resamp_Good.f x0 x1).bind fun t329 => (if (t329 != x8) = true then (none) else (if x8 = true then ((madrigalref10_Parts.f k x0 x1).bind fun bt330 => (if x2 ≥ 0 then (madrigallaw22_ResampFilters.j1 k x0 x1 x2 x7 (decide (x2 < bt330.1))) else (madrigallaw22_ResampFilters.j1 k x0 x1 x2 x7 false))) else (madrigallaw22_ResampFilters.j1 k x0 x1 x2 x7 x8)))
def madrigallaw22_ResampFilters.j1 : Nat → Int → Int → Int → List Int → Bool → Option (Bool)
 | 0,_,_,_,_,_ => none
 | k + 1,x0,x1,x2,x7,x8 => if x8 = true then ((madrigalref10_Phase.f k x0 x1 x2).bind fun t332 => ((madrigallaw22_same.f k x7 t332).bind fun t335 => (if t335 = true then ((madrigallaw22_sum.f k x7).bind fun t336 => (some (t336 == 32768))) else (none)))) else (some ((x7.length : Int) == 0))
end
def madrigallaw22_ResampFilters.f (k : Nat) (a0 : Int) (a1 : Int) (a2 : Int) : Option (Bool):=(madrigallaw22_awake.f k).bind fun t323 => (if t323 = true then ((resamp_Filter.f k a0 a1 a2).bind fun t324 => ((madrigalref10_Known.f a0).bind fun t327 => (if t327 = true then ((madrigalref10_Known.f a1).bind fun t328 => (madrigallaw22_ResampFilters.j0 k a0 a1 a2 t324 t328)) else (madrigallaw22_ResampFilters.j0 k a0 a1 a2 t324 false)))) else (none))
theorem madrigallaw22_ResampFilters.mono_l : ∀ k,(∀ y0 y1 y2 y3 y4,LeO (madrigallaw22_ResampFilters.j0 k y0 y1 y2 y3 y4) (madrigallaw22_ResampFilters.j0 (k + 1) y0 y1 y2 y3 y4)) ∧ (∀ y0 y1 y2 y3 y4,LeO (madrigallaw22_ResampFilters.j1 k y0 y1 y2 y3 y4) (madrigallaw22_ResampFilters.j1 (k + 1) y0 y1 y2 y3 y4))
 | 0 => ⟨fun _ _ _ _ _ r h => by simp [madrigallaw22_ResampFilters.j0] at h,fun _ _ _ _ _ r h => by simp [madrigallaw22_ResampFilters.j1] at h⟩
 | k + 1 => by
  obtain ⟨ih0,ih1⟩:=madrigallaw22_ResampFilters.mono_l k
  refine ⟨?_,?_⟩
  all_goals (intros;first|unfold madrigallaw22_ResampFilters.j0|unfold madrigallaw22_ResampFilters.j1)
  all_goals (repeat' first|(with_reducible first|exact ih0 _ _ _ _ _|exact ih1 _ _ _ _ _|exact madrigallaw22_awake.mono _|exact madrigallaw22_same.mono _ _ _|exact madrigallaw22_sum.mono _ _|exact madrigalref10_Parts.mono _ _ _|exact madrigalref10_Phase.mono _ _ _ _|exact resamp_Filter.mono _ _ _ _|exact LeO.refl _|exact LeO.none _|refine LeO.ite ?_ ?_|refine LeO.bind ?_ (fun _ => ?_))|exact ih0 _ _ _ _ _|exact ih1 _ _ _ _ _|exact madrigallaw22_awake.mono _|exact madrigallaw22_same.mono _ _ _|exact madrigallaw22_sum.mono _ _|exact madrigalref10_Parts.mono _ _ _|exact madrigalref10_Phase.mono _ _ _ _|exact resamp_Filter.mono _ _ _ _|exact LeO.none _|refine LeO.ite ?_ ?_|refine LeO.bind ?_ (fun _ => ?_))
theorem madrigallaw22_ResampFilters.mono : ∀ a0 a1 a2 k,LeO (madrigallaw22_ResampFilters.f k a0 a1 a2) (madrigallaw22_ResampFilters.f (k + 1) a0 a1 a2):=by
 intro a0 a1 a2 k
 obtain ⟨ih0,ih1⟩:=madrigallaw22_ResampFilters.mono_l k
 unfold madrigallaw22_ResampFilters.f
 repeat' first|(with_reducible first|exact ih0 _ _ _ _ _|exact ih1 _ _ _ _ _|exact madrigallaw22_awake.mono _|exact madrigallaw22_same.mono _ _ _|exact madrigallaw22_sum.mono _ _|exact madrigalref10_Parts.mono _ _ _|exact madrigalref10_Phase.mono _ _ _ _|exact resamp_Filter.mono _ _ _ _|exact LeO.refl _|exact LeO.none _|refine LeO.ite ?_ ?_|refine LeO.bind ?_ (fun _ => ?_))|exact ih0 _ _ _ _ _|exact ih1 _ _ _ _ _|exact madrigallaw22_awake.mono _|exact madrigallaw22_same.mono _ _ _|exact madrigallaw22_sum.mono _ _|exact madrigalref10_Parts.mono _ _ _|exact madrigalref10_Phase.mono _ _ _ _|exact resamp_Filter.mono _ _ _ _|exact LeO.none _|refine LeO.ite ?_ ?_|refine LeO.bind ?_ (fun _ => ?_)
set_option maxHeartbeats 8000000 in
set_option maxRecDepth 100000 in
theorem madrigallaw22_ResampFilters.calls (k : Nat) (a0 : Int) (a1 : Int) (a2 : Int) (r : Bool) (w : World) (h : madrigallaw22_ResampFilters.f k a0 a1 a2 = some r) :
  Calls Try.prog 4 #[.int .i64 a0,.int .i64 a1,.int .i64 a2] w fun e w' => e = .returned (.bool r) ∧ Below w.heap.size w w':=by
 have HB:=ak_ (Below.refl w.heap.size w)
 have H : ((madrigallaw22_awake.f k).bind fun t323 => (if t323 = true then ((resamp_Filter.f k a0 a1 a2).bind fun t324 => ((madrigalref10_Known.f a0).bind fun t327 => (if t327 = true then ((madrigalref10_Known.f a1).bind fun t328 => (madrigallaw22_ResampFilters.j0 k a0 a1 a2 t324 t328)) else (madrigallaw22_ResampFilters.j0 k a0 a1 a2 t324 false)))) else (none))) = some r:=h
 clear h
 replace H:=Option.bind_eq_some_iff.mp H
 obtain ⟨t323,A40,H⟩:=H
 (try dsimp only at H)
 have A4:=ak_ A40
 clear A40
 by_cases c5 : t323 = true
 ·subst c5
  have H1 : ((resamp_Filter.f k a0 a1 a2).bind fun t324 => ((madrigalref10_Known.f a0).bind fun t327 => (if t327 = true then ((madrigalref10_Known.f a1).bind fun t328 => (madrigallaw22_ResampFilters.j0 k a0 a1 a2 t324 t328)) else (madrigallaw22_ResampFilters.j0 k a0 a1 a2 t324 false)))) = some r:=by rw [if_pos rfl] at H;exact H
  clear H
  have H:=H1
  clear H1
  replace H:=Option.bind_eq_some_iff.mp H
  obtain ⟨t324,A60,H⟩:=H
  (try dsimp only at H)
  have A6:=ak_ A60
  clear A60
  have HC7:=ak_ H
  clear H
  go_enter Try.func4,Try.ntmps4
  go_upto_region 4 with (first|((with_reducible refine gate_callee (f:=11) rfl ?_);refine goesL_ (some 11) rfl rfl Try.func11 (by kernel_rfl) rfl #[] rfl (by (try simp only [List.map_toArray,List.map_cons,List.map_nil]);first|done|rfl|(simp only [List.length_drop,List.length_take];rfl)) ?_;(with_reducible refine (madrigallaw22_awake.calls k  true _ A4.out).mono ?_);rintro e w8 ⟨rfl,hb⟩;refine ⟨_,rfl,?_⟩;have n0_:=ak_ (below_step (by repeat (first|(with_reducible first|exact HB.out|apply ba_|apply bb_|apply bc_)|exact HB.out)) hb);clear HB;have HB:=n0_;clear n0_;(try clear hb))|((with_reducible refine gate_callee (f:=14) rfl ?_);refine goesL_ (some 16) rfl rfl Try.func14 (by kernel_rfl) rfl #[.int .i64 a0,.int .i64 a1,.int .i64 a2] rfl (by (try simp only [List.map_toArray,List.map_cons,List.map_nil]);first|done|rfl|(simp only [List.length_drop,List.length_take];rfl)) ?_;(with_reducible refine (resamp_Filter.calls k a0 a1 a2 t324 _ A6.out).mono ?_);rintro e w9 ⟨v325,rfl,ho0,hb⟩;refine ⟨_,rfl,?_⟩;have n0_:=ak_ (Kd.R_lower ho0 (below_size (by repeat (first|(with_reducible first|exact HB.out|apply ba_|apply bb_|apply bc_)|exact HB.out))));have n1_:=ak_ (below_step (by repeat (first|(with_reducible first|exact HB.out|apply ba_|apply bb_|apply bc_)|exact HB.out)) hb);clear HB;have HO326:=n0_;have HB:=n1_;clear n0_ n1_;(try clear hb);(try clear ho0)))
  (try simp only [Act.put,List.setIfInBounds_toArray,List.set_cons_zero,List.set_cons_succ])
  go_cut [8] (fun v8 wc => ∃ (kq : Nat) (x8_6 : Bool),v8 = .bool x8_6 ∧ Aside0 (madrigallaw22_ResampFilters.j0 kq a0 a1 a2 t324 x8_6 = some r) ∧ Aside0 (kq ≤ k) ∧ Aside0 (Kd.R (Kd.int .i64) 2 wc w.heap.size (fun _ => True) v325 t324) ∧ Aside0 (Below w.heap.size w wc))
  case first =>
   have H:=HC7.out
   clear HC7
   replace H:=Option.bind_eq_some_iff.mp H
   obtain ⟨t327,A100,H⟩:=H
   (try dsimp only at H)
   have A10:=ak_ A100
   clear A100
   by_cases c11 : t327 = true
   ·subst c11
    have H1 : ((madrigalref10_Known.f a1).bind fun t328 => (madrigallaw22_ResampFilters.j0 k a0 a1 a2 t324 t328)) = some r:=by rw [if_pos rfl] at H;exact H
    clear H
    have H:=H1
    clear H1
    replace H:=Option.bind_eq_some_iff.mp H
    obtain ⟨t328,A120,H⟩:=H
    (try dsimp only at H)
    have A12:=ak_ A120
    clear A120
    have H':=ak_ H
    clear H
    go_wp2_with (first|((with_reducible refine gate_callee (f:=15) rfl ?_);refine goesL_ (some 18) rfl rfl Try.func15 (by kernel_rfl) rfl #[.int .i64 a0] rfl (by (try simp only [List.map_toArray,List.map_cons,List.map_nil]);first|done|rfl|(simp only [List.length_drop,List.length_take];rfl)) ?_;(with_reducible refine (madrigalref10_Known.calls a0 true _ A10.out).mono ?_);rintro e w' ⟨rfl,⟨nd,rfl⟩⟩;refine ⟨_,rfl,?_⟩)|(go_at_call 15;(with_reducible refine (madrigalref10_Known.calls a1 t328 _ A12.out).mono ?_);rintro e w' ⟨rfl,⟨nd,rfl⟩⟩))
    go_meet
    case rel => exact ⟨_,(t328),(by first|rfl|(simp;done)|(simp [*];done)),H',⟨by first|omega|exact Nat.le_refl _⟩,⟨by (with_reducible repeat (first|apply ra_|apply rb_|apply rc_));exact HO326.out⟩,⟨by repeat (first|(with_reducible first|exact HB.out|apply ba_|apply bb_|apply bc_)|exact HB.out)⟩⟩
   ·replace c11:=Bool.eq_false_iff.mpr c11
    subst c11
    have H1 : (madrigallaw22_ResampFilters.j0 k a0 a1 a2 t324 false) = some r:=by rw [if_neg (show ¬ (false = true) by decide)] at H;exact H
    clear H
    have H:=H1
    clear H1
    have H':=ak_ H
    clear H
    go_wp2_with (first|((with_reducible refine gate_callee (f:=15) rfl ?_);refine goesL_ (some 18) rfl rfl Try.func15 (by kernel_rfl) rfl #[.int .i64 a0] rfl (by (try simp only [List.map_toArray,List.map_cons,List.map_nil]);first|done|rfl|(simp only [List.length_drop,List.length_take];rfl)) ?_;(with_reducible refine (madrigalref10_Known.calls a0 false _ A10.out).mono ?_);rintro e w' ⟨rfl,⟨nd,rfl⟩⟩;refine ⟨_,rfl,?_⟩))
    go_meet
    case rel => exact ⟨_,(false),(by first|rfl|(simp;done)|(simp [*];done)),H',⟨by first|omega|exact Nat.le_refl _⟩,⟨by (with_reducible repeat (first|apply ra_|apply rb_|apply rc_));exact HO326.out⟩,⟨by repeat (first|(with_reducible first|exact HB.out|apply ba_|apply bb_|apply bc_)|exact HB.out)⟩⟩
  case rest =>
   clear HC7
   try clear c1
   try clear p2
   try clear c4
   try clear c5
   try clear c11
   obtain ⟨kq,x8_6,rfl,HA,HJ6,HO_7,HB⟩:=hcut
   (try simp only [i64_w,i32_w])
   cases kq with
   | zero => exact absurd HA.out (by simp [madrigallaw22_ResampFilters.j0])
   | succ kj6 =>
    have H:=HA.out
    clear HA
    simp only [madrigallaw22_ResampFilters.j0] at H
    replace H:=Option.bind_eq_some_iff.mp H
    obtain ⟨t329,A130,H⟩:=H
    (try dsimp only at H)
    have A13:=ak_ A130
    clear A130
    by_cases c14 : (t329 != x8_6) = true
    ·rw [if_pos c14] at H
     exact absurd H (by simp)
    ·rw [if_neg c14] at H
     have c14b0 : (t329 != x8_6) = false:=by simpa using c14
     (try (have c14b1 : decide (t329 = x8_6) = true:=by simpa using c14))
     (try (have c14b2 : (t329 == x8_6) = true:=by simpa using c14))
     clear c14
     have HC15:=ak_ H
     clear H
     go_upto_if 28 with (first|((with_reducible refine gate_callee (f:=16) rfl ?_);refine goesL_ (some 25) rfl rfl Try.func16 (by kernel_rfl) rfl #[.int .i64 a0,.int .i64 a1] rfl (by (try simp only [List.map_toArray,List.map_cons,List.map_nil]);first|done|rfl|(simp only [List.length_drop,List.length_take];rfl)) ?_;(with_reducible refine (resamp_Good.calls a0 a1 t329 _ A13.out).mono ?_);rintro e w' ⟨rfl,⟨nd,rfl⟩⟩;refine ⟨_,rfl,?_⟩))
     (try simp only [Act.put,List.setIfInBounds_toArray,List.set_cons_zero,List.set_cons_succ])
     go_cut [8] (fun v8 wc => ∃ (kq : Nat) (x8_14 : Bool),v8 = .bool x8_14 ∧ Aside0 (madrigallaw22_ResampFilters.j1 kq a0 a1 a2 t324 x8_14 = some r) ∧ Aside0 (kq ≤ kj6) ∧ Aside0 (Kd.R (Kd.int .i64) 2 wc w.heap.size (fun _ => True) v325 t324) ∧ Aside0 (Below w.heap.size w wc))
     case first =>
      have H:=HC15.out
      clear HC15
      by_cases c16 : x8_6 = true
      ·subst c16
       have H1 : ((madrigalref10_Parts.f kj6 a0 a1).bind fun bt330 => (if a2 ≥ 0 then (madrigallaw22_ResampFilters.j1 kj6 a0 a1 a2 t324 (decide (a2 < bt330.1))) else (madrigallaw22_ResampFilters.j1 kj6 a0 a1 a2 t324 false))) = some r:=by rw [if_pos rfl] at H;exact H
       clear H
       have H:=H1
       clear H1
       replace H:=Option.bind_eq_some_iff.mp H
       obtain ⟨⟨t330,t331⟩,A170,H⟩:=H
       (try dsimp only at H)
       have A17:=ak_ A170
       clear A170
       by_cases c18 : a2 ≥ 0
       ·rw [if_pos c18] at H
        have c18b0 : decide (0 ≤ a2) = true:=decide_eq_true c18
        clear c18
        (first|rw [c18b0]|(simp only [i64_w,i32_w];rw [c18b0])|skip)
        have H':=ak_ H
        clear H
        go_wp2_with (first|((with_reducible refine gate_callee (f:=17) rfl ?_);refine goesL_ (some 32) rfl rfl Try.func17 (by kernel_rfl) rfl #[.int .i64 a0,.int .i64 a1] rfl (by (try simp only [List.map_toArray,List.map_cons,List.map_nil]);first|done|rfl|(simp only [List.length_drop,List.length_take];rfl)) ?_;(with_reducible refine (madrigalref10_Parts.calls kj6 a0 a1 t330 t331 _ A17.out).mono ?_);rintro e w' ⟨rfl,⟨nd,rfl⟩⟩;refine ⟨_,rfl,?_⟩))
        refine Met.intro ?_
        go_step
        (repeat apply Exists.intro)
        first|refine ⟨?rel141,rfl⟩|(refine ⟨?rel141,?st141⟩;case' st141 => (first|rw [c18b0]|simp only [c18b0]))
        case rel141 => exact ⟨_,(decide (a2 < t330)),(by first|rfl|(simp;done)|(simp [*];done)),H',⟨by have:=HJ6.out;first|omega|exact Nat.le_refl _⟩,⟨by (with_reducible repeat (first|apply ra_|apply rb_|apply rc_));exact HO_7.out⟩,⟨by repeat (first|(with_reducible first|exact HB.out|apply ba_|apply bb_|apply bc_)|exact HB.out)⟩⟩
       ·rw [if_neg c18] at H
        have c18b0 : decide (0 ≤ a2) = false:=decide_eq_false c18
        clear c18
        (first|rw [c18b0]|(simp only [i64_w,i32_w];rw [c18b0])|skip)
        have H':=ak_ H
        clear H
        go_wp2_with (first|((with_reducible refine gate_callee (f:=17) rfl ?_);refine goesL_ (some 32) rfl rfl Try.func17 (by kernel_rfl) rfl #[.int .i64 a0,.int .i64 a1] rfl (by (try simp only [List.map_toArray,List.map_cons,List.map_nil]);first|done|rfl|(simp only [List.length_drop,List.length_take];rfl)) ?_;(with_reducible refine (madrigalref10_Parts.calls kj6 a0 a1 t330 t331 _ A17.out).mono ?_);rintro e w' ⟨rfl,⟨nd,rfl⟩⟩;refine ⟨_,rfl,?_⟩))
        refine Met.intro ?_
        go_step
        (repeat apply Exists.intro)
        first|refine ⟨?rel150,rfl⟩|(refine ⟨?rel150,?st150⟩;case' st150 => (first|rw [c18b0]|simp only [c18b0]))
        case rel150 => exact ⟨_,(false),(by first|rfl|(simp;done)|(simp [*];done)),H',⟨by have:=HJ6.out;first|omega|exact Nat.le_refl _⟩,⟨by (with_reducible repeat (first|apply ra_|apply rb_|apply rc_));exact HO_7.out⟩,⟨by repeat (first|(with_reducible first|exact HB.out|apply ba_|apply bb_|apply bc_)|exact HB.out)⟩⟩
      ·replace c16:=Bool.eq_false_iff.mpr c16
       subst c16
       have H1 : (madrigallaw22_ResampFilters.j1 kj6 a0 a1 a2 t324 false) = some r:=by rw [if_neg (show ¬ (false = true) by decide)] at H;exact H
       clear H
       have H:=H1
       clear H1
       have H':=ak_ H
       clear H
       go_wp2
       go_meet
       case rel => exact ⟨_,(false),(by first|rfl|(simp;done)|(simp [*];done)),H',⟨by have:=HJ6.out;first|omega|exact Nat.le_refl _⟩,⟨by (with_reducible repeat (first|apply ra_|apply rb_|apply rc_));exact HO_7.out⟩,⟨by repeat (first|(with_reducible first|exact HB.out|apply ba_|apply bb_|apply bc_)|exact HB.out)⟩⟩
     case rest =>
      clear HC15
      try clear c1
      try clear p2
      try clear c4
      try clear c5
      try clear c11
      try clear c14
      try clear c14b0
      try clear c14b1
      try clear c14b2
      try clear c15
      try clear c16
      try clear c17
      try clear c18
      try clear c18b0
      try clear p2
      obtain ⟨kq,x8_14,rfl,HA,HJ14,HO_7,HB⟩:=hcut
      (try simp only [i64_w,i32_w])
      cases kq with
      | zero => exact absurd HA.out (by simp [madrigallaw22_ResampFilters.j1])
      | succ kj14 =>
       have H:=HA.out
       clear HA
       simp only [madrigallaw22_ResampFilters.j1] at H
       by_cases c19 : x8_14 = true
       ·subst c19
        have H1 : ((madrigalref10_Phase.f kj14 a0 a1 a2).bind fun t332 => ((madrigallaw22_same.f kj14 t324 t332).bind fun t335 => (if t335 = true then ((madrigallaw22_sum.f kj14 t324).bind fun t336 => (some (t336 == 32768))) else (none)))) = some r:=by rw [if_pos rfl] at H;exact H
        clear H
        have H:=H1
        clear H1
        replace H:=Option.bind_eq_some_iff.mp H
        obtain ⟨t332,A200,H⟩:=H
        (try dsimp only at H)
        have A20:=ak_ A200
        clear A200
        replace H:=Option.bind_eq_some_iff.mp H
        obtain ⟨t335,A210,H⟩:=H
        (try dsimp only at H)
        have A21:=ak_ A210
        clear A210
        by_cases c22 : t335 = true
        ·subst c22
         have H1 : ((madrigallaw22_sum.f kj14 t324).bind fun t336 => (some (t336 == 32768))) = some r:=by rw [if_pos rfl] at H;exact H
         clear H
         have H:=H1
         clear H1
         replace H:=Option.bind_eq_some_iff.mp H
         obtain ⟨t336,A230,H⟩:=H
         (try dsimp only at H)
         have A23:=ak_ A230
         clear A230
         obtain rfl:=Option.some.inj H
         go_wp2_with (first|((with_reducible refine gate_callee (f:=19) rfl ?_);refine goesL_ (some 51) rfl rfl Try.func19 (by kernel_rfl) rfl #[.int .i64 a0,.int .i64 a1,.int .i64 a2] rfl (by (try simp only [List.map_toArray,List.map_cons,List.map_nil]);first|done|rfl|(simp only [List.length_drop,List.length_take];rfl)) ?_;(with_reducible refine (madrigalref10_Phase.calls kj14 a0 a1 a2 t332 _ A20.out).mono ?_);rintro e w24 ⟨v333,rfl,ho0,hb⟩;refine ⟨_,rfl,?_⟩;have n0_:=ak_ (Kd.R_elder' (by (with_reducible repeat (first|apply ra_|apply rb_|apply rc_));exact HO_7.out) (Kd.R_base ho0) hb);have n1_:=ak_ (Kd.R_lower (Kd.R_new' ho0 (Kd.R_lt (by (with_reducible repeat (first|apply ra_|apply rb_|apply rc_));exact HO_7.out))) (below_size (by repeat (first|(with_reducible first|exact HB.out|apply ba_|apply bb_|apply bc_)|exact HB.out))));have n2_:=ak_ (below_step (by repeat (first|(with_reducible first|exact HB.out|apply ba_|apply bb_|apply bc_)|exact HB.out)) hb);clear HO_7;clear HB;have HO_7:=n0_;have HO334:=n1_;have HB:=n2_;clear n0_ n1_ n2_;(try clear hb);(try clear ho0);obtain ⟨Ao25,co25,eo25⟩:=Kd.R_slice HO_7.out;subst eo25;obtain ⟨Ao26,co26,eo26⟩:=Kd.R_slice HO334.out;subst eo26)|((with_reducible refine gate_callee (f:=18) rfl ?_);refine goesL_ (some 52) rfl rfl Try.func18 (by kernel_rfl) rfl #[.slice Ao25 t324.length co25,.slice Ao26 t332.length co26] rfl (by (try simp only [List.map_toArray,List.map_cons,List.map_nil]);first|done|rfl|(simp only [List.length_drop,List.length_take];rfl)) ?_;(with_reducible refine (madrigallaw22_same.calls kj14 _ _ t324 _ _ t332 true _ ?side1 ?side2 ?side3 ?side4 A21.out).mono ?_);(case side1 => repeat (first|exact (Kd.R_reads' HO_7.out).2.2|(with_reducible refine Kd.C_alloc ?_ _)|(with_reducible refine Kd.C_drewN ?_ _)|(with_reducible refine Kd.C_drew ?_)));(case side2 => exact (Kd.R_reads' HO_7.out).2.1);(case side3 => repeat (first|exact (Kd.R_reads' HO334.out).2.2|(with_reducible refine Kd.C_alloc ?_ _)|(with_reducible refine Kd.C_drewN ?_ _)|(with_reducible refine Kd.C_drew ?_)));(case side4 => exact (Kd.R_reads' HO334.out).2.1);rintro e w' ⟨rfl,⟨nd,rfl⟩⟩;refine ⟨_,rfl,?_⟩)|(go_at_call 20;(with_reducible refine (madrigallaw22_sum.calls kj14 _ _ t324 t336 _ ?side1 ?side2 A23.out).mono ?_);(case side1 => repeat (first|exact (Kd.R_reads' HO_7.out).2.2|(with_reducible refine Kd.C_alloc ?_ _)|(with_reducible refine Kd.C_drewN ?_ _)|(with_reducible refine Kd.C_drew ?_)));(case side2 => exact (Kd.R_reads' HO_7.out).2.1);rintro e w' ⟨rfl,⟨nd,rfl⟩⟩))
         go_ret
         exact ⟨by first|rfl|(simp [errW_none,errW_some] <;> rfl)|(simp [*,errW_none,errW_some] <;> rfl),by repeat (first|(with_reducible first|exact HB.out|apply ba_|apply bb_|apply bc_)|exact HB.out)⟩
        ·replace c22:=Bool.eq_false_iff.mpr c22
         subst c22
         have H1 : (none) = some r:=by rw [if_neg (show ¬ (false = true) by decide)] at H;exact H
         clear H
         have H:=H1
         clear H1
         exact absurd H (by simp)
       ·replace c19:=Bool.eq_false_iff.mpr c19
        subst c19
        have H1 : (some ((t324.length : Int) == 0)) = some r:=by rw [if_neg (show ¬ (false = true) by decide)] at H;exact H
        clear H
        have H:=H1
        clear H1
        obtain rfl:=Option.some.inj H
        obtain ⟨Ao27,co27,eo27⟩:=Kd.R_slice HO_7.out
        subst eo27
        go_wp2
        go_ret
        exact ⟨by first|rfl|(simp [errW_none,errW_some] <;> rfl)|(simp [*,errW_none,errW_some] <;> rfl),by repeat (first|(with_reducible first|exact HB.out|apply ba_|apply bb_|apply bc_)|exact HB.out)⟩
 ·replace c5:=Bool.eq_false_iff.mpr c5
  subst c5
  have H1 : (none) = some r:=by rw [if_neg (show ¬ (false = true) by decide)] at H;exact H
  clear H
  have H:=H1
  clear H1
  exact absurd H (by simp)

/-- THE ONE PURE STATEMENT of madrigallaw22_ResampFilters. -/
def madrigallaw22_ResampFilters.Pure : Prop:=∀ (a0 : Int) (a1 : Int) (a2 : Int),(Lit.int .i64 a0).wf = true → (Lit.int .i64 a1).wf = true → (Lit.int .i64 a2).wf = true → ∃ k,madrigallaw22_ResampFilters.f k a0 a1 a2 = some true
theorem madrigallaw22_ResampFilters.walk (P : madrigallaw22_ResampFilters.Pure) (a0 : Int) (a1 : Int) (a2 : Int) (w : World) (w0 : (Lit.int .i64 a0).wf = true) (w1 : (Lit.int .i64 a1).wf = true) (w2 : (Lit.int .i64 a2).wf = true) :
  Calls Try.prog 4 #[.int .i64 a0,.int .i64 a1,.int .i64 a2] w fun e w' => e = .returned (.bool true) ∧ Below w.heap.size w w':=by
 obtain ⟨k,h⟩:=P a0 a1 a2 w0 w1 w2
 refine (madrigallaw22_ResampFilters.calls k a0 a1 a2 true w h).mono ?_
 rintro e w' ⟨rfl,hd⟩
 exact ⟨rfl,hd⟩

end Go.Proofs.Ytcicenmmpbgmoaa.P
