/- The machine side of the laws of one chapter, without conditions: each call of a Go function comes to what the Lean function of its name answers. Written for this claim by a program of the prover. -/
import Derived.Test.YtcicenmmpbgmoaaPx0
import Derived.Test.YtcicenmmpbgmoaaPx1
import Derived.Test.YtcicenmmpbgmoaaPx2
import Derived.Test.YtcicenmmpbgmoaaPx11
import Derived.Test.YtcicenmmpbgmoaaPx13
import Derived.Test.YtcicenmmpbgmoaaPx15
import Derived.Test.YtcicenmmpbgmoaaPx17
import Derived.Test.YtcicenmmpbgmoaaPx18
namespace Go.Proofs.Ytcicenmmpbgmoaa.P
open Go.RowKit Go.Proofs.YtcicenmmpbgmoaaW.PrintWords Go.Proofs.YtcicenmmpbgmoaaW.PrintLast Go.Proofs.YtcicenmmpbgmoaaW.PrintMore
attribute [local go_sem] max2_int min2_int max_two min_two max_three min_three max_four min_four   -- for this text's walks alone
set_option linter.unusedVariables false
set_option linter.unusedSimpArgs false

/-! ### madrigallaw22_ResampCuts: function 6 -/
mutual
def madrigallaw22_ResampCuts.j0 : Nat → Int → Int → List Int → Int → Bool → Option (Bool)
 | 0,_,_,_,_,_ => none
 | k + 1,x0,x1,x2,x3,x35 => if x35 = true then (some true) else ((madrigalref10_Parts.f k x0 x1).bind fun bt374 => (if bt374.2 = 0 then (none) else (if 0 ≤ (wrap64 ((wrap64 ((x2.length : Int) / bt374.2)) * bt374.2)) then (if (wrap64 ((wrap64 ((x2.length : Int) / bt374.2)) * bt374.2)) ≤ (x2.length : Int) then ((some (x2.take ((wrap64 ((wrap64 ((x2.length : Int) / bt374.2)) * bt374.2)) : Int).toNat : List Int)).bind fun y376 => (if x3 < 0 then (madrigallaw22_ResampCuts.j1 k x0 x1 y376 x3 bt374.1 bt374.2 true) else (madrigallaw22_ResampCuts.j1 k x0 x1 y376 x3 bt374.1 bt374.2 (decide (x3 > (wrap64 ((y376.length : Int) / bt374.2))))))) else (none)) else (none))))
def madrigallaw22_ResampCuts.j1 : Nat → Int → Int → List Int → Int → Int → Int → Bool → Option (Bool)
 | 0,_,_,_,_,_,_,_ => none
 | k + 1,x0,x1,x2,x3,x9,x10,x59 => if x59 = true then (some true) else (if resamp_Good.f x0 x1 = some true then ((resamp_New1.f x0 x1).bind fun bt380 => ((resamp_New1.f x0 x1).bind fun bt385 => ((resamp_Sampler_Run.f k bt380.1 bt380.2.1 bt380.2.2.1 x2).bind fun bt390 => (if 0 ≤ (wrap64 (x3 * x10)) then (if (wrap64 (x3 * x10)) ≤ (x2.length : Int) then ((resamp_Sampler_Run.f k bt385.1 bt385.2.1 bt385.2.2.1 (x2.take ((wrap64 (x3 * x10)) : Int).toNat)).bind fun bt401 => ((resamp_Sampler_Run.f k bt401.2.2.1 bt401.2.2.2.1 bt401.2.2.2.2 (x2.drop ((wrap64 (x3 * x10)) : Int).toNat)).bind fun bt412 => (if bt401.1.length + bt412.1.length < 17592186044416 then ((madrigallaw22_same.f k bt390.1 (bt401.1 ++ bt412.1)).bind fun t422 => (if t422 = true then ((resamp_Sampler_Same.f bt390.2.2.1 bt390.2.2.2.1 bt390.2.2.2.2 bt412.2.2.1 bt412.2.2.2.1 bt412.2.2.2.2).bind fun t423 => (if t423 = true then (if x10 = 0 then (none) else (some ((bt390.1.length : Int) == (wrap64 ((wrap64 ((x2.length : Int) / x10)) * x9))))) else (none))) else (none))) else (none)))) else (none)) else (none))))) else ((resamp_New0.f x0 x1).bind fun t425 => ((resamp_New0.f x0 x1).bind fun t427 => (none))))
end
def madrigallaw22_ResampCuts.f (k : Nat) (a0 : Int) (a1 : Int) (l2 : List Int) (a3 : Int) : Option (Bool):=(madrigallaw22_awake.f k).bind fun t371 => (if t371 = true then ((madrigalref10_Known.f a0).bind fun t372 => (if t372 = true then ((madrigalref10_Known.f a1).bind fun t373 => (if t373 = true then (madrigallaw22_ResampCuts.j0 k a0 a1 l2 a3 (decide ((l2.length : Int) > 600))) else (madrigallaw22_ResampCuts.j0 k a0 a1 l2 a3 true))) else (madrigallaw22_ResampCuts.j0 k a0 a1 l2 a3 true))) else (none))
theorem madrigallaw22_ResampCuts.mono_l : ∀ k,(∀ y0 y1 y2 y3 y4,LeO (madrigallaw22_ResampCuts.j0 k y0 y1 y2 y3 y4) (madrigallaw22_ResampCuts.j0 (k + 1) y0 y1 y2 y3 y4)) ∧ (∀ y0 y1 y2 y3 y4 y5 y6,LeO (madrigallaw22_ResampCuts.j1 k y0 y1 y2 y3 y4 y5 y6) (madrigallaw22_ResampCuts.j1 (k + 1) y0 y1 y2 y3 y4 y5 y6))
 | 0 => ⟨fun _ _ _ _ _ r h => by simp [madrigallaw22_ResampCuts.j0] at h,fun _ _ _ _ _ _ _ r h => by simp [madrigallaw22_ResampCuts.j1] at h⟩
 | k + 1 => by
  obtain ⟨ih0,ih1⟩:=madrigallaw22_ResampCuts.mono_l k
  refine ⟨?_,?_⟩
  all_goals (intros;first|unfold madrigallaw22_ResampCuts.j0|unfold madrigallaw22_ResampCuts.j1)
  all_goals (repeat' first|(with_reducible first|exact ih0 _ _ _ _ _|exact ih1 _ _ _ _ _ _ _|exact madrigallaw22_awake.mono _|exact madrigallaw22_same.mono _ _ _|exact madrigalref10_Parts.mono _ _ _|exact resamp_Sampler_Run.mono _ _ _ _ _|exact LeO.refl _|exact LeO.none _|refine LeO.ite ?_ ?_|refine LeO.bind ?_ (fun _ => ?_))|exact ih0 _ _ _ _ _|exact ih1 _ _ _ _ _ _ _|exact madrigallaw22_awake.mono _|exact madrigallaw22_same.mono _ _ _|exact madrigalref10_Parts.mono _ _ _|exact resamp_Sampler_Run.mono _ _ _ _ _|exact LeO.none _|refine LeO.ite ?_ ?_|refine LeO.bind ?_ (fun _ => ?_))
theorem madrigallaw22_ResampCuts.mono : ∀ a0 a1 a2 a3 k,LeO (madrigallaw22_ResampCuts.f k a0 a1 a2 a3) (madrigallaw22_ResampCuts.f (k + 1) a0 a1 a2 a3):=by
 intro a0 a1 a2 a3 k
 obtain ⟨ih0,ih1⟩:=madrigallaw22_ResampCuts.mono_l k
 unfold madrigallaw22_ResampCuts.f
 repeat' first|(with_reducible first|exact ih0 _ _ _ _ _|exact ih1 _ _ _ _ _ _ _|exact madrigallaw22_awake.mono _|exact madrigallaw22_same.mono _ _ _|exact madrigalref10_Parts.mono _ _ _|exact resamp_Sampler_Run.mono _ _ _ _ _|exact LeO.refl _|exact LeO.none _|refine LeO.ite ?_ ?_|refine LeO.bind ?_ (fun _ => ?_))|exact ih0 _ _ _ _ _|exact ih1 _ _ _ _ _ _ _|exact madrigallaw22_awake.mono _|exact madrigallaw22_same.mono _ _ _|exact madrigalref10_Parts.mono _ _ _|exact resamp_Sampler_Run.mono _ _ _ _ _|exact LeO.none _|refine LeO.ite ?_ ?_|refine LeO.bind ?_ (fun _ => ?_)
set_option maxHeartbeats 8000000 in
set_option maxRecDepth 100000 in
theorem madrigallaw22_ResampCuts.calls (k : Nat) (a0 : Int) (a1 : Int) (A2 : Option Addr) (c2 : Nat) (l2 : List Int) (a3 : Int) (r : Bool) (w : World) (hr2 : Kd.C (Kd.int .i64) w A2 l2.length l2) (hc2 : l2.length ≤ c2) (h : madrigallaw22_ResampCuts.f k a0 a1 l2 a3 = some r) :
  Calls Try.prog 6 #[.int .i64 a0,.int .i64 a1,.slice A2 l2.length c2,.int .i64 a3] w fun e w' => e = .returned (.bool r) ∧ Below w.heap.size w w':=by
 have HR2:=ak_ hr2
 have HC2:=ak_ hc2
 clear hr2 hc2
 have HB:=ak_ (Below.refl w.heap.size w)
 have H : ((madrigallaw22_awake.f k).bind fun t371 => (if t371 = true then ((madrigalref10_Known.f a0).bind fun t372 => (if t372 = true then ((madrigalref10_Known.f a1).bind fun t373 => (if t373 = true then (madrigallaw22_ResampCuts.j0 k a0 a1 l2 a3 (decide ((l2.length : Int) > 600))) else (madrigallaw22_ResampCuts.j0 k a0 a1 l2 a3 true))) else (madrigallaw22_ResampCuts.j0 k a0 a1 l2 a3 true))) else (none))) = some r:=h
 clear h
 replace H:=Option.bind_eq_some_iff.mp H
 obtain ⟨t371,A50,H⟩:=H
 (try dsimp only at H)
 have A5:=ak_ A50
 clear A50
 by_cases c6 : t371 = true
 ·subst c6
  have H1 : ((madrigalref10_Known.f a0).bind fun t372 => (if t372 = true then ((madrigalref10_Known.f a1).bind fun t373 => (if t373 = true then (madrigallaw22_ResampCuts.j0 k a0 a1 l2 a3 (decide ((l2.length : Int) > 600))) else (madrigallaw22_ResampCuts.j0 k a0 a1 l2 a3 true))) else (madrigallaw22_ResampCuts.j0 k a0 a1 l2 a3 true))) = some r:=by rw [if_pos rfl] at H;exact H
  clear H
  have H:=H1
  clear H1
  have HC7:=ak_ H
  clear H
  go_enter Try.func6,Try.ntmps6
  go_upto_region 3 with (first|((with_reducible refine gate_callee (f:=11) rfl ?_);refine goesL_ (some 21) rfl rfl Try.func11 (by kernel_rfl) rfl #[] rfl (by (try simp only [List.map_toArray,List.map_cons,List.map_nil]);first|done|rfl|(simp only [List.length_drop,List.length_take];rfl)) ?_;(with_reducible refine (madrigallaw22_awake.calls k  true _ A5.out).mono ?_);rintro e w8 ⟨rfl,hb⟩;refine ⟨_,rfl,?_⟩;have n0_:=ak_ (below_step (by repeat (first|(with_reducible first|exact HB.out|apply ba_|apply bb_|apply bc_)|exact HB.out)) hb);clear HB;have HB:=n0_;clear n0_;(try clear hb)))
  (try simp only [Act.put,List.setIfInBounds_toArray,List.set_cons_zero,List.set_cons_succ])
  go_cut [35] (fun v35 wc => ∃ (kq : Nat) (x35_6 : Bool),v35 = .bool x35_6 ∧ Aside0 (madrigallaw22_ResampCuts.j0 kq a0 a1 l2 a3 x35_6 = some r) ∧ Aside0 (kq ≤ k) ∧ Aside0 (Below w.heap.size w wc))
  case first =>
   have H:=HC7.out
   clear HC7
   replace H:=Option.bind_eq_some_iff.mp H
   obtain ⟨t372,A90,H⟩:=H
   (try dsimp only at H)
   have A9:=ak_ A90
   clear A90
   by_cases c10 : t372 = true
   ·subst c10
    have H1 : ((madrigalref10_Known.f a1).bind fun t373 => (if t373 = true then (madrigallaw22_ResampCuts.j0 k a0 a1 l2 a3 (decide ((l2.length : Int) > 600))) else (madrigallaw22_ResampCuts.j0 k a0 a1 l2 a3 true))) = some r:=by rw [if_pos rfl] at H;exact H
    clear H
    have H:=H1
    clear H1
    replace H:=Option.bind_eq_some_iff.mp H
    obtain ⟨t373,A110,H⟩:=H
    (try dsimp only at H)
    have A11:=ak_ A110
    clear A110
    by_cases c12 : t373 = true
    ·subst c12
     have H1 : (madrigallaw22_ResampCuts.j0 k a0 a1 l2 a3 (decide ((l2.length : Int) > 600))) = some r:=by rw [if_pos rfl] at H;exact H
     clear H
     have H:=H1
     clear H1
     have H':=ak_ H
     clear H
     go_wp2_with (first|((with_reducible refine gate_callee (f:=15) rfl ?_);refine goesL_ (some 24) rfl rfl Try.func15 (by kernel_rfl) rfl #[.int .i64 a0] rfl (by (try simp only [List.map_toArray,List.map_cons,List.map_nil]);first|done|rfl|(simp only [List.length_drop,List.length_take];rfl)) ?_;(with_reducible refine (madrigalref10_Known.calls a0 true _ A9.out).mono ?_);rintro e w' ⟨rfl,⟨nd,rfl⟩⟩;refine ⟨_,rfl,?_⟩)|(go_at_call 15;(with_reducible refine (madrigalref10_Known.calls a1 true _ A11.out).mono ?_);rintro e w' ⟨rfl,⟨nd,rfl⟩⟩))
     go_meet
     case rel => exact ⟨_,(decide ((l2.length : Int) > 600)),(by first|rfl|(simp;done)|(simp [*];done)),H',⟨by first|omega|exact Nat.le_refl _⟩,⟨by repeat (first|(with_reducible first|exact HB.out|apply ba_|apply bb_|apply bc_)|exact HB.out)⟩⟩
    ·replace c12:=Bool.eq_false_iff.mpr c12
     subst c12
     have H1 : (madrigallaw22_ResampCuts.j0 k a0 a1 l2 a3 true) = some r:=by rw [if_neg (show ¬ (false = true) by decide)] at H;exact H
     clear H
     have H:=H1
     clear H1
     have H':=ak_ H
     clear H
     go_wp2_with (first|((with_reducible refine gate_callee (f:=15) rfl ?_);refine goesL_ (some 24) rfl rfl Try.func15 (by kernel_rfl) rfl #[.int .i64 a0] rfl (by (try simp only [List.map_toArray,List.map_cons,List.map_nil]);first|done|rfl|(simp only [List.length_drop,List.length_take];rfl)) ?_;(with_reducible refine (madrigalref10_Known.calls a0 true _ A9.out).mono ?_);rintro e w' ⟨rfl,⟨nd,rfl⟩⟩;refine ⟨_,rfl,?_⟩)|(go_at_call 15;(with_reducible refine (madrigalref10_Known.calls a1 false _ A11.out).mono ?_);rintro e w' ⟨rfl,⟨nd,rfl⟩⟩))
     go_meet
     case rel => exact ⟨_,(true),(by first|rfl|(simp;done)|(simp [*];done)),H',⟨by first|omega|exact Nat.le_refl _⟩,⟨by repeat (first|(with_reducible first|exact HB.out|apply ba_|apply bb_|apply bc_)|exact HB.out)⟩⟩
   ·replace c10:=Bool.eq_false_iff.mpr c10
    subst c10
    have H1 : (madrigallaw22_ResampCuts.j0 k a0 a1 l2 a3 true) = some r:=by rw [if_neg (show ¬ (false = true) by decide)] at H;exact H
    clear H
    have H:=H1
    clear H1
    have H':=ak_ H
    clear H
    go_wp2_with (first|((with_reducible refine gate_callee (f:=15) rfl ?_);refine goesL_ (some 24) rfl rfl Try.func15 (by kernel_rfl) rfl #[.int .i64 a0] rfl (by (try simp only [List.map_toArray,List.map_cons,List.map_nil]);first|done|rfl|(simp only [List.length_drop,List.length_take];rfl)) ?_;(with_reducible refine (madrigalref10_Known.calls a0 false _ A9.out).mono ?_);rintro e w' ⟨rfl,⟨nd,rfl⟩⟩;refine ⟨_,rfl,?_⟩))
    go_meet
    case rel => exact ⟨_,(true),(by first|rfl|(simp;done)|(simp [*];done)),H',⟨by first|omega|exact Nat.le_refl _⟩,⟨by repeat (first|(with_reducible first|exact HB.out|apply ba_|apply bb_|apply bc_)|exact HB.out)⟩⟩
  case rest =>
   clear HC7
   try clear c1
   try clear c2
   try clear p2
   try clear c6
   try clear c10
   try clear c11
   try clear c12
   obtain ⟨kq,x35_6,rfl,HA,HJ6,HB⟩:=hcut
   (try simp only [i64_w,i32_w])
   cases kq with
   | zero => exact absurd HA.out (by simp [madrigallaw22_ResampCuts.j0])
   | succ kj6 =>
    have H:=HA.out
    clear HA
    simp only [madrigallaw22_ResampCuts.j0] at H
    by_cases c13 : x35_6 = true
    ·subst c13
     have H1 : (some true) = some r:=by rw [if_pos rfl] at H;exact H
     clear H
     have H:=H1
     clear H1
     obtain rfl:=Option.some.inj H
     go_wp2
     go_ret
     exact ⟨by first|rfl|(simp [errW_none,errW_some] <;> rfl)|(simp [*,errW_none,errW_some] <;> rfl),by repeat (first|(with_reducible first|exact HB.out|apply ba_|apply bb_|apply bc_)|exact HB.out)⟩
    ·replace c13:=Bool.eq_false_iff.mpr c13
     subst c13
     have H1 : ((madrigalref10_Parts.f kj6 a0 a1).bind fun bt374 => (if bt374.2 = 0 then (none) else (if 0 ≤ (wrap64 ((wrap64 ((l2.length : Int) / bt374.2)) * bt374.2)) then (if (wrap64 ((wrap64 ((l2.length : Int) / bt374.2)) * bt374.2)) ≤ (l2.length : Int) then ((some (l2.take ((wrap64 ((wrap64 ((l2.length : Int) / bt374.2)) * bt374.2)) : Int).toNat : List Int)).bind fun y376 => (if a3 < 0 then (madrigallaw22_ResampCuts.j1 kj6 a0 a1 y376 a3 bt374.1 bt374.2 true) else (madrigallaw22_ResampCuts.j1 kj6 a0 a1 y376 a3 bt374.1 bt374.2 (decide (a3 > (wrap64 ((y376.length : Int) / bt374.2))))))) else (none)) else (none)))) = some r:=by rw [if_neg (show ¬ (false = true) by decide)] at H;exact H
     clear H
     have H:=H1
     clear H1
     replace H:=Option.bind_eq_some_iff.mp H
     obtain ⟨⟨t374,t375⟩,A140,H⟩:=H
     (try dsimp only at H)
     have A14:=ak_ A140
     clear A140
     by_cases c15 : t375 = 0
     ·rw [if_pos c15] at H
      exact absurd H (by simp)
     ·rw [if_neg c15] at H
      have c15b0 : (t375 == 0) = false:=beq_eq_false_iff_ne.mpr c15
      have c15b1 : (t375 != 0) = true:=bne_iff_ne.mpr c15
      obtain ⟨ji16,hji16⟩ : ∃ j_ : Int,(wrap64 ((wrap64 ((l2.length : Int) / t375)) * t375)) = j_:=⟨_,rfl⟩
      replace H : (if 0 ≤ (ji16) then (if (ji16) ≤ (l2.length : Int) then ((some (l2.take ((ji16) : Int).toNat : List Int)).bind fun y376 => (if a3 < 0 then (madrigallaw22_ResampCuts.j1 kj6 a0 a1 y376 a3 t374 t375 true) else (madrigallaw22_ResampCuts.j1 kj6 a0 a1 y376 a3 t374 t375 (decide (a3 > (wrap64 ((y376.length : Int) / t375))))))) else (none)) else (none)) = some r:=by first|(rw [hji16] at H;exact H)|(simp only [hji16] at H ⊢;exact H)
      (try rw [hji16] at A14)
      have hji16w : (IntKind.i64.wrap ((wrap64 ((l2.length : Int) / t375)) * t375)) = ji16:=(i64_w _).trans hji16
      by_cases c17 : 0 ≤ (ji16)
      ·rw [if_pos c17] at H
       have c17b0:=eq_true c17
       have c17b1 : decide (0 ≤ (ji16)) = true:=decide_eq_true c17
       clear c17
       by_cases c18 : (ji16) ≤ (l2.length : Int)
       ·rw [if_pos c18] at H
        have c18b0:=eq_true c18
        have c18b1 : decide ((ji16) ≤ (l2.length : Int)) = true:=decide_eq_true c18
        clear c18
        obtain ⟨y376,hy376⟩ : ∃ y_ : List Int,y_ = (l2.take ((ji16) : Int).toNat):=⟨_,rfl⟩
        replace H : (if a3 < 0 then (madrigallaw22_ResampCuts.j1 kj6 a0 a1 y376 a3 t374 t375 true) else (madrigallaw22_ResampCuts.j1 kj6 a0 a1 y376 a3 t374 t375 (decide (a3 > (wrap64 ((y376.length : Int) / t375)))))) = some r:=by first|(rw [hy376];with_reducible exact H)|(have H2_:=(Option.bind_some _ _).symm.trans H;rw [hy376];with_reducible exact H2_)|(have H2_:=(Option.bind_some _ _).symm.trans H;with_reducible exact H2_)|with_reducible exact H|(rw [hy376];exact H)|exact H
        have Ny376:=ak_ hy376
        clear hy376
        have HC19:=ak_ H
        clear H
        go_upto_region 7 with (first|((with_reducible refine gate_callee (f:=17) rfl ?_);refine goesL_ (some 39) rfl rfl Try.func17 (by kernel_rfl) rfl #[.int .i64 a0,.int .i64 a1] rfl (by (try simp only [List.map_toArray,List.map_cons,List.map_nil]);first|done|rfl|(simp only [List.length_drop,List.length_take];rfl)) ?_;(with_reducible refine (madrigalref10_Parts.calls kj6 a0 a1 t374 t375 _ A14.out).mono ?_);rintro e w' ⟨rfl,⟨nd,rfl⟩⟩;refine ⟨_,rfl,?_⟩;have q20 : ((ji16) : Int) ≤ ((l2.length : Int) : Int):=of_decide_eq_true (by first|(with_reducible assumption)|assumption);obtain ⟨i020,hi020,_,hsz20,_⟩:=info_parts info2;have hroom20 : l2.length ≤ c2:=HC2.out;have hC20 : Kd.C (Kd.int .i64) _ A2 l2.length l2:=HR2.out;have hcut20:=cut_to (P:=Try.prog) 27 2 .i64 Try.underlying27 hi020 A2 l2.length c2 (ji16) (of_decide_eq_true (by first|(with_reducible assumption)|assumption)) q20 hroom20;have hr20:=Kd.C_take (m:=((ji16) : Int).toNat) hC20 (by omega);have hy20 : y376.length = ((ji16) : Int).toNat:=(by rw [Ny376.out,List.length_take];omega);rw [← Ny376.out] at hr20;rw [← hy20] at hcut20;have HR379:=ak_ hr20;have HC379:=ak_ (show y376.length ≤ c2 from by omega);clear hr20 hC20 hroom20 hi020 hsz20;have KY20:=ak_ hy20;clear hy20;replace q20:=eq_true q20))
        (try simp only [Act.put,List.setIfInBounds_toArray,List.set_cons_zero,List.set_cons_succ])
        go_cut [59] (fun v59 wc => ∃ (kq : Nat) (x59_18 : Bool),v59 = .bool x59_18 ∧ Aside0 (madrigallaw22_ResampCuts.j1 kq a0 a1 y376 a3 t374 t375 x59_18 = some r) ∧ Aside0 (kq ≤ kj6) ∧ Aside0 (Below w.heap.size w wc))
        case first =>
         have H:=HC19.out
         clear HC19
         by_cases c21 : a3 < 0
         ·rw [if_pos c21] at H
          have c21b0:=decide_eq_true c21
          clear c21
          (first|rw [c21b0]|(simp only [i64_w,i32_w];rw [c21b0])|skip)
          have H':=ak_ H
          clear H
          go_wp2
          refine Met.intro ?_
          go_step
          (repeat apply Exists.intro)
          first|refine ⟨?rel179,rfl⟩|(refine ⟨?rel179,?st179⟩;case' st179 => (first|rw [c21b0]|simp only [c21b0]))
          case rel179 => exact ⟨_,(true),(by first|rfl|(simp;done)|(simp [*];done)),H',⟨by have:=HJ6.out;first|omega|exact Nat.le_refl _⟩,⟨by repeat (first|(with_reducible first|exact HB.out|apply ba_|apply bb_|apply bc_)|exact HB.out)⟩⟩
         ·rw [if_neg c21] at H
          have c21b0:=decide_eq_false c21
          clear c21
          (first|rw [c21b0]|(simp only [i64_w,i32_w];rw [c21b0])|skip)
          have H':=ak_ H
          clear H
          go_wp2
          refine Met.intro ?_
          go_step
          (repeat apply Exists.intro)
          first|refine ⟨?rel188,rfl⟩|(refine ⟨?rel188,?st188⟩;case' st188 => (first|rw [c21b0]|simp only [c21b0]))
          case rel188 => exact ⟨_,(decide (a3 > (wrap64 ((y376.length : Int) / t375)))),(by first|rfl|(simp;done)|(simp [*];done)),H',⟨by have:=HJ6.out;first|omega|exact Nat.le_refl _⟩,⟨by repeat (first|(with_reducible first|exact HB.out|apply ba_|apply bb_|apply bc_)|exact HB.out)⟩⟩
        case rest =>
         clear HC19
         try clear c1
         try clear c2
         try clear p2
         try clear q2
         try clear c6
         try clear p6
         try clear c10
         try clear c11
         try clear c12
         try clear c13
         try clear c15
         try clear c15b0
         try clear c15b1
         try clear c17
         try clear c17b0
         try clear c17b1
         try clear c18
         try clear c18b0
         try clear c18b1
         try clear q20
         try clear c21
         try clear c21b0
         try clear p2
         try clear q20
         obtain ⟨kq,x59_18,rfl,HA,HJ18,HB⟩:=hcut
         (try simp only [i64_w,i32_w])
         cases kq with
         | zero => exact absurd HA.out (by simp [madrigallaw22_ResampCuts.j1])
         | succ kj18 =>
          have H:=HA.out
          clear HA
          simp only [madrigallaw22_ResampCuts.j1] at H
          by_cases c22 : x59_18 = true
          ·subst c22
           have H1 : (some true) = some r:=by rw [if_pos rfl] at H;exact H
           clear H
           have H:=H1
           clear H1
           obtain rfl:=Option.some.inj H
           go_wp2
           go_ret
           exact ⟨by first|rfl|(simp [errW_none,errW_some] <;> rfl)|(simp only [← hji16];first|rfl|(simp [errW_none,errW_some] <;> rfl))|(simp [*,errW_none,errW_some] <;> rfl),by repeat (first|(with_reducible first|exact HB.out|apply ba_|apply bb_|apply bc_)|exact HB.out)⟩
          ·replace c22:=Bool.eq_false_iff.mpr c22
           subst c22
           have H1 : (if resamp_Good.f a0 a1 = some true then ((resamp_New1.f a0 a1).bind fun bt380 => ((resamp_New1.f a0 a1).bind fun bt385 => ((resamp_Sampler_Run.f kj18 bt380.1 bt380.2.1 bt380.2.2.1 y376).bind fun bt390 => (if 0 ≤ (wrap64 (a3 * t375)) then (if (wrap64 (a3 * t375)) ≤ (y376.length : Int) then ((resamp_Sampler_Run.f kj18 bt385.1 bt385.2.1 bt385.2.2.1 (y376.take ((wrap64 (a3 * t375)) : Int).toNat)).bind fun bt401 => ((resamp_Sampler_Run.f kj18 bt401.2.2.1 bt401.2.2.2.1 bt401.2.2.2.2 (y376.drop ((wrap64 (a3 * t375)) : Int).toNat)).bind fun bt412 => (if bt401.1.length + bt412.1.length < 17592186044416 then ((madrigallaw22_same.f kj18 bt390.1 (bt401.1 ++ bt412.1)).bind fun t422 => (if t422 = true then ((resamp_Sampler_Same.f bt390.2.2.1 bt390.2.2.2.1 bt390.2.2.2.2 bt412.2.2.1 bt412.2.2.2.1 bt412.2.2.2.2).bind fun t423 => (if t423 = true then (if t375 = 0 then (none) else (some ((bt390.1.length : Int) == (wrap64 ((wrap64 ((y376.length : Int) / t375)) * t374))))) else (none))) else (none))) else (none)))) else (none)) else (none))))) else ((resamp_New0.f a0 a1).bind fun t425 => ((resamp_New0.f a0 a1).bind fun t427 => (none)))) = some r:=by rw [if_neg (show ¬ (false = true) by decide)] at H;exact H
           clear H
           have H:=H1
           clear H1
           by_cases c23 : resamp_Good.f a0 a1 = some true
           ·rw [if_pos c23] at H
            have c23b0 : (resamp_Good.f a0 a1 == some true) = true:=beq_iff_eq.mpr c23
            have c23b1 : (resamp_Good.f a0 a1 != some true) = false:=bne_eq_false_iff_eq.mpr c23
            clear c23
            replace H:=Option.bind_eq_some_iff.mp H
            obtain ⟨⟨t380,t381,t382,t384⟩,A240,H⟩:=H
            (try dsimp only at H)
            have A24:=ak_ A240
            clear A240
            replace H:=Option.bind_eq_some_iff.mp H
            obtain ⟨⟨t385,t386,t387,t389⟩,A250,H⟩:=H
            (try dsimp only at H)
            have A25:=ak_ A250
            clear A250
            replace H:=Option.bind_eq_some_iff.mp H
            obtain ⟨⟨t390,t393,t394,t395,t396⟩,A260,H⟩:=H
            (try dsimp only at H)
            have A26:=ak_ A260
            clear A260
            obtain ⟨ji27,hji27⟩ : ∃ j_ : Int,(wrap64 (a3 * t375)) = j_:=⟨_,rfl⟩
            replace H : (if 0 ≤ (ji27) then (if (ji27) ≤ (y376.length : Int) then ((resamp_Sampler_Run.f kj18 t385 t386 t387 (y376.take ((ji27) : Int).toNat)).bind fun bt401 => ((resamp_Sampler_Run.f kj18 bt401.2.2.1 bt401.2.2.2.1 bt401.2.2.2.2 (y376.drop ((ji27) : Int).toNat)).bind fun bt412 => (if bt401.1.length + bt412.1.length < 17592186044416 then ((madrigallaw22_same.f kj18 t390 (bt401.1 ++ bt412.1)).bind fun t422 => (if t422 = true then ((resamp_Sampler_Same.f t394 t395 t396 bt412.2.2.1 bt412.2.2.2.1 bt412.2.2.2.2).bind fun t423 => (if t423 = true then (if t375 = 0 then (none) else (some ((t390.length : Int) == (wrap64 ((wrap64 ((y376.length : Int) / t375)) * t374))))) else (none))) else (none))) else (none)))) else (none)) else (none)) = some r:=by first|(rw [hji27] at H;exact H)|(simp only [hji27] at H ⊢;exact H)
            (try rw [hji27] at A24)
            (try rw [hji27] at A25)
            (try rw [hji27] at A26)
            have hji27w : (IntKind.i64.wrap (a3 * t375)) = ji27:=(i64_w _).trans hji27
            by_cases c28 : 0 ≤ (ji27)
            ·rw [if_pos c28] at H
             have c28b0:=eq_true c28
             have c28b1 : decide (0 ≤ (ji27)) = true:=decide_eq_true c28
             clear c28
             by_cases c29 : (ji27) ≤ (y376.length : Int)
             ·rw [if_pos c29] at H
              have c29b0:=eq_true c29
              have c29b1 : decide ((ji27) ≤ (y376.length : Int)) = true:=decide_eq_true c29
              clear c29
              obtain ⟨y397,hy397⟩ : ∃ y_ : List Int,y_ = (y376.take ((ji27) : Int).toNat):=⟨_,rfl⟩
              replace H : ((resamp_Sampler_Run.f kj18 t385 t386 t387 y397).bind fun bt401 => ((resamp_Sampler_Run.f kj18 bt401.2.2.1 bt401.2.2.2.1 bt401.2.2.2.2 (y376.drop ((ji27) : Int).toNat)).bind fun bt412 => (if bt401.1.length + bt412.1.length < 17592186044416 then ((madrigallaw22_same.f kj18 t390 (bt401.1 ++ bt412.1)).bind fun t422 => (if t422 = true then ((resamp_Sampler_Same.f t394 t395 t396 bt412.2.2.1 bt412.2.2.2.1 bt412.2.2.2.2).bind fun t423 => (if t423 = true then (if t375 = 0 then (none) else (some ((t390.length : Int) == (wrap64 ((wrap64 ((y376.length : Int) / t375)) * t374))))) else (none))) else (none))) else (none)))) = some r:=by first|(rw [hy397];with_reducible exact H)|(have H2_:=(Option.bind_some _ _).symm.trans H;rw [hy397];with_reducible exact H2_)|(have H2_:=(Option.bind_some _ _).symm.trans H;with_reducible exact H2_)|with_reducible exact H|(rw [hy397];exact H)|exact H
              have Ny397:=ak_ hy397
              clear hy397
              replace H:=Option.bind_eq_some_iff.mp H
              obtain ⟨⟨t401,t404,t405,t406,t407⟩,A300,H⟩:=H
              (try dsimp only at H)
              have A30:=ak_ A300
              clear A300
              have c31b0:=eq_true (of_decide_eq_true (by first|(with_reducible assumption)|assumption) : 0 ≤ (ji27))
              have c32b0:=eq_true (of_decide_eq_true (by first|(with_reducible assumption)|assumption) : (ji27) ≤ (y376.length : Int))
              obtain ⟨y408,hy408⟩ : ∃ y_ : List Int,y_ = (y376.drop ((ji27) : Int).toNat):=⟨_,rfl⟩
              replace H : ((resamp_Sampler_Run.f kj18 t405 t406 t407 y408).bind fun bt412 => (if t401.length + bt412.1.length < 17592186044416 then ((madrigallaw22_same.f kj18 t390 (t401 ++ bt412.1)).bind fun t422 => (if t422 = true then ((resamp_Sampler_Same.f t394 t395 t396 bt412.2.2.1 bt412.2.2.2.1 bt412.2.2.2.2).bind fun t423 => (if t423 = true then (if t375 = 0 then (none) else (some ((t390.length : Int) == (wrap64 ((wrap64 ((y376.length : Int) / t375)) * t374))))) else (none))) else (none))) else (none))) = some r:=by first|(rw [hy408];with_reducible exact H)|(have H2_:=(Option.bind_some _ _).symm.trans H;rw [hy408];with_reducible exact H2_)|(have H2_:=(Option.bind_some _ _).symm.trans H;with_reducible exact H2_)|with_reducible exact H|(rw [hy408];exact H)|exact H
              have Ny408:=ak_ hy408
              clear hy408
              replace H:=Option.bind_eq_some_iff.mp H
              obtain ⟨⟨t412,t415,t416,t417,t418⟩,A330,H⟩:=H
              (try dsimp only at H)
              have A33:=ak_ A330
              clear A330
              by_cases c34 : t401.length + t412.length < 17592186044416
              ·rw [if_pos c34] at H
               have LMc34:=ak_ c34
               clear c34
               obtain ⟨y419,hy419⟩ : ∃ y_ : List Int,y_ = (t401 ++ t412):=⟨_,rfl⟩
               replace H : ((madrigallaw22_same.f kj18 t390 y419).bind fun t422 => (if t422 = true then ((resamp_Sampler_Same.f t394 t395 t396 t416 t417 t418).bind fun t423 => (if t423 = true then (if t375 = 0 then (none) else (some ((t390.length : Int) == (wrap64 ((wrap64 ((y376.length : Int) / t375)) * t374))))) else (none))) else (none))) = some r:=by first|(rw [hy419];with_reducible exact H)|(have H2_:=(Option.bind_some _ _).symm.trans H;rw [hy419];with_reducible exact H2_)|(have H2_:=(Option.bind_some _ _).symm.trans H;with_reducible exact H2_)|with_reducible exact H|(rw [hy419];exact H)|exact H
               have Ny419:=ak_ hy419
               clear hy419
               replace H:=Option.bind_eq_some_iff.mp H
               obtain ⟨t422,A350,H⟩:=H
               (try dsimp only at H)
               have A35:=ak_ A350
               clear A350
               by_cases c36 : t422 = true
               ·subst c36
                have H1 : ((resamp_Sampler_Same.f t394 t395 t396 t416 t417 t418).bind fun t423 => (if t423 = true then (if t375 = 0 then (none) else (some ((t390.length : Int) == (wrap64 ((wrap64 ((y376.length : Int) / t375)) * t374))))) else (none))) = some r:=by rw [if_pos rfl] at H;exact H
                clear H
                have H:=H1
                clear H1
                replace H:=Option.bind_eq_some_iff.mp H
                obtain ⟨t423,A370,H⟩:=H
                (try dsimp only at H)
                have A37:=ak_ A370
                clear A370
                by_cases c38 : t423 = true
                ·subst c38
                 have H1 : (if t375 = 0 then (none) else (some ((t390.length : Int) == (wrap64 ((wrap64 ((y376.length : Int) / t375)) * t374))))) = some r:=by rw [if_pos rfl] at H;exact H
                 clear H
                 have H:=H1
                 clear H1
                 by_cases c39 : t375 = 0
                 ·rw [if_pos c39] at H
                  exact absurd H (by simp)
                 ·rw [if_neg c39] at H
                  have c39b0 : (t375 == 0) = false:=beq_eq_false_iff_ne.mpr c39
                  have c39b1 : (t375 != 0) = true:=bne_iff_ne.mpr c39
                  obtain rfl:=Option.some.inj H
                  go_wp2_with (first|((with_reducible refine gate_callee (f:=12) rfl ?_);refine goesL_ (some 63) rfl rfl Try.func12 (by kernel_rfl) rfl #[.int .i64 a0,.int .i64 a1] rfl (by (try simp only [List.map_toArray,List.map_cons,List.map_nil]);first|done|rfl|(simp only [List.length_drop,List.length_take];rfl)) ?_;(with_reducible refine (resamp_New1.calls a0 a1 t380 t381 t382 t384 w _ ?side1 A24.out).mono ?_);(case side1 => repeat (first|(with_reducible first|exact HB.out|apply ba_|apply bb_|apply bc_)|exact HB.out));rintro e w40 ⟨g383,rfl,hi,hb,hb2,hge⟩;refine ⟨_,rfl,?_⟩;have n0_:=ak_ (hb);have n1_:=ak_ (hi);clear HB;have HB:=n0_;have HI383:=n1_;clear n0_ n1_;(try clear hb);(try clear hb2);(try clear hi);(try clear hge))|((with_reducible refine gate_callee (f:=12) rfl ?_);refine goesL_ (some 69) rfl rfl Try.func12 (by kernel_rfl) rfl #[.int .i64 a0,.int .i64 a1] rfl (by (try simp only [List.map_toArray,List.map_cons,List.map_nil]);first|done|rfl|(simp only [List.length_drop,List.length_take];rfl)) ?_;(with_reducible refine (resamp_New1.calls a0 a1 t385 t386 t387 t389 w _ ?side1 A25.out).mono ?_);(case side1 => repeat (first|(with_reducible first|exact HB.out|apply ba_|apply bb_|apply bc_|refine below_set ?_ (IsS53.ge HI383.out))|exact HB.out));rintro e w41 ⟨g388,rfl,hi,hb,hb2,hge⟩;refine ⟨_,rfl,?_⟩;have n0_:=ak_ (IsS53.below (by repeat (first|(with_reducible first|exact HI383.out|apply IsS53.alloc|apply IsS53.drewN|apply IsS53.drew)|exact HI383.out)) hb2);have n1_:=ak_ (Nat.ne_of_gt (Nat.lt_of_lt_of_le (IsS53.lt (show IsS53 w _ g383 t380 t381 t382 from by repeat (first|(with_reducible first|exact HI383.out|apply IsS53.alloc|apply IsS53.drewN|apply IsS53.drew)|exact HI383.out))) hge));have n2_:=ak_ (hb);have n3_:=ak_ (hi);clear HI383;clear HB;have HI383:=n0_;have NS388_383:=n1_;have HB:=n2_;have HI388:=n3_;clear n0_ n1_ n2_ n3_;(try clear hb);(try clear hb2);(try clear hi);(try clear hge))|((with_reducible refine gate_callee (f:=13) rfl ?_);refine goesL_ (some 81) rfl rfl Try.func13 (by kernel_rfl) rfl #[.pointer (some ⟨g383,0,none⟩),.slice A2 y376.length c2] rfl (by (try simp only [List.map_toArray,List.map_cons,List.map_nil]);first|done|rfl|(simp only [List.length_drop,List.length_take];rfl)) ?_;(with_reducible refine (resamp_Sampler_Run.calls kj18 g383 t380 t381 t382 _ _ y376 t390 t393 t394 t395 t396 w _ ?side1 ?side2 ?side3 ?side4 ?side5 A26.out).mono ?_);(case side1 => repeat (first|(with_reducible first|exact HI383.out|apply IsS53.alloc|apply IsS53.drewN|apply IsS53.drew)|exact HI383.out));(case side2 => repeat (first|(with_reducible first|exact HB.out|apply ba_|apply bb_|apply bc_|refine below_set ?_ (IsS53.ge HI383.out)|refine below_set ?_ (IsS53.ge HI388.out))|exact HB.out));(case side3 => repeat (first|exact (Kd.C_below HR379.out HB.out)|(with_reducible refine Kd.C_alloc ?_ _)|(with_reducible refine Kd.C_drewN ?_ _)|(with_reducible refine Kd.C_drew ?_)));(case side4 => exact HC379.out);(case side5 => exact Kd.far_C 0 HR379.out (IsS53.ge HI383.out));rintro e w42 ⟨v391,rfl,ho0,hi,hb,hk⟩;refine ⟨_,rfl,?_⟩;have n0_:=ak_ (IsS53.keepB (show IsS53 w _ g388 t385 t386 t387 from by repeat (first|(with_reducible first|exact HI388.out|apply IsS53.alloc|apply IsS53.drewN|apply IsS53.drew)|exact HI388.out)) hk NS388_383.out);have n1_:=ak_ (Kd.R_lower ho0 (below_size (by repeat (first|(with_reducible first|exact HB.out|apply ba_|apply bb_|apply bc_|refine below_set ?_ (IsS53.ge HI383.out)|refine below_set ?_ (IsS53.ge HI388.out))|exact HB.out))));have n2_:=ak_ (hb);have n3_:=ak_ (hi);clear HI388;clear HB;clear HI383;have HI388:=n0_;have HO392:=n1_;have HB:=n2_;have HI383:=n3_;clear n0_ n1_ n2_ n3_;(try clear hb);(try clear hk);(try clear hi);(try clear ho0);have q43 : ((ji27) : Int) ≤ ((y376.length : Int) : Int):=of_decide_eq_true (by first|(with_reducible assumption)|assumption);obtain ⟨i043,hi043,_,hsz43,_⟩:=info_parts info2;have hroom43 : y376.length ≤ c2:=HC379.out;have hC43 : Kd.C (Kd.int .i64) _ A2 y376.length y376:=HR379.out;have hcut43:=cut_to (P:=Try.prog) 27 2 .i64 Try.underlying27 hi043 A2 y376.length c2 (ji27) (of_decide_eq_true (by first|(with_reducible assumption)|assumption)) q43 hroom43;have hr43:=Kd.C_take (m:=((ji27) : Int).toNat) hC43 (by omega);have hy43 : y397.length = ((ji27) : Int).toNat:=(by rw [Ny397.out,List.length_take];omega);rw [← Ny397.out] at hr43;rw [← hy43] at hcut43;have HR400:=ak_ hr43;have HC400:=ak_ (show y397.length ≤ c2 from by omega);clear hr43 hC43 hroom43 hi043 hsz43;have KY43:=ak_ hy43;clear hy43;replace q43:=eq_true q43)|((with_reducible refine gate_callee (f:=13) rfl ?_);refine goesL_ (some 91) rfl rfl Try.func13 (by kernel_rfl) rfl #[.pointer (some ⟨g388,0,none⟩),.slice A2 y397.length c2] rfl (by (try simp only [List.map_toArray,List.map_cons,List.map_nil]);first|done|rfl|(simp only [List.length_drop,List.length_take];rfl)) ?_;(with_reducible refine (resamp_Sampler_Run.calls kj18 g388 t385 t386 t387 _ _ y397 t401 t404 t405 t406 t407 w _ ?side1 ?side2 ?side3 ?side4 ?side5 A30.out).mono ?_);(case side1 => repeat (first|(with_reducible first|exact HI388.out|apply IsS53.alloc|apply IsS53.drewN|apply IsS53.drew)|exact HI388.out));(case side2 => repeat (first|(with_reducible first|exact HB.out|apply ba_|apply bb_|apply bc_|refine below_set ?_ (IsS53.ge HI383.out)|refine below_set ?_ (IsS53.ge HI388.out))|exact HB.out));(case side3 => repeat (first|exact (Kd.C_below HR400.out HB.out)|(with_reducible refine Kd.C_alloc ?_ _)|(with_reducible refine Kd.C_drewN ?_ _)|(with_reducible refine Kd.C_drew ?_)));(case side4 => exact HC400.out);(case side5 => exact Kd.far_C 0 HR400.out (IsS53.ge HI388.out));rintro e w44 ⟨v402,rfl,ho0,hi,hb,hk⟩;refine ⟨_,rfl,?_⟩;have n0_:=ak_ (IsS53.keepB (show IsS53 w _ g383 t394 t395 t396 from by repeat (first|(with_reducible first|exact HI383.out|apply IsS53.alloc|apply IsS53.drewN|apply IsS53.drew)|exact HI383.out)) hk (Ne.symm NS388_383.out));have n1_:=ak_ (Kd.R_mono (Kd.R_told (Kd.R_oldK (IsS53.apart (show IsS53 w _ g388 t385 t386 t387 from by repeat (first|(with_reducible first|exact HI388.out|apply IsS53.alloc|apply IsS53.drewN|apply IsS53.drew)|exact HI388.out)) (by (with_reducible repeat (first|apply ra_|apply rb_|apply rc_));exact HO392.out) (by decide)) hk) (Kd.R_base ho0)) (fun _ h_ => h_.1));have n2_:=ak_ (Kd.R_lower (Kd.R_new' ho0 (Kd.R_lt (by (with_reducible repeat (first|apply ra_|apply rb_|apply rc_));exact HO392.out))) (below_size (by repeat (first|(with_reducible first|exact HB.out|apply ba_|apply bb_|apply bc_|refine below_set ?_ (IsS53.ge HI383.out)|refine below_set ?_ (IsS53.ge HI388.out))|exact HB.out))));have n3_:=ak_ (hb);have n4_:=ak_ (hi);clear HI383;clear HO392;clear HB;clear HI388;have HI383:=n0_;have HO392:=n1_;have HO403:=n2_;have HB:=n3_;have HI388:=n4_;clear n0_ n1_ n2_ n3_ n4_;(try clear hb);(try clear hk);(try clear hi);(try clear ho0);have q45 : ((ji27) : Int) ≤ ((y376.length : Int) : Int):=of_decide_eq_true (by first|(with_reducible assumption)|assumption);obtain ⟨i045,hi045,_,hsz45,_⟩:=info_parts info2;have hroom45 : y376.length ≤ c2:=HC379.out;have hC45 : Kd.C (Kd.int .i64) _ A2 y376.length y376:=HR379.out;have q045 : (0 : Int) ≤ ((ji27) : Int):=of_decide_eq_true (by first|(with_reducible assumption)|assumption);have hcut45:=cut_from (P:=Try.prog) 27 2 .i64 Try.underlying27 hi045 1 hsz45 A2 y376.length c2 (ji27) q045 q45;have hr45:=Kd.C_drop (m:=((ji27) : Int).toNat) (c:=c2) hC45 (by omega) hroom45;obtain ⟨A45,hA45⟩ : ∃ A_1,A_1 = (if c2 = ((ji27) : Int).toNat then A2 else (A2 : Option Addr).map (·.add (((ji27) : Int).toNat * 1))):=⟨_,rfl⟩;obtain ⟨c45,hc45⟩ : ∃ c_1,c_1 = c2 - ((ji27) : Int).toNat:=⟨_,rfl⟩;have hy45 : y408.length = y376.length - ((ji27) : Int).toNat:=(by rw [Ny408.out,List.length_drop] <;> omega);rw [show (y376).drop ((ji27) : Int).toNat = y408 from Ny408.out.symm] at hr45;replace hr45 : Kd.C (Kd.int .i64) _ A45 y408.length y408:=(by rw [hA45];exact hr45);rw [← hy45,← hA45,← hc45] at hcut45;have HR411:=ak_ hr45;have HC411:=ak_ (show y408.length ≤ c45 from by rw [hy45,hc45];exact Nat.sub_le_sub_right hroom45 _);clear hr45 hC45 hroom45 hi045 hsz45 hc45;have KY45:=ak_ hy45;have KA45:=ak_ hA45;clear hy45 hA45;replace q45:=eq_true q45)|((with_reducible refine gate_callee (f:=13) rfl ?_);refine goesL_ (some 101) rfl rfl Try.func13 (by kernel_rfl) rfl #[.pointer (some ⟨g388,0,none⟩),.slice A45 y408.length c45] rfl (by (try simp only [List.map_toArray,List.map_cons,List.map_nil]);first|done|rfl|(simp only [List.length_drop,List.length_take];rfl)) ?_;(with_reducible refine (resamp_Sampler_Run.calls kj18 g388 t405 t406 t407 _ _ y408 t412 t415 t416 t417 t418 w _ ?side1 ?side2 ?side3 ?side4 ?side5 A33.out).mono ?_);(case side1 => repeat (first|(with_reducible first|exact HI388.out|apply IsS53.alloc|apply IsS53.drewN|apply IsS53.drew)|exact HI388.out));(case side2 => repeat (first|(with_reducible first|exact HB.out|apply ba_|apply bb_|apply bc_|refine below_set ?_ (IsS53.ge HI383.out)|refine below_set ?_ (IsS53.ge HI388.out))|exact HB.out));(case side3 => repeat (first|exact (Kd.C_below HR411.out HB.out)|(with_reducible refine Kd.C_alloc ?_ _)|(with_reducible refine Kd.C_drewN ?_ _)|(with_reducible refine Kd.C_drew ?_)));(case side4 => exact HC411.out);(case side5 => exact Kd.far_C 0 HR411.out (IsS53.ge HI388.out));rintro e w46 ⟨v413,rfl,ho0,hi,hb,hk⟩;refine ⟨_,rfl,?_⟩;have n0_:=ak_ (IsS53.keepB (show IsS53 w _ g383 t394 t395 t396 from by repeat (first|(with_reducible first|exact HI383.out|apply IsS53.alloc|apply IsS53.drewN|apply IsS53.drew)|exact HI383.out)) hk (Ne.symm NS388_383.out));have n1_:=ak_ (Kd.R_mono (Kd.R_told (Kd.R_oldK (IsS53.apart (show IsS53 w _ g388 t405 t406 t407 from by repeat (first|(with_reducible first|exact HI388.out|apply IsS53.alloc|apply IsS53.drewN|apply IsS53.drew)|exact HI388.out)) (by (with_reducible repeat (first|apply ra_|apply rb_|apply rc_));exact HO392.out) (by decide)) hk) (Kd.R_base ho0)) (fun _ h_ => h_.1));have n2_:=ak_ (Kd.R_mono (Kd.R_told (Kd.R_oldK (IsS53.apart (show IsS53 w _ g388 t405 t406 t407 from by repeat (first|(with_reducible first|exact HI388.out|apply IsS53.alloc|apply IsS53.drewN|apply IsS53.drew)|exact HI388.out)) (by (with_reducible repeat (first|apply ra_|apply rb_|apply rc_));exact HO403.out) (by decide)) hk) (Kd.R_base ho0)) (fun _ h_ => h_.1));have n3_:=ak_ (Kd.R_lower (Kd.R_new' (Kd.R_new' ho0 (Kd.R_lt (by (with_reducible repeat (first|apply ra_|apply rb_|apply rc_));exact HO392.out))) (Kd.R_lt (by (with_reducible repeat (first|apply ra_|apply rb_|apply rc_));exact HO403.out))) (below_size (by repeat (first|(with_reducible first|exact HB.out|apply ba_|apply bb_|apply bc_|refine below_set ?_ (IsS53.ge HI383.out)|refine below_set ?_ (IsS53.ge HI388.out))|exact HB.out))));have n4_:=ak_ (hb);have n5_:=ak_ (hi);clear HI383;clear HO392;clear HO403;clear HB;clear HI388;have HI383:=n0_;have HO392:=n1_;have HO403:=n2_;have HO414:=n3_;have HB:=n4_;have HI388:=n5_;clear n0_ n1_ n2_ n3_ n4_ n5_;(try clear hb);(try clear hk);(try clear hi);(try clear ho0);obtain ⟨Ao48,co48,eo48⟩:=Kd.R_slice HO414.out;subst eo48)|((with_reducible refine gate_builtin (b:=.append) (xs:=#[.tmp 105,.tmp 106]) rfl ?_);(try (refine gate_guard (by rfl) ?_;dsimp only));at_builtin;refine Kd.R_append_rows (Kd.int .i64) (w0:=w) w.heap.size rfl (.tmp 105) (.tmp 106) 27 2 (.int .i64 0) 8 rfl Try.underlying27 info2 rfl (by decide) (by omega) v402 t401 t412 _ _ _ (fun k_ => some k_ ≠ (v391 : Value).ownBlock ∧ some k_ ≠ (.slice Ao48 t412.length co48 : Value).ownBlock) (fun _ => False) rfl rfl ?aO ?aR (fun _ _ h => h) (fun _ h => h.elim) ?aF ?aB ?aS ?aL ?_;(case aR => repeat (first|exact (Kd.R_reads' HO414.out).2.2|(with_reducible refine Kd.C_alloc ?_ _)|(with_reducible refine Kd.C_drewN ?_ _)|(with_reducible refine Kd.C_drew ?_)));(case aB => exact (by repeat (first|(with_reducible first|exact HB.out|apply ba_|apply bb_|apply bc_|refine below_set ?_ (IsS53.ge HI383.out)|refine below_set ?_ (IsS53.ge HI388.out))|exact HB.out)));(case aF => exact (fun k_ hk => ⟨Kd.fresh' (Kd.R_lt (by (with_reducible repeat (first|apply ra_|apply rb_|apply rc_));exact HO392.out)) k_ hk,Kd.fresh' (Kd.R_lt (by (with_reducible repeat (first|apply ra_|apply rb_|apply rc_));exact HO414.out)) k_ hk⟩));(case aO => exact (by (with_reducible repeat (first|apply ra_|apply rb_|apply rc_));exact Kd.R_mono HO403.out (fun _ hk => ⟨hk.1.2,hk.2⟩)));(case aS => exact (below_size (by repeat (first|(with_reducible first|exact HB.out|apply ba_|apply bb_|apply bc_|refine below_set ?_ (IsS53.ge HI383.out)|refine below_set ?_ (IsS53.ge HI388.out))|exact HB.out))));(case aL => have:=LMc34.out;omega);intro v420 w47 ho hb hg hat;rw [← Ny419.out] at ho;have n0_:=ak_ (IsS53.grown (by repeat (first|(with_reducible first|exact HI383.out|apply IsS53.alloc|apply IsS53.drewN|apply IsS53.drew)|exact HI383.out)) hg (IsS53.own_ne HI383.out HO403.out (by decide)));have n1_:=ak_ (IsS53.grown (by repeat (first|(with_reducible first|exact HI388.out|apply IsS53.alloc|apply IsS53.drewN|apply IsS53.drew)|exact HI388.out)) hg (IsS53.own_ne HI388.out HO403.out (by decide)));have n2_:=ak_ (Kd.R_after (ok:=(fun k_ => some k_ ≠ (.slice Ao48 t412.length co48 : Value).ownBlock)) (by (with_reducible repeat (first|apply ra_|apply rb_|apply rc_));exact Kd.R_mono HO392.out (fun _ hk => ⟨hk.2,hk.1.2⟩)) hg hat);have n3_:=ak_ (Kd.R_after (ok:=(fun k_ => some k_ ≠ (v391 : Value).ownBlock)) (by (with_reducible repeat (first|apply ra_|apply rb_|apply rc_));exact Kd.R_mono HO414.out (fun _ hk => ⟨hk.1.2,hk.2⟩)) hg hat);have n4_:=ak_ (hb);have n5_:=ak_ (ho);clear HI383;clear HI388;clear HO392;clear HO414;clear HB;clear HO403;have HI383:=n0_;have HI388:=n1_;have HO392:=n2_;have HO414:=n3_;have HB:=n4_;have HO421:=n5_;clear n0_ n1_ n2_ n3_ n4_ n5_;clear ho hb hg hat;obtain ⟨Ao49,co49,eo49⟩:=Kd.R_slice HO392.out;subst eo49;obtain ⟨Ao50,co50,eo50⟩:=Kd.R_slice HO421.out;subst eo50)|((with_reducible refine gate_callee (f:=18) rfl ?_);refine goesL_ (some 108) rfl rfl Try.func18 (by kernel_rfl) rfl #[.slice Ao49 t390.length co49,.slice Ao50 y419.length co50] rfl (by (try simp only [List.map_toArray,List.map_cons,List.map_nil]);first|done|rfl|(simp only [List.length_drop,List.length_take];rfl)) ?_;(with_reducible refine (madrigallaw22_same.calls kj18 _ _ t390 _ _ y419 true _ ?side1 ?side2 ?side3 ?side4 A35.out).mono ?_);(case side1 => repeat (first|exact (Kd.R_reads' HO392.out).2.2|(with_reducible refine Kd.C_alloc ?_ _)|(with_reducible refine Kd.C_drewN ?_ _)|(with_reducible refine Kd.C_drew ?_)));(case side2 => exact (Kd.R_reads' HO392.out).2.1);(case side3 => repeat (first|exact (Kd.R_reads' HO421.out).2.2|(with_reducible refine Kd.C_alloc ?_ _)|(with_reducible refine Kd.C_drewN ?_ _)|(with_reducible refine Kd.C_drew ?_)));(case side4 => exact (Kd.R_reads' HO421.out).2.1);rintro e w' ⟨rfl,⟨nd,rfl⟩⟩;refine ⟨_,rfl,?_⟩)|(go_at_call 23;(with_reducible refine (resamp_Sampler_Same.calls g383 t394 t395 t396 g388 t416 t417 t418 true w _ ?side1 ?side2 ?side3 A37.out).mono ?_);(case side1 => repeat (first|(with_reducible first|exact HI383.out|apply IsS53.alloc|apply IsS53.drewN|apply IsS53.drew)|exact HI383.out));(case side2 => repeat (first|(with_reducible first|exact HI388.out|apply IsS53.alloc|apply IsS53.drewN|apply IsS53.drew)|exact HI388.out));(case side3 => repeat (first|(with_reducible first|exact HB.out|apply ba_|apply bb_|apply bc_|refine below_set ?_ (IsS53.ge HI383.out)|refine below_set ?_ (IsS53.ge HI388.out))|exact HB.out));rintro e w' ⟨rfl,⟨nd,rfl⟩⟩))
                  go_ret
                  exact ⟨by first|rfl|(simp [errW_none,errW_some] <;> rfl)|(simp only [← hji16,← hji27];first|rfl|(simp [errW_none,errW_some] <;> rfl))|(simp [*,errW_none,errW_some] <;> rfl),by repeat (first|(with_reducible first|exact HB.out|apply ba_|apply bb_|apply bc_|refine below_set ?_ (IsS53.ge HI383.out)|refine below_set ?_ (IsS53.ge HI388.out))|exact HB.out)⟩
                ·replace c38:=Bool.eq_false_iff.mpr c38
                 subst c38
                 have H1 : (none) = some r:=by rw [if_neg (show ¬ (false = true) by decide)] at H;exact H
                 clear H
                 have H:=H1
                 clear H1
                 exact absurd H (by simp)
               ·replace c36:=Bool.eq_false_iff.mpr c36
                subst c36
                have H1 : (none) = some r:=by rw [if_neg (show ¬ (false = true) by decide)] at H;exact H
                clear H
                have H:=H1
                clear H1
                exact absurd H (by simp)
              ·rw [if_neg c34] at H
               exact absurd H (by simp)
             ·rw [if_neg c29] at H
              exact absurd H (by simp)
            ·rw [if_neg c28] at H
             exact absurd H (by simp)
           ·rw [if_neg c23] at H
            have c23b0 : (resamp_Good.f a0 a1 == some true) = false:=beq_eq_false_iff_ne.mpr c23
            have c23b1 : (resamp_Good.f a0 a1 != some true) = true:=bne_iff_ne.mpr c23
            replace H:=Option.bind_eq_some_iff.mp H
            obtain ⟨t425,A510,H⟩:=H
            (try dsimp only at H)
            have A51:=ak_ A510
            clear A510
            replace H:=Option.bind_eq_some_iff.mp H
            obtain ⟨t427,A520,H⟩:=H
            (try dsimp only at H)
            have A52:=ak_ A520
            clear A520
            exact absurd H (by simp)
       ·rw [if_neg c18] at H
        exact absurd H (by simp)
      ·rw [if_neg c17] at H
       exact absurd H (by simp)
 ·replace c6:=Bool.eq_false_iff.mpr c6
  subst c6
  have H1 : (none) = some r:=by rw [if_neg (show ¬ (false = true) by decide)] at H;exact H
  clear H
  have H:=H1
  clear H1
  exact absurd H (by simp)

/-- THE ONE PURE STATEMENT of madrigallaw22_ResampCuts. -/
def madrigallaw22_ResampCuts.Pure : Prop:=∀ (a0 : Int) (a1 : Int) (l2 : List Int) (a3 : Int),(Lit.int .i64 a0).wf = true → (Lit.int .i64 a1).wf = true → l2.length ≤ maxLen → l2.length * 8 ≤ 140737488351232 → (∀ x ∈ l2,(Lit.int .i64 x).wf = true) → (Lit.int .i64 a3).wf = true → ∃ k,madrigallaw22_ResampCuts.f k a0 a1 l2 a3 = some true
theorem madrigallaw22_ResampCuts.walk (P : madrigallaw22_ResampCuts.Pure) (a0 : Int) (a1 : Int) (a2 : Option Addr) (len2 cap2 : Nat) (z2 : List Int) (a3 : Int) (w : World) (w0 : (Lit.int .i64 a0).wf = true) (w1 : (Lit.int .i64 a1).wf = true) (w2 : (a2 = none ∧ len2 = 0 ∧ cap2 = 0 ∧ z2 = []) ∨ ∃ x,a2 = some x ∧ len2 ≤ cap2 ∧ cap2 ≤ maxLen ∧ z2.length = cap2 ∧ (∀ i,i < z2.length → w.cell? (x.add i) = some (.int .i64 (z2.getD i 0))) ∧ ∀ n ∈ z2,(Lit.int .i64 n).wf = true) (y2 : len2 * 8 ≤ 140737488351232) (w3 : (Lit.int .i64 a3).wf = true) :
  Calls Try.prog 6 #[.int .i64 a0,.int .i64 a1,.slice a2 len2 cap2,.int .i64 a3] w fun e w' => e = .returned (.bool true) ∧ Below w.heap.size w w':=by
 obtain ⟨l2,rfl,hr2,hm2,hw2,hc2⟩:=ReadsInt.ofRowC w2
 obtain ⟨k,h⟩:=P a0 a1 l2 a3 w0 w1 hm2 y2 hw2 w3
 refine (madrigallaw22_ResampCuts.calls k a0 a1 _ _ l2 a3 true w (Kd.C_of_reads (d:=(0 : Int)) (h1:=fun _ => rfl) hr2) hc2 h).mono ?_
 rintro e w' ⟨rfl,hd⟩
 exact ⟨rfl,hd⟩

end Go.Proofs.Ytcicenmmpbgmoaa.P
