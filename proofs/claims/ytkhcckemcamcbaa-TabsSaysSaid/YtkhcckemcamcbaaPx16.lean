/- The machine side of the laws of one chapter, without conditions: each call of a Go function comes to what the Lean function of its name answers. Written for this claim by a program of the prover. -/
import Derived.Test.YtkhcckemcamcbaaPx0
import Derived.Test.YtkhcckemcamcbaaPx2
import Derived.Test.YtkhcckemcamcbaaPx3
import Derived.Test.YtkhcckemcamcbaaPx4
import Derived.Test.YtkhcckemcamcbaaPx5
import Derived.Test.YtkhcckemcamcbaaPx6
import Derived.Test.YtkhcckemcamcbaaPx7
import Derived.Test.YtkhcckemcamcbaaPx8
import Derived.Test.YtkhcckemcamcbaaPx9
import Derived.Test.YtkhcckemcamcbaaPx14
import Derived.Test.YtkhcckemcamcbaaPx15
namespace Go.Proofs.Ytkhcckemcamcbaa.P
open Go.RowKit Go.Proofs.YtkhcckemcamcbaaW.PrintWords Go.Proofs.YtkhcckemcamcbaaW.PrintLast Go.Proofs.YtkhcckemcamcbaaW.PrintMore
attribute [local go_sem] max2_int min2_int max_two min_two max_three min_three max_four min_four   -- for this text's walks alone
set_option linter.unusedVariables false
set_option linter.unusedSimpArgs false

theorem arrc10_28_2 (x0 x1 x2 x3 x4 : Int) (w : World) : (Instr.index 28 (.agg #[.int .i64 x0,.int .i64 x1,.int .i64 x2,.int .i64 x3,.int .i64 x4]) (.int .i64 2)).run Try.prog w = .ok (.int .i64 x2) w:=by rfl
attribute [local go_sem] arrc10_28_2
/-! ### madrigallaw2_awake: function 10 -/
def madrigallaw2_awake.f (k : Nat)  : Option (Bool):=(tabs_Icdf.f 0).bind fun t186 => ((tabs_Bins.f 8000 10 9).bind fun bt189 => (if (t186.length : Int) = 3 then (if 0 < (t186.length : Int) then (if (rd t186 0) = 192 then (if 1 < (t186.length : Int) then (if (rd t186 1) = 96 then ((tabs_Good.f k t186).bind fun t193 => (if t193 = true then ((tabs_Edges.f 8000).bind fun t194 => (if (t194.length : Int) = 14 then (if bt189.1 = 40 then (if bt189.2 = 48 then ((tabs_Order.f 16000).bind fun t197 => (if t197 = 16 then ((tabs_Rate.f 24000).bind fun t198 => (if t198 = true then ((tabs_Window.f k 20).bind fun t199 => (if (t199.length : Int) = 20 then ((tabs_Lsf.f k 10 0).bind fun t202 => (if (t202.length : Int) = 10 then ((tabs_Taps.f 0).bind fun bt205 => (if bt205.2.2.1 = 39 then ((tabs_Filters.f).bind fun t210 => (some (t210 == 8))) else (none))) else (none))) else (none))) else (none))) else (none))) else (none)) else (none)) else (none))) else (none))) else (none)) else (none)) else (none)) else (none)) else (none)))
theorem madrigallaw2_awake.mono : ∀ k,LeO (madrigallaw2_awake.f k ) (madrigallaw2_awake.f (k + 1) ):=by
 intro  k
 unfold madrigallaw2_awake.f
 repeat' first|(with_reducible first|exact tabs_Good.mono _ _|exact tabs_Lsf.mono _ _ _|exact tabs_Window.mono _ _|exact LeO.refl _|exact LeO.none _|refine LeO.ite ?_ ?_|refine LeO.bind ?_ (fun _ => ?_))|exact tabs_Good.mono _ _|exact tabs_Lsf.mono _ _ _|exact tabs_Window.mono _ _|exact LeO.none _|refine LeO.ite ?_ ?_|refine LeO.bind ?_ (fun _ => ?_)
set_option maxHeartbeats 8000000 in
set_option maxRecDepth 100000 in
theorem madrigallaw2_awake.calls (k : Nat)  (r : Bool) (w : World) (h : madrigallaw2_awake.f k  = some r) :
  Calls Try.prog 10 #[] w fun e w' => e = .returned (.bool r) ∧ Below w.heap.size w w':=by
 have HB:=ak_ (Below.refl w.heap.size w)
 have H : ((tabs_Icdf.f 0).bind fun t186 => ((tabs_Bins.f 8000 10 9).bind fun bt189 => (if (t186.length : Int) = 3 then (if 0 < (t186.length : Int) then (if (rd t186 0) = 192 then (if 1 < (t186.length : Int) then (if (rd t186 1) = 96 then ((tabs_Good.f k t186).bind fun t193 => (if t193 = true then ((tabs_Edges.f 8000).bind fun t194 => (if (t194.length : Int) = 14 then (if bt189.1 = 40 then (if bt189.2 = 48 then ((tabs_Order.f 16000).bind fun t197 => (if t197 = 16 then ((tabs_Rate.f 24000).bind fun t198 => (if t198 = true then ((tabs_Window.f k 20).bind fun t199 => (if (t199.length : Int) = 20 then ((tabs_Lsf.f k 10 0).bind fun t202 => (if (t202.length : Int) = 10 then ((tabs_Taps.f 0).bind fun bt205 => (if bt205.2.2.1 = 39 then ((tabs_Filters.f).bind fun t210 => (some (t210 == 8))) else (none))) else (none))) else (none))) else (none))) else (none))) else (none)) else (none)) else (none))) else (none))) else (none)) else (none)) else (none)) else (none)) else (none)))) = some r:=h
 clear h
 replace H:=Option.bind_eq_some_iff.mp H
 obtain ⟨t186,A10,H⟩:=H
 (try dsimp only at H)
 have A1:=ak_ A10
 clear A10
 replace H:=Option.bind_eq_some_iff.mp H
 obtain ⟨⟨t189,t190⟩,A20,H⟩:=H
 (try dsimp only at H)
 have A2:=ak_ A20
 clear A20
 by_cases c3 : (t186.length : Int) = 3
 ·rw [if_pos c3] at H
  have c3b0 : ((t186.length : Int) == 3) = true:=beq_iff_eq.mpr c3
  have c3b1 : ((t186.length : Int) != 3) = false:=bne_eq_false_iff_eq.mpr c3
  clear c3
  by_cases c4 : 0 < (t186.length : Int)
  ·rw [if_pos c4] at H
   have c4b0:=decide_eq_true c4
   have c4b1 : decide (0 < t186.length) = true:=decide_eq_true (by omega)
   clear c4
   by_cases c5 : (rd t186 0) = 192
   ·rw [if_pos c5] at H
    have c5b0 : ((rd t186 0) == 192) = true:=beq_iff_eq.mpr c5
    have c5b1 : ((rd t186 0) != 192) = false:=bne_eq_false_iff_eq.mpr c5
    clear c5
    by_cases c6 : 1 < (t186.length : Int)
    ·rw [if_pos c6] at H
     have c6b0:=decide_eq_true c6
     have c6b1 : decide (1 < t186.length) = true:=decide_eq_true (by omega)
     clear c6
     by_cases c7 : (rd t186 1) = 96
     ·rw [if_pos c7] at H
      have c7b0 : ((rd t186 1) == 96) = true:=beq_iff_eq.mpr c7
      have c7b1 : ((rd t186 1) != 96) = false:=bne_eq_false_iff_eq.mpr c7
      clear c7
      replace H:=Option.bind_eq_some_iff.mp H
      obtain ⟨t193,A80,H⟩:=H
      (try dsimp only at H)
      have A8:=ak_ A80
      clear A80
      by_cases c9 : t193 = true
      ·subst c9
       have H1 : ((tabs_Edges.f 8000).bind fun t194 => (if (t194.length : Int) = 14 then (if t189 = 40 then (if t190 = 48 then ((tabs_Order.f 16000).bind fun t197 => (if t197 = 16 then ((tabs_Rate.f 24000).bind fun t198 => (if t198 = true then ((tabs_Window.f k 20).bind fun t199 => (if (t199.length : Int) = 20 then ((tabs_Lsf.f k 10 0).bind fun t202 => (if (t202.length : Int) = 10 then ((tabs_Taps.f 0).bind fun bt205 => (if bt205.2.2.1 = 39 then ((tabs_Filters.f).bind fun t210 => (some (t210 == 8))) else (none))) else (none))) else (none))) else (none))) else (none))) else (none)) else (none)) else (none))) = some r:=by rw [if_pos rfl] at H;exact H
       clear H
       have H:=H1
       clear H1
       replace H:=Option.bind_eq_some_iff.mp H
       obtain ⟨t194,A100,H⟩:=H
       (try dsimp only at H)
       have A10:=ak_ A100
       clear A100
       by_cases c11 : (t194.length : Int) = 14
       ·rw [if_pos c11] at H
        have c11b0 : ((t194.length : Int) == 14) = true:=beq_iff_eq.mpr c11
        have c11b1 : ((t194.length : Int) != 14) = false:=bne_eq_false_iff_eq.mpr c11
        clear c11
        by_cases c12 : t189 = 40
        ·rw [if_pos c12] at H
         have c12b0 : (t189 == 40) = true:=beq_iff_eq.mpr c12
         have c12b1 : (t189 != 40) = false:=bne_eq_false_iff_eq.mpr c12
         clear c12
         by_cases c13 : t190 = 48
         ·rw [if_pos c13] at H
          have c13b0 : (t190 == 48) = true:=beq_iff_eq.mpr c13
          have c13b1 : (t190 != 48) = false:=bne_eq_false_iff_eq.mpr c13
          clear c13
          replace H:=Option.bind_eq_some_iff.mp H
          obtain ⟨t197,A140,H⟩:=H
          (try dsimp only at H)
          have A14:=ak_ A140
          clear A140
          by_cases c15 : t197 = 16
          ·rw [if_pos c15] at H
           have c15b0 : (t197 == 16) = true:=beq_iff_eq.mpr c15
           have c15b1 : (t197 != 16) = false:=bne_eq_false_iff_eq.mpr c15
           clear c15
           replace H:=Option.bind_eq_some_iff.mp H
           obtain ⟨t198,A160,H⟩:=H
           (try dsimp only at H)
           have A16:=ak_ A160
           clear A160
           by_cases c17 : t198 = true
           ·subst c17
            have H1 : ((tabs_Window.f k 20).bind fun t199 => (if (t199.length : Int) = 20 then ((tabs_Lsf.f k 10 0).bind fun t202 => (if (t202.length : Int) = 10 then ((tabs_Taps.f 0).bind fun bt205 => (if bt205.2.2.1 = 39 then ((tabs_Filters.f).bind fun t210 => (some (t210 == 8))) else (none))) else (none))) else (none))) = some r:=by rw [if_pos rfl] at H;exact H
            clear H
            have H:=H1
            clear H1
            replace H:=Option.bind_eq_some_iff.mp H
            obtain ⟨t199,A180,H⟩:=H
            (try dsimp only at H)
            have A18:=ak_ A180
            clear A180
            by_cases c19 : (t199.length : Int) = 20
            ·rw [if_pos c19] at H
             have c19b0 : ((t199.length : Int) == 20) = true:=beq_iff_eq.mpr c19
             have c19b1 : ((t199.length : Int) != 20) = false:=bne_eq_false_iff_eq.mpr c19
             clear c19
             replace H:=Option.bind_eq_some_iff.mp H
             obtain ⟨t202,A200,H⟩:=H
             (try dsimp only at H)
             have A20:=ak_ A200
             clear A200
             by_cases c21 : (t202.length : Int) = 10
             ·rw [if_pos c21] at H
              have c21b0 : ((t202.length : Int) == 10) = true:=beq_iff_eq.mpr c21
              have c21b1 : ((t202.length : Int) != 10) = false:=bne_eq_false_iff_eq.mpr c21
              clear c21
              replace H:=Option.bind_eq_some_iff.mp H
              obtain ⟨⟨t205,t206,t207,t208,t209⟩,A220,H⟩:=H
              (try dsimp only at H)
              have A22:=ak_ A220
              clear A220
              by_cases c23 : t207 = 39
              ·rw [if_pos c23] at H
               have c23b0 : (t207 == 39) = true:=beq_iff_eq.mpr c23
               have c23b1 : (t207 != 39) = false:=bne_eq_false_iff_eq.mpr c23
               clear c23
               replace H:=Option.bind_eq_some_iff.mp H
               obtain ⟨t210,A240,H⟩:=H
               (try dsimp only at H)
               have A24:=ak_ A240
               clear A240
               obtain rfl:=Option.some.inj H
               go_enter Try.func10,Try.ntmps10
               go_wp2_with (first|((with_reducible refine gate_callee (f:=12) rfl ?_);refine goesL_ (some 4) rfl rfl Try.func12 (by kernel_rfl) rfl #[.int .i64 0] rfl (by (try simp only [List.map_toArray,List.map_cons,List.map_nil]);first|done|rfl|(simp only [List.length_drop,List.length_take];rfl)) ?_;(with_reducible refine (tabs_Icdf.calls 0 t186 _ A1.out).mono ?_);rintro e w25 ⟨v187,rfl,ho0,hb⟩;refine ⟨_,rfl,?_⟩;have n0_:=ak_ (Kd.R_lower ho0 (below_size (by repeat (first|(with_reducible first|exact HB.out|apply ba_|apply bb_|apply bc_)|exact HB.out))));have n1_:=ak_ (below_step (by repeat (first|(with_reducible first|exact HB.out|apply ba_|apply bb_|apply bc_)|exact HB.out)) hb);clear HB;have HO188:=n0_;have HB:=n1_;clear n0_ n1_;(try clear hb);(try clear ho0))|((with_reducible refine gate_callee (f:=19) rfl ?_);refine goesL_ (some 6) rfl rfl Try.func19 (by kernel_rfl) rfl #[.int .i64 8000,.int .i64 10,.int .i64 9] rfl (by (try simp only [List.map_toArray,List.map_cons,List.map_nil]);first|done|rfl|(simp only [List.length_drop,List.length_take];rfl)) ?_;(with_reducible refine (tabs_Bins.calls 8000 10 9 t189 t190 _ A2.out).mono ?_);rintro e w26 ⟨rfl,hb⟩;refine ⟨_,rfl,?_⟩;have n0_:=ak_ (Kd.R_below (by (with_reducible repeat (first|apply ra_|apply rb_|apply rc_));exact HO188.out) hb);have n1_:=ak_ (below_step (by repeat (first|(with_reducible first|exact HB.out|apply ba_|apply bb_|apply bc_)|exact HB.out)) hb);clear HO188;clear HB;have HO188:=n0_;have HB:=n1_;clear n0_ n1_;(try clear hb);obtain ⟨Ao27,co27,eo27⟩:=Kd.R_slice HO188.out;subst eo27;have p191 : 0 ≤ (0 : Int):=(by omega);have q191 : 0 < (t186.length : Int):=of_decide_eq_true (by first|(with_reducible assumption)|assumption);obtain ⟨ad191,e191,hx191_0⟩:=Kd.at_int (Kd.R_reads' HO188.out).2.2 0 p191 q191;cases e191;have qi191 : (0 < t186.length) = True:=eq_true (by omega);(try rw [show ((0 : Int)).toNat = 0 from rfl] at hx191_0);(try rw [Addr.add_zero'] at hx191_0);replace p191:=eq_true p191;replace q191:=eq_true q191;have p192 : 0 ≤ (1 : Int):=(by omega);have q192 : 1 < (t186.length : Int):=of_decide_eq_true (by first|(with_reducible assumption)|assumption);obtain ⟨ad192,e192,hx192_0⟩:=Kd.at_int (Kd.R_reads' HO188.out).2.2 1 p192 q192;obtain rfl : ad191 = ad192:=(by injection e192);(try simp only [show (1 : Int).toNat = 1 from rfl,Nat.reduceMul,Nat.reduceEqDiff,Go.Addr.add,↓reduceIte] at hx192_0);have qi192 : (1 < t186.length) = True:=eq_true (by omega);(try rw [show ((1 : Int)).toNat = 1 from rfl] at hx192_0);replace p192:=eq_true p192;replace q192:=eq_true q192)|(go_at_call 11;(with_reducible refine (tabs_Good.calls k _ _ t186 true _ ?side1 ?side2 A8.out).mono ?_);(case side1 => repeat (first|exact (Kd.R_reads' HO188.out).2.2|(with_reducible refine Kd.C_alloc ?_ _)|(with_reducible refine Kd.C_drewN ?_ _)|(with_reducible refine Kd.C_drew ?_)));(case side2 => exact (Kd.R_reads' HO188.out).2.1);rintro e w' ⟨rfl,⟨nd,rfl⟩⟩)|(go_at_call 13;(with_reducible refine (tabs_Edges.calls 8000 t194 _ A10.out).mono ?_);rintro e w28 ⟨v195,rfl,ho0,hb⟩;have n0_:=ak_ (Kd.R_elder' (by (with_reducible repeat (first|apply ra_|apply rb_|apply rc_));exact HO188.out) (Kd.R_base ho0) hb);have n1_:=ak_ (Kd.R_lower (Kd.R_new' ho0 (Kd.R_lt (by (with_reducible repeat (first|apply ra_|apply rb_|apply rc_));exact HO188.out))) (below_size (by repeat (first|(with_reducible first|exact HB.out|apply ba_|apply bb_|apply bc_)|exact HB.out))));have n2_:=ak_ (below_step (by repeat (first|(with_reducible first|exact HB.out|apply ba_|apply bb_|apply bc_)|exact HB.out)) hb);clear HO188;clear HB;have HO188:=n0_;have HO196:=n1_;have HB:=n2_;clear n0_ n1_ n2_;(try clear hb);(try clear ho0);obtain ⟨Ao29,co29,eo29⟩:=Kd.R_slice HO196.out;subst eo29)|(go_at_call 22;(with_reducible refine (tabs_Order.calls 16000 t197 _ A14.out).mono ?_);rintro e w' ⟨rfl,⟨nd,rfl⟩⟩)|(go_at_call 16;(with_reducible refine (tabs_Rate.calls 24000 true _ A16.out).mono ?_);rintro e w' ⟨rfl,⟨nd,rfl⟩⟩)|(go_at_call 25;(with_reducible refine (tabs_Window.calls k 20 t199 _ A18.out).mono ?_);rintro e w30 ⟨v200,rfl,ho0,hb⟩;have n0_:=ak_ (Kd.R_below (by (with_reducible repeat (first|apply ra_|apply rb_|apply rc_));exact HO188.out) hb);have n1_:=ak_ (Kd.R_below (by (with_reducible repeat (first|apply ra_|apply rb_|apply rc_));exact HO196.out) hb);have n2_:=ak_ (Kd.R_lower ho0 (below_size (by repeat (first|(with_reducible first|exact HB.out|apply ba_|apply bb_|apply bc_)|exact HB.out))));have n3_:=ak_ (below_step (by repeat (first|(with_reducible first|exact HB.out|apply ba_|apply bb_|apply bc_)|exact HB.out)) hb);clear HO188;clear HO196;clear HB;have HO188:=n0_;have HO196:=n1_;have HO201:=n2_;have HB:=n3_;clear n0_ n1_ n2_ n3_;(try clear hb);(try clear ho0);obtain ⟨Ao31,co31,eo31⟩:=Kd.R_slice HO201.out;subst eo31)|(go_at_call 14;(with_reducible refine (tabs_Lsf.calls k 10 0 t202 _ A20.out).mono ?_);rintro e w32 ⟨v203,rfl,ho0,hb⟩;have n0_:=ak_ (Kd.R_below (by (with_reducible repeat (first|apply ra_|apply rb_|apply rc_));exact HO188.out) hb);have n1_:=ak_ (Kd.R_below (by (with_reducible repeat (first|apply ra_|apply rb_|apply rc_));exact HO196.out) hb);have n2_:=ak_ (Kd.R_elder' (by (with_reducible repeat (first|apply ra_|apply rb_|apply rc_));exact HO201.out) (Kd.R_base ho0) hb);have n3_:=ak_ (Kd.R_lower (Kd.R_new' ho0 (Kd.R_lt (by (with_reducible repeat (first|apply ra_|apply rb_|apply rc_));exact HO201.out))) (below_size (by repeat (first|(with_reducible first|exact HB.out|apply ba_|apply bb_|apply bc_)|exact HB.out))));have n4_:=ak_ (below_step (by repeat (first|(with_reducible first|exact HB.out|apply ba_|apply bb_|apply bc_)|exact HB.out)) hb);clear HO188;clear HO196;clear HO201;clear HB;have HO188:=n0_;have HO196:=n1_;have HO201:=n2_;have HO204:=n3_;have HB:=n4_;clear n0_ n1_ n2_ n3_ n4_;(try clear hb);(try clear ho0);obtain ⟨Ao33,co33,eo33⟩:=Kd.R_slice HO204.out;subst eo33)|(go_at_call 15;(with_reducible refine (tabs_Taps.calls 0 t205 t206 t207 t208 t209 _ A22.out).mono ?_);rintro e w34 ⟨rfl,hb⟩;have n0_:=ak_ (Kd.R_below (by (with_reducible repeat (first|apply ra_|apply rb_|apply rc_));exact HO188.out) hb);have n1_:=ak_ (Kd.R_below (by (with_reducible repeat (first|apply ra_|apply rb_|apply rc_));exact HO196.out) hb);have n2_:=ak_ (Kd.R_below (by (with_reducible repeat (first|apply ra_|apply rb_|apply rc_));exact HO201.out) hb);have n3_:=ak_ (Kd.R_below (by (with_reducible repeat (first|apply ra_|apply rb_|apply rc_));exact HO204.out) hb);have n4_:=ak_ (below_step (by repeat (first|(with_reducible first|exact HB.out|apply ba_|apply bb_|apply bc_)|exact HB.out)) hb);clear HO188;clear HO196;clear HO201;clear HO204;clear HB;have HO188:=n0_;have HO196:=n1_;have HO201:=n2_;have HO204:=n3_;have HB:=n4_;clear n0_ n1_ n2_ n3_ n4_;(try clear hb))|(go_at_call 30;(with_reducible refine (tabs_Filters.calls  t210 _ A24.out).mono ?_);rintro e w' ⟨rfl,⟨nd,rfl⟩⟩))
               go_ret
               exact ⟨by first|rfl|(simp [errW_none,errW_some] <;> rfl)|(simp [*,errW_none,errW_some] <;> rfl),by repeat (first|(with_reducible first|exact HB.out|apply ba_|apply bb_|apply bc_)|exact HB.out)⟩
              ·rw [if_neg c23] at H
               exact absurd H (by simp)
             ·rw [if_neg c21] at H
              exact absurd H (by simp)
            ·rw [if_neg c19] at H
             exact absurd H (by simp)
           ·replace c17:=Bool.eq_false_iff.mpr c17
            subst c17
            have H1 : (none) = some r:=by rw [if_neg (show ¬ (false = true) by decide)] at H;exact H
            clear H
            have H:=H1
            clear H1
            exact absurd H (by simp)
          ·rw [if_neg c15] at H
           exact absurd H (by simp)
         ·rw [if_neg c13] at H
          exact absurd H (by simp)
        ·rw [if_neg c12] at H
         exact absurd H (by simp)
       ·rw [if_neg c11] at H
        exact absurd H (by simp)
      ·replace c9:=Bool.eq_false_iff.mpr c9
       subst c9
       have H1 : (none) = some r:=by rw [if_neg (show ¬ (false = true) by decide)] at H;exact H
       clear H
       have H:=H1
       clear H1
       exact absurd H (by simp)
     ·rw [if_neg c7] at H
      exact absurd H (by simp)
    ·rw [if_neg c6] at H
     exact absurd H (by simp)
   ·rw [if_neg c5] at H
    exact absurd H (by simp)
  ·rw [if_neg c4] at H
   exact absurd H (by simp)
 ·rw [if_neg c3] at H
  exact absurd H (by simp)

end Go.Proofs.Ytkhcckemcamcbaa.P
