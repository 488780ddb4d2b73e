/- The machine side of the laws of one chapter, without conditions: each call of a Go function comes to what the Lean function of its name answers. Written for this claim by a program of the prover. -/
import Derived.Test.YtkhcckemcamcbaaPx0
import Derived.Test.YtkhcckemcamcbaaPx19
namespace Go.Proofs.Ytkhcckemcamcbaa.P
open Go.RowKit Go.Proofs.YtkhcckemcamcbaaW.PrintWords Go.Proofs.YtkhcckemcamcbaaW.PrintLast Go.Proofs.YtkhcckemcamcbaaW.PrintMore
attribute [local go_sem] max2_int min2_int max_two min_two max_three min_three max_four min_four   -- for this text's walks alone
set_option linter.unusedVariables false
set_option linter.unusedSimpArgs false

/-! ### madrigalref1_Bins: function 20 -/
def madrigalref1_Bins.f (a0 : Int) (a1 : Int) (a2 : Int) : Option (Int × Int):=(madrigalref1_Edges.f a0).bind fun t276 => (if a1 = 10 then (if a2 < 0 then (some (0,0)) else (if (wrap64 (a2 + 1)) ≥ (t276.length : Int) then (some (0,0)) else (if a2 > 100 then (some (0,0)) else (if 0 ≤ a2 then (if a2 < (t276.length : Int) then (if 0 ≤ (wrap64 (a2 + 1)) then (if (wrap64 (a2 + 1)) < (t276.length : Int) then (some (wrap64 ((wrap64 ((rd t276 a2) * 4)) * (wrap64 (Int.tdiv a1 10))),wrap64 ((wrap64 ((rd t276 (wrap64 (a2 + 1))) * 4)) * (wrap64 (Int.tdiv a1 10))))) else (none)) else (none)) else (none)) else (none))))) else (if a1 = 20 then (if a2 < 0 then (some (0,0)) else (if (wrap64 (a2 + 1)) ≥ (t276.length : Int) then (some (0,0)) else (if a2 > 100 then (some (0,0)) else (if 0 ≤ a2 then (if a2 < (t276.length : Int) then (if 0 ≤ (wrap64 (a2 + 1)) then (if (wrap64 (a2 + 1)) < (t276.length : Int) then (some (wrap64 ((wrap64 ((rd t276 a2) * 4)) * (wrap64 (Int.tdiv a1 10))),wrap64 ((wrap64 ((rd t276 (wrap64 (a2 + 1))) * 4)) * (wrap64 (Int.tdiv a1 10))))) else (none)) else (none)) else (none)) else (none))))) else (some (0,0))))
set_option maxHeartbeats 8000000 in
set_option maxRecDepth 100000 in
theorem madrigalref1_Bins.calls (a0 : Int) (a1 : Int) (a2 : Int) (r1 : Int) (r2 : Int) (w : World) (h : madrigalref1_Bins.f a0 a1 a2 = some (r1,r2)) :
  Calls Try.prog 20 #[.int .i64 a0,.int .i64 a1,.int .i64 a2] w fun e w' => e = .returned (.tuple #[.int .i64 r1,.int .i64 r2]) ∧ Below w.heap.size w w':=by
 have HB:=ak_ (Below.refl w.heap.size w)
 have H : ((madrigalref1_Edges.f a0).bind fun t276 => (if a1 = 10 then (if a2 < 0 then (some (0,0)) else (if (wrap64 (a2 + 1)) ≥ (t276.length : Int) then (some (0,0)) else (if a2 > 100 then (some (0,0)) else (if 0 ≤ a2 then (if a2 < (t276.length : Int) then (if 0 ≤ (wrap64 (a2 + 1)) then (if (wrap64 (a2 + 1)) < (t276.length : Int) then (some (wrap64 ((wrap64 ((rd t276 a2) * 4)) * (wrap64 (Int.tdiv a1 10))),wrap64 ((wrap64 ((rd t276 (wrap64 (a2 + 1))) * 4)) * (wrap64 (Int.tdiv a1 10))))) else (none)) else (none)) else (none)) else (none))))) else (if a1 = 20 then (if a2 < 0 then (some (0,0)) else (if (wrap64 (a2 + 1)) ≥ (t276.length : Int) then (some (0,0)) else (if a2 > 100 then (some (0,0)) else (if 0 ≤ a2 then (if a2 < (t276.length : Int) then (if 0 ≤ (wrap64 (a2 + 1)) then (if (wrap64 (a2 + 1)) < (t276.length : Int) then (some (wrap64 ((wrap64 ((rd t276 a2) * 4)) * (wrap64 (Int.tdiv a1 10))),wrap64 ((wrap64 ((rd t276 (wrap64 (a2 + 1))) * 4)) * (wrap64 (Int.tdiv a1 10))))) else (none)) else (none)) else (none)) else (none))))) else (some (0,0))))) = some (r1,r2):=h
 clear h
 replace H:=Option.bind_eq_some_iff.mp H
 obtain ⟨t276,A40,H⟩:=H
 (try dsimp only at H)
 have A4:=ak_ A40
 clear A40
 by_cases c5 : a1 = 10
 ·rw [if_pos c5] at H
  have c5b0 : (a1 == 10) = true:=beq_iff_eq.mpr c5
  have c5b1 : (a1 != 10) = false:=bne_eq_false_iff_eq.mpr c5
  clear c5
  by_cases c6 : a2 < 0
  ·rw [if_pos c6] at H
   have c6b0:=decide_eq_true c6
   clear c6
   simp only [Option.some.injEq,Prod.mk.injEq] at H
   obtain ⟨rfl,rfl⟩:=H
   go_enter Try.func20,Try.ntmps20
   go_wp2_with (first|(go_at_call 18;(with_reducible refine (madrigalref1_Edges.calls a0 t276 _ A4.out).mono ?_);rintro e w7 ⟨v277,rfl,ho0,hb⟩;have n0_:=ak_ (Kd.R_lower ho0 (below_size (by repeat (first|(with_reducible first|exact HB.out|apply ba_|apply bb_|apply bc_)|exact HB.out))));have n1_:=ak_ (below_step (by repeat (first|(with_reducible first|exact HB.out|apply ba_|apply bb_|apply bc_)|exact HB.out)) hb);clear HB;have HO278:=n0_;have HB:=n1_;clear n0_ n1_;(try clear hb);(try clear ho0)))
   repeat (go_quiet (first|(go_at_call 18;(with_reducible refine (madrigalref1_Edges.calls a0 t276 _ A4.out).mono ?_);rintro e w7 ⟨v277,rfl,ho0,hb⟩;have n0_:=ak_ (Kd.R_lower ho0 (below_size (by repeat (first|(with_reducible first|exact HB.out|apply ba_|apply bb_|apply bc_)|exact HB.out))));have n1_:=ak_ (below_step (by repeat (first|(with_reducible first|exact HB.out|apply ba_|apply bb_|apply bc_)|exact HB.out)) hb);clear HB;have HO278:=n0_;have HB:=n1_;clear n0_ n1_;(try clear hb);(try clear ho0)));try go_wp2_with (first|(go_at_call 18;(with_reducible refine (madrigalref1_Edges.calls a0 t276 _ A4.out).mono ?_);rintro e w7 ⟨v277,rfl,ho0,hb⟩;have n0_:=ak_ (Kd.R_lower ho0 (below_size (by repeat (first|(with_reducible first|exact HB.out|apply ba_|apply bb_|apply bc_)|exact HB.out))));have n1_:=ak_ (below_step (by repeat (first|(with_reducible first|exact HB.out|apply ba_|apply bb_|apply bc_)|exact HB.out)) hb);clear HB;have HO278:=n0_;have HB:=n1_;clear n0_ n1_;(try clear hb);(try clear ho0))))
   go_ret2
   exact ⟨by first|rfl|(simp [errW_none,errW_some] <;> rfl)|(simp [*,errW_none,errW_some] <;> rfl),by repeat (first|(with_reducible first|exact HB.out|apply ba_|apply bb_|apply bc_)|exact HB.out)⟩
  ·rw [if_neg c6] at H
   have c6b0:=decide_eq_false c6
   clear c6
   by_cases c8 : (wrap64 (a2 + 1)) ≥ (t276.length : Int)
   ·rw [if_pos c8] at H
    have c8b0 : decide ((t276.length : Int) ≤ (wrap64 (a2 + 1))) = true:=decide_eq_true c8
    clear c8
    simp only [Option.some.injEq,Prod.mk.injEq] at H
    obtain ⟨rfl,rfl⟩:=H
    go_enter Try.func20,Try.ntmps20
    go_wp2_with (first|(go_at_call 18;(with_reducible refine (madrigalref1_Edges.calls a0 t276 _ A4.out).mono ?_);rintro e w9 ⟨v277,rfl,ho0,hb⟩;have n0_:=ak_ (Kd.R_lower ho0 (below_size (by repeat (first|(with_reducible first|exact HB.out|apply ba_|apply bb_|apply bc_)|exact HB.out))));have n1_:=ak_ (below_step (by repeat (first|(with_reducible first|exact HB.out|apply ba_|apply bb_|apply bc_)|exact HB.out)) hb);clear HB;have HO278:=n0_;have HB:=n1_;clear n0_ n1_;(try clear hb);(try clear ho0);obtain ⟨Ao10,co10,eo10⟩:=Kd.R_slice HO278.out;subst eo10))
    repeat (go_quiet (first|(go_at_call 18;(with_reducible refine (madrigalref1_Edges.calls a0 t276 _ A4.out).mono ?_);rintro e w9 ⟨v277,rfl,ho0,hb⟩;have n0_:=ak_ (Kd.R_lower ho0 (below_size (by repeat (first|(with_reducible first|exact HB.out|apply ba_|apply bb_|apply bc_)|exact HB.out))));have n1_:=ak_ (below_step (by repeat (first|(with_reducible first|exact HB.out|apply ba_|apply bb_|apply bc_)|exact HB.out)) hb);clear HB;have HO278:=n0_;have HB:=n1_;clear n0_ n1_;(try clear hb);(try clear ho0);obtain ⟨Ao10,co10,eo10⟩:=Kd.R_slice HO278.out;subst eo10));try go_wp2_with (first|(go_at_call 18;(with_reducible refine (madrigalref1_Edges.calls a0 t276 _ A4.out).mono ?_);rintro e w9 ⟨v277,rfl,ho0,hb⟩;have n0_:=ak_ (Kd.R_lower ho0 (below_size (by repeat (first|(with_reducible first|exact HB.out|apply ba_|apply bb_|apply bc_)|exact HB.out))));have n1_:=ak_ (below_step (by repeat (first|(with_reducible first|exact HB.out|apply ba_|apply bb_|apply bc_)|exact HB.out)) hb);clear HB;have HO278:=n0_;have HB:=n1_;clear n0_ n1_;(try clear hb);(try clear ho0);obtain ⟨Ao10,co10,eo10⟩:=Kd.R_slice HO278.out;subst eo10)))
    go_ret2
    exact ⟨by first|rfl|(simp [errW_none,errW_some] <;> rfl)|(simp [*,errW_none,errW_some] <;> rfl),by repeat (first|(with_reducible first|exact HB.out|apply ba_|apply bb_|apply bc_)|exact HB.out)⟩
   ·rw [if_neg c8] at H
    have c8b0 : decide ((t276.length : Int) ≤ (wrap64 (a2 + 1))) = false:=decide_eq_false c8
    clear c8
    by_cases c11 : a2 > 100
    ·rw [if_pos c11] at H
     have c11b0 : decide (100 < a2) = true:=decide_eq_true c11
     clear c11
     simp only [Option.some.injEq,Prod.mk.injEq] at H
     obtain ⟨rfl,rfl⟩:=H
     go_enter Try.func20,Try.ntmps20
     go_wp2_with (first|(go_at_call 18;(with_reducible refine (madrigalref1_Edges.calls a0 t276 _ A4.out).mono ?_);rintro e w12 ⟨v277,rfl,ho0,hb⟩;have n0_:=ak_ (Kd.R_lower ho0 (below_size (by repeat (first|(with_reducible first|exact HB.out|apply ba_|apply bb_|apply bc_)|exact HB.out))));have n1_:=ak_ (below_step (by repeat (first|(with_reducible first|exact HB.out|apply ba_|apply bb_|apply bc_)|exact HB.out)) hb);clear HB;have HO278:=n0_;have HB:=n1_;clear n0_ n1_;(try clear hb);(try clear ho0);obtain ⟨Ao13,co13,eo13⟩:=Kd.R_slice HO278.out;subst eo13))
     repeat (go_quiet (first|(go_at_call 18;(with_reducible refine (madrigalref1_Edges.calls a0 t276 _ A4.out).mono ?_);rintro e w12 ⟨v277,rfl,ho0,hb⟩;have n0_:=ak_ (Kd.R_lower ho0 (below_size (by repeat (first|(with_reducible first|exact HB.out|apply ba_|apply bb_|apply bc_)|exact HB.out))));have n1_:=ak_ (below_step (by repeat (first|(with_reducible first|exact HB.out|apply ba_|apply bb_|apply bc_)|exact HB.out)) hb);clear HB;have HO278:=n0_;have HB:=n1_;clear n0_ n1_;(try clear hb);(try clear ho0);obtain ⟨Ao13,co13,eo13⟩:=Kd.R_slice HO278.out;subst eo13));try go_wp2_with (first|(go_at_call 18;(with_reducible refine (madrigalref1_Edges.calls a0 t276 _ A4.out).mono ?_);rintro e w12 ⟨v277,rfl,ho0,hb⟩;have n0_:=ak_ (Kd.R_lower ho0 (below_size (by repeat (first|(with_reducible first|exact HB.out|apply ba_|apply bb_|apply bc_)|exact HB.out))));have n1_:=ak_ (below_step (by repeat (first|(with_reducible first|exact HB.out|apply ba_|apply bb_|apply bc_)|exact HB.out)) hb);clear HB;have HO278:=n0_;have HB:=n1_;clear n0_ n1_;(try clear hb);(try clear ho0);obtain ⟨Ao13,co13,eo13⟩:=Kd.R_slice HO278.out;subst eo13)))
     go_ret2
     exact ⟨by first|rfl|(simp [errW_none,errW_some] <;> rfl)|(simp [*,errW_none,errW_some] <;> rfl),by repeat (first|(with_reducible first|exact HB.out|apply ba_|apply bb_|apply bc_)|exact HB.out)⟩
    ·rw [if_neg c11] at H
     have c11b0 : decide (100 < a2) = false:=decide_eq_false c11
     clear c11
     by_cases c14 : 0 ≤ a2
     ·rw [if_pos c14] at H
      have c14b0:=decide_eq_true c14
      clear c14
      by_cases c15 : a2 < (t276.length : Int)
      ·rw [if_pos c15] at H
       have c15b0:=decide_eq_true c15
       clear c15
       obtain ⟨ji16,hji16⟩ : ∃ j_ : Int,(wrap64 (a2 + 1)) = j_:=⟨_,rfl⟩
       replace H : (if 0 ≤ (ji16) then (if (ji16) < (t276.length : Int) then (some (wrap64 ((wrap64 ((rd t276 a2) * 4)) * (wrap64 (Int.tdiv a1 10))),wrap64 ((wrap64 ((rd t276 (ji16)) * 4)) * (wrap64 (Int.tdiv a1 10))))) else (none)) else (none)) = some (r1,r2):=by first|(rw [hji16] at H;exact H)|(simp only [hji16] at H ⊢;exact H)
       (try rw [hji16] at c8b0)
       (try rw [hji16] at A4)
       have hji16w : (IntKind.i64.wrap (a2 + 1)) = ji16:=(i64_w _).trans hji16
       by_cases c17 : 0 ≤ (ji16)
       ·rw [if_pos c17] at H
        have c17b0:=decide_eq_true c17
        clear c17
        by_cases c18 : (ji16) < (t276.length : Int)
        ·rw [if_pos c18] at H
         have c18b0:=decide_eq_true c18
         clear c18
         simp only [Option.some.injEq,Prod.mk.injEq] at H
         obtain ⟨rfl,rfl⟩:=H
         go_enter Try.func20,Try.ntmps20
         go_wp2_with (first|(go_at_call 18;(with_reducible refine (madrigalref1_Edges.calls a0 t276 _ A4.out).mono ?_);rintro e w19 ⟨v277,rfl,ho0,hb⟩;have n0_:=ak_ (Kd.R_lower ho0 (below_size (by repeat (first|(with_reducible first|exact HB.out|apply ba_|apply bb_|apply bc_)|exact HB.out))));have n1_:=ak_ (below_step (by repeat (first|(with_reducible first|exact HB.out|apply ba_|apply bb_|apply bc_)|exact HB.out)) hb);clear HB;have HO278:=n0_;have HB:=n1_;clear n0_ n1_;(try clear hb);(try clear ho0);obtain ⟨Ao20,co20,eo20⟩:=Kd.R_slice HO278.out;subst eo20;have p279 : 0 ≤ (a2 : Int):=of_decide_eq_true (by first|(with_reducible assumption)|assumption);have q279 : a2 < (t276.length : Int):=of_decide_eq_true (by first|(with_reducible assumption)|assumption);obtain ⟨ad279,e279,hx279_0⟩:=Kd.at_int (Kd.R_reads' HO278.out).2.2 a2 p279 q279;cases e279;replace p279:=eq_true p279;replace q279:=eq_true q279;have p280 : 0 ≤ ((ji16) : Int):=of_decide_eq_true (by first|(with_reducible assumption)|assumption);have q280 : (ji16) < (t276.length : Int):=of_decide_eq_true (by first|(with_reducible assumption)|assumption);obtain ⟨ad280,e280,hx280_0⟩:=Kd.at_int (Kd.R_reads' HO278.out).2.2 (ji16) p280 q280;obtain rfl : ad279 = ad280:=(by injection e280);replace p280:=eq_true p280;replace q280:=eq_true q280))
         repeat (go_quiet (first|(go_at_call 18;(with_reducible refine (madrigalref1_Edges.calls a0 t276 _ A4.out).mono ?_);rintro e w19 ⟨v277,rfl,ho0,hb⟩;have n0_:=ak_ (Kd.R_lower ho0 (below_size (by repeat (first|(with_reducible first|exact HB.out|apply ba_|apply bb_|apply bc_)|exact HB.out))));have n1_:=ak_ (below_step (by repeat (first|(with_reducible first|exact HB.out|apply ba_|apply bb_|apply bc_)|exact HB.out)) hb);clear HB;have HO278:=n0_;have HB:=n1_;clear n0_ n1_;(try clear hb);(try clear ho0);obtain ⟨Ao20,co20,eo20⟩:=Kd.R_slice HO278.out;subst eo20;have p279 : 0 ≤ (a2 : Int):=of_decide_eq_true (by first|(with_reducible assumption)|assumption);have q279 : a2 < (t276.length : Int):=of_decide_eq_true (by first|(with_reducible assumption)|assumption);obtain ⟨ad279,e279,hx279_0⟩:=Kd.at_int (Kd.R_reads' HO278.out).2.2 a2 p279 q279;cases e279;replace p279:=eq_true p279;replace q279:=eq_true q279;have p280 : 0 ≤ ((ji16) : Int):=of_decide_eq_true (by first|(with_reducible assumption)|assumption);have q280 : (ji16) < (t276.length : Int):=of_decide_eq_true (by first|(with_reducible assumption)|assumption);obtain ⟨ad280,e280,hx280_0⟩:=Kd.at_int (Kd.R_reads' HO278.out).2.2 (ji16) p280 q280;obtain rfl : ad279 = ad280:=(by injection e280);replace p280:=eq_true p280;replace q280:=eq_true q280));try go_wp2_with (first|(go_at_call 18;(with_reducible refine (madrigalref1_Edges.calls a0 t276 _ A4.out).mono ?_);rintro e w19 ⟨v277,rfl,ho0,hb⟩;have n0_:=ak_ (Kd.R_lower ho0 (below_size (by repeat (first|(with_reducible first|exact HB.out|apply ba_|apply bb_|apply bc_)|exact HB.out))));have n1_:=ak_ (below_step (by repeat (first|(with_reducible first|exact HB.out|apply ba_|apply bb_|apply bc_)|exact HB.out)) hb);clear HB;have HO278:=n0_;have HB:=n1_;clear n0_ n1_;(try clear hb);(try clear ho0);obtain ⟨Ao20,co20,eo20⟩:=Kd.R_slice HO278.out;subst eo20;have p279 : 0 ≤ (a2 : Int):=of_decide_eq_true (by first|(with_reducible assumption)|assumption);have q279 : a2 < (t276.length : Int):=of_decide_eq_true (by first|(with_reducible assumption)|assumption);obtain ⟨ad279,e279,hx279_0⟩:=Kd.at_int (Kd.R_reads' HO278.out).2.2 a2 p279 q279;cases e279;replace p279:=eq_true p279;replace q279:=eq_true q279;have p280 : 0 ≤ ((ji16) : Int):=of_decide_eq_true (by first|(with_reducible assumption)|assumption);have q280 : (ji16) < (t276.length : Int):=of_decide_eq_true (by first|(with_reducible assumption)|assumption);obtain ⟨ad280,e280,hx280_0⟩:=Kd.at_int (Kd.R_reads' HO278.out).2.2 (ji16) p280 q280;obtain rfl : ad279 = ad280:=(by injection e280);replace p280:=eq_true p280;replace q280:=eq_true q280)))
         go_ret2
         exact ⟨by first|rfl|(simp [errW_none,errW_some] <;> rfl)|(simp only [← hji16];first|rfl|(simp [errW_none,errW_some] <;> rfl))|(simp [*,errW_none,errW_some] <;> rfl),by repeat (first|(with_reducible first|exact HB.out|apply ba_|apply bb_|apply bc_)|exact HB.out)⟩
        ·rw [if_neg c18] at H
         exact absurd H (by simp)
       ·rw [if_neg c17] at H
        exact absurd H (by simp)
      ·rw [if_neg c15] at H
       exact absurd H (by simp)
     ·rw [if_neg c14] at H
      exact absurd H (by simp)
 ·rw [if_neg c5] at H
  have c5b0 : (a1 == 10) = false:=beq_eq_false_iff_ne.mpr c5
  have c5b1 : (a1 != 10) = true:=bne_iff_ne.mpr c5
  by_cases c21 : a1 = 20
  ·rw [if_pos c21] at H
   have c21b0 : (a1 == 20) = true:=beq_iff_eq.mpr c21
   have c21b1 : (a1 != 20) = false:=bne_eq_false_iff_eq.mpr c21
   clear c21
   by_cases c22 : a2 < 0
   ·rw [if_pos c22] at H
    have c22b0:=decide_eq_true c22
    clear c22
    simp only [Option.some.injEq,Prod.mk.injEq] at H
    obtain ⟨rfl,rfl⟩:=H
    go_enter Try.func20,Try.ntmps20
    go_wp2_with (first|(go_at_call 18;(with_reducible refine (madrigalref1_Edges.calls a0 t276 _ A4.out).mono ?_);rintro e w23 ⟨v277,rfl,ho0,hb⟩;have n0_:=ak_ (Kd.R_lower ho0 (below_size (by repeat (first|(with_reducible first|exact HB.out|apply ba_|apply bb_|apply bc_)|exact HB.out))));have n1_:=ak_ (below_step (by repeat (first|(with_reducible first|exact HB.out|apply ba_|apply bb_|apply bc_)|exact HB.out)) hb);clear HB;have HO278:=n0_;have HB:=n1_;clear n0_ n1_;(try clear hb);(try clear ho0)))
    repeat (go_quiet (first|(go_at_call 18;(with_reducible refine (madrigalref1_Edges.calls a0 t276 _ A4.out).mono ?_);rintro e w23 ⟨v277,rfl,ho0,hb⟩;have n0_:=ak_ (Kd.R_lower ho0 (below_size (by repeat (first|(with_reducible first|exact HB.out|apply ba_|apply bb_|apply bc_)|exact HB.out))));have n1_:=ak_ (below_step (by repeat (first|(with_reducible first|exact HB.out|apply ba_|apply bb_|apply bc_)|exact HB.out)) hb);clear HB;have HO278:=n0_;have HB:=n1_;clear n0_ n1_;(try clear hb);(try clear ho0)));try go_wp2_with (first|(go_at_call 18;(with_reducible refine (madrigalref1_Edges.calls a0 t276 _ A4.out).mono ?_);rintro e w23 ⟨v277,rfl,ho0,hb⟩;have n0_:=ak_ (Kd.R_lower ho0 (below_size (by repeat (first|(with_reducible first|exact HB.out|apply ba_|apply bb_|apply bc_)|exact HB.out))));have n1_:=ak_ (below_step (by repeat (first|(with_reducible first|exact HB.out|apply ba_|apply bb_|apply bc_)|exact HB.out)) hb);clear HB;have HO278:=n0_;have HB:=n1_;clear n0_ n1_;(try clear hb);(try clear ho0))))
    go_ret2
    exact ⟨by first|rfl|(simp [errW_none,errW_some] <;> rfl)|(simp [*,errW_none,errW_some] <;> rfl),by repeat (first|(with_reducible first|exact HB.out|apply ba_|apply bb_|apply bc_)|exact HB.out)⟩
   ·rw [if_neg c22] at H
    have c22b0:=decide_eq_false c22
    clear c22
    by_cases c24 : (wrap64 (a2 + 1)) ≥ (t276.length : Int)
    ·rw [if_pos c24] at H
     have c24b0 : decide ((t276.length : Int) ≤ (wrap64 (a2 + 1))) = true:=decide_eq_true c24
     clear c24
     simp only [Option.some.injEq,Prod.mk.injEq] at H
     obtain ⟨rfl,rfl⟩:=H
     go_enter Try.func20,Try.ntmps20
     go_wp2_with (first|(go_at_call 18;(with_reducible refine (madrigalref1_Edges.calls a0 t276 _ A4.out).mono ?_);rintro e w25 ⟨v277,rfl,ho0,hb⟩;have n0_:=ak_ (Kd.R_lower ho0 (below_size (by repeat (first|(with_reducible first|exact HB.out|apply ba_|apply bb_|apply bc_)|exact HB.out))));have n1_:=ak_ (below_step (by repeat (first|(with_reducible first|exact HB.out|apply ba_|apply bb_|apply bc_)|exact HB.out)) hb);clear HB;have HO278:=n0_;have HB:=n1_;clear n0_ n1_;(try clear hb);(try clear ho0);obtain ⟨Ao26,co26,eo26⟩:=Kd.R_slice HO278.out;subst eo26))
     repeat (go_quiet (first|(go_at_call 18;(with_reducible refine (madrigalref1_Edges.calls a0 t276 _ A4.out).mono ?_);rintro e w25 ⟨v277,rfl,ho0,hb⟩;have n0_:=ak_ (Kd.R_lower ho0 (below_size (by repeat (first|(with_reducible first|exact HB.out|apply ba_|apply bb_|apply bc_)|exact HB.out))));have n1_:=ak_ (below_step (by repeat (first|(with_reducible first|exact HB.out|apply ba_|apply bb_|apply bc_)|exact HB.out)) hb);clear HB;have HO278:=n0_;have HB:=n1_;clear n0_ n1_;(try clear hb);(try clear ho0);obtain ⟨Ao26,co26,eo26⟩:=Kd.R_slice HO278.out;subst eo26));try go_wp2_with (first|(go_at_call 18;(with_reducible refine (madrigalref1_Edges.calls a0 t276 _ A4.out).mono ?_);rintro e w25 ⟨v277,rfl,ho0,hb⟩;have n0_:=ak_ (Kd.R_lower ho0 (below_size (by repeat (first|(with_reducible first|exact HB.out|apply ba_|apply bb_|apply bc_)|exact HB.out))));have n1_:=ak_ (below_step (by repeat (first|(with_reducible first|exact HB.out|apply ba_|apply bb_|apply bc_)|exact HB.out)) hb);clear HB;have HO278:=n0_;have HB:=n1_;clear n0_ n1_;(try clear hb);(try clear ho0);obtain ⟨Ao26,co26,eo26⟩:=Kd.R_slice HO278.out;subst eo26)))
     go_ret2
     exact ⟨by first|rfl|(simp [errW_none,errW_some] <;> rfl)|(simp [*,errW_none,errW_some] <;> rfl),by repeat (first|(with_reducible first|exact HB.out|apply ba_|apply bb_|apply bc_)|exact HB.out)⟩
    ·rw [if_neg c24] at H
     have c24b0 : decide ((t276.length : Int) ≤ (wrap64 (a2 + 1))) = false:=decide_eq_false c24
     clear c24
     by_cases c27 : a2 > 100
     ·rw [if_pos c27] at H
      have c27b0 : decide (100 < a2) = true:=decide_eq_true c27
      clear c27
      simp only [Option.some.injEq,Prod.mk.injEq] at H
      obtain ⟨rfl,rfl⟩:=H
      go_enter Try.func20,Try.ntmps20
      go_wp2_with (first|(go_at_call 18;(with_reducible refine (madrigalref1_Edges.calls a0 t276 _ A4.out).mono ?_);rintro e w28 ⟨v277,rfl,ho0,hb⟩;have n0_:=ak_ (Kd.R_lower ho0 (below_size (by repeat (first|(with_reducible first|exact HB.out|apply ba_|apply bb_|apply bc_)|exact HB.out))));have n1_:=ak_ (below_step (by repeat (first|(with_reducible first|exact HB.out|apply ba_|apply bb_|apply bc_)|exact HB.out)) hb);clear HB;have HO278:=n0_;have HB:=n1_;clear n0_ n1_;(try clear hb);(try clear ho0);obtain ⟨Ao29,co29,eo29⟩:=Kd.R_slice HO278.out;subst eo29))
      repeat (go_quiet (first|(go_at_call 18;(with_reducible refine (madrigalref1_Edges.calls a0 t276 _ A4.out).mono ?_);rintro e w28 ⟨v277,rfl,ho0,hb⟩;have n0_:=ak_ (Kd.R_lower ho0 (below_size (by repeat (first|(with_reducible first|exact HB.out|apply ba_|apply bb_|apply bc_)|exact HB.out))));have n1_:=ak_ (below_step (by repeat (first|(with_reducible first|exact HB.out|apply ba_|apply bb_|apply bc_)|exact HB.out)) hb);clear HB;have HO278:=n0_;have HB:=n1_;clear n0_ n1_;(try clear hb);(try clear ho0);obtain ⟨Ao29,co29,eo29⟩:=Kd.R_slice HO278.out;subst eo29));try go_wp2_with (first|(go_at_call 18;(with_reducible refine (madrigalref1_Edges.calls a0 t276 _ A4.out).mono ?_);rintro e w28 ⟨v277,rfl,ho0,hb⟩;have n0_:=ak_ (Kd.R_lower ho0 (below_size (by repeat (first|(with_reducible first|exact HB.out|apply ba_|apply bb_|apply bc_)|exact HB.out))));have n1_:=ak_ (below_step (by repeat (first|(with_reducible first|exact HB.out|apply ba_|apply bb_|apply bc_)|exact HB.out)) hb);clear HB;have HO278:=n0_;have HB:=n1_;clear n0_ n1_;(try clear hb);(try clear ho0);obtain ⟨Ao29,co29,eo29⟩:=Kd.R_slice HO278.out;subst eo29)))
      go_ret2
      exact ⟨by first|rfl|(simp [errW_none,errW_some] <;> rfl)|(simp [*,errW_none,errW_some] <;> rfl),by repeat (first|(with_reducible first|exact HB.out|apply ba_|apply bb_|apply bc_)|exact HB.out)⟩
     ·rw [if_neg c27] at H
      have c27b0 : decide (100 < a2) = false:=decide_eq_false c27
      clear c27
      by_cases c30 : 0 ≤ a2
      ·rw [if_pos c30] at H
       have c30b0:=decide_eq_true c30
       clear c30
       by_cases c31 : a2 < (t276.length : Int)
       ·rw [if_pos c31] at H
        have c31b0:=decide_eq_true c31
        clear c31
        obtain ⟨ji32,hji32⟩ : ∃ j_ : Int,(wrap64 (a2 + 1)) = j_:=⟨_,rfl⟩
        replace H : (if 0 ≤ (ji32) then (if (ji32) < (t276.length : Int) then (some (wrap64 ((wrap64 ((rd t276 a2) * 4)) * (wrap64 (Int.tdiv a1 10))),wrap64 ((wrap64 ((rd t276 (ji32)) * 4)) * (wrap64 (Int.tdiv a1 10))))) else (none)) else (none)) = some (r1,r2):=by first|(rw [hji32] at H;exact H)|(simp only [hji32] at H ⊢;exact H)
        (try rw [hji32] at c24b0)
        (try rw [hji32] at A4)
        have hji32w : (IntKind.i64.wrap (a2 + 1)) = ji32:=(i64_w _).trans hji32
        by_cases c33 : 0 ≤ (ji32)
        ·rw [if_pos c33] at H
         have c33b0:=decide_eq_true c33
         clear c33
         by_cases c34 : (ji32) < (t276.length : Int)
         ·rw [if_pos c34] at H
          have c34b0:=decide_eq_true c34
          clear c34
          simp only [Option.some.injEq,Prod.mk.injEq] at H
          obtain ⟨rfl,rfl⟩:=H
          go_enter Try.func20,Try.ntmps20
          go_wp2_with (first|(go_at_call 18;(with_reducible refine (madrigalref1_Edges.calls a0 t276 _ A4.out).mono ?_);rintro e w35 ⟨v277,rfl,ho0,hb⟩;have n0_:=ak_ (Kd.R_lower ho0 (below_size (by repeat (first|(with_reducible first|exact HB.out|apply ba_|apply bb_|apply bc_)|exact HB.out))));have n1_:=ak_ (below_step (by repeat (first|(with_reducible first|exact HB.out|apply ba_|apply bb_|apply bc_)|exact HB.out)) hb);clear HB;have HO278:=n0_;have HB:=n1_;clear n0_ n1_;(try clear hb);(try clear ho0);obtain ⟨Ao36,co36,eo36⟩:=Kd.R_slice HO278.out;subst eo36;have p281 : 0 ≤ (a2 : Int):=of_decide_eq_true (by first|(with_reducible assumption)|assumption);have q281 : a2 < (t276.length : Int):=of_decide_eq_true (by first|(with_reducible assumption)|assumption);obtain ⟨ad281,e281,hx281_0⟩:=Kd.at_int (Kd.R_reads' HO278.out).2.2 a2 p281 q281;cases e281;replace p281:=eq_true p281;replace q281:=eq_true q281;have p282 : 0 ≤ ((ji32) : Int):=of_decide_eq_true (by first|(with_reducible assumption)|assumption);have q282 : (ji32) < (t276.length : Int):=of_decide_eq_true (by first|(with_reducible assumption)|assumption);obtain ⟨ad282,e282,hx282_0⟩:=Kd.at_int (Kd.R_reads' HO278.out).2.2 (ji32) p282 q282;obtain rfl : ad281 = ad282:=(by injection e282);replace p282:=eq_true p282;replace q282:=eq_true q282))
          repeat (go_quiet (first|(go_at_call 18;(with_reducible refine (madrigalref1_Edges.calls a0 t276 _ A4.out).mono ?_);rintro e w35 ⟨v277,rfl,ho0,hb⟩;have n0_:=ak_ (Kd.R_lower ho0 (below_size (by repeat (first|(with_reducible first|exact HB.out|apply ba_|apply bb_|apply bc_)|exact HB.out))));have n1_:=ak_ (below_step (by repeat (first|(with_reducible first|exact HB.out|apply ba_|apply bb_|apply bc_)|exact HB.out)) hb);clear HB;have HO278:=n0_;have HB:=n1_;clear n0_ n1_;(try clear hb);(try clear ho0);obtain ⟨Ao36,co36,eo36⟩:=Kd.R_slice HO278.out;subst eo36;have p281 : 0 ≤ (a2 : Int):=of_decide_eq_true (by first|(with_reducible assumption)|assumption);have q281 : a2 < (t276.length : Int):=of_decide_eq_true (by first|(with_reducible assumption)|assumption);obtain ⟨ad281,e281,hx281_0⟩:=Kd.at_int (Kd.R_reads' HO278.out).2.2 a2 p281 q281;cases e281;replace p281:=eq_true p281;replace q281:=eq_true q281;have p282 : 0 ≤ ((ji32) : Int):=of_decide_eq_true (by first|(with_reducible assumption)|assumption);have q282 : (ji32) < (t276.length : Int):=of_decide_eq_true (by first|(with_reducible assumption)|assumption);obtain ⟨ad282,e282,hx282_0⟩:=Kd.at_int (Kd.R_reads' HO278.out).2.2 (ji32) p282 q282;obtain rfl : ad281 = ad282:=(by injection e282);replace p282:=eq_true p282;replace q282:=eq_true q282));try go_wp2_with (first|(go_at_call 18;(with_reducible refine (madrigalref1_Edges.calls a0 t276 _ A4.out).mono ?_);rintro e w35 ⟨v277,rfl,ho0,hb⟩;have n0_:=ak_ (Kd.R_lower ho0 (below_size (by repeat (first|(with_reducible first|exact HB.out|apply ba_|apply bb_|apply bc_)|exact HB.out))));have n1_:=ak_ (below_step (by repeat (first|(with_reducible first|exact HB.out|apply ba_|apply bb_|apply bc_)|exact HB.out)) hb);clear HB;have HO278:=n0_;have HB:=n1_;clear n0_ n1_;(try clear hb);(try clear ho0);obtain ⟨Ao36,co36,eo36⟩:=Kd.R_slice HO278.out;subst eo36;have p281 : 0 ≤ (a2 : Int):=of_decide_eq_true (by first|(with_reducible assumption)|assumption);have q281 : a2 < (t276.length : Int):=of_decide_eq_true (by first|(with_reducible assumption)|assumption);obtain ⟨ad281,e281,hx281_0⟩:=Kd.at_int (Kd.R_reads' HO278.out).2.2 a2 p281 q281;cases e281;replace p281:=eq_true p281;replace q281:=eq_true q281;have p282 : 0 ≤ ((ji32) : Int):=of_decide_eq_true (by first|(with_reducible assumption)|assumption);have q282 : (ji32) < (t276.length : Int):=of_decide_eq_true (by first|(with_reducible assumption)|assumption);obtain ⟨ad282,e282,hx282_0⟩:=Kd.at_int (Kd.R_reads' HO278.out).2.2 (ji32) p282 q282;obtain rfl : ad281 = ad282:=(by injection e282);replace p282:=eq_true p282;replace q282:=eq_true q282)))
          go_ret2
          exact ⟨by first|rfl|(simp [errW_none,errW_some] <;> rfl)|(simp only [← hji32];first|rfl|(simp [errW_none,errW_some] <;> rfl))|(simp [*,errW_none,errW_some] <;> rfl),by repeat (first|(with_reducible first|exact HB.out|apply ba_|apply bb_|apply bc_)|exact HB.out)⟩
         ·rw [if_neg c34] at H
          exact absurd H (by simp)
        ·rw [if_neg c33] at H
         exact absurd H (by simp)
       ·rw [if_neg c31] at H
        exact absurd H (by simp)
      ·rw [if_neg c30] at H
       exact absurd H (by simp)
  ·rw [if_neg c21] at H
   have c21b0 : (a1 == 20) = false:=beq_eq_false_iff_ne.mpr c21
   have c21b1 : (a1 != 20) = true:=bne_iff_ne.mpr c21
   simp only [Option.some.injEq,Prod.mk.injEq] at H
   obtain ⟨rfl,rfl⟩:=H
   go_enter Try.func20,Try.ntmps20
   go_wp2_with (first|(go_at_call 18;(with_reducible refine (madrigalref1_Edges.calls a0 t276 _ A4.out).mono ?_);rintro e w37 ⟨v277,rfl,ho0,hb⟩;have n0_:=ak_ (Kd.R_lower ho0 (below_size (by repeat (first|(with_reducible first|exact HB.out|apply ba_|apply bb_|apply bc_)|exact HB.out))));have n1_:=ak_ (below_step (by repeat (first|(with_reducible first|exact HB.out|apply ba_|apply bb_|apply bc_)|exact HB.out)) hb);clear HB;have HO278:=n0_;have HB:=n1_;clear n0_ n1_;(try clear hb);(try clear ho0)))
   repeat (go_quiet (first|(go_at_call 18;(with_reducible refine (madrigalref1_Edges.calls a0 t276 _ A4.out).mono ?_);rintro e w37 ⟨v277,rfl,ho0,hb⟩;have n0_:=ak_ (Kd.R_lower ho0 (below_size (by repeat (first|(with_reducible first|exact HB.out|apply ba_|apply bb_|apply bc_)|exact HB.out))));have n1_:=ak_ (below_step (by repeat (first|(with_reducible first|exact HB.out|apply ba_|apply bb_|apply bc_)|exact HB.out)) hb);clear HB;have HO278:=n0_;have HB:=n1_;clear n0_ n1_;(try clear hb);(try clear ho0)));try go_wp2_with (first|(go_at_call 18;(with_reducible refine (madrigalref1_Edges.calls a0 t276 _ A4.out).mono ?_);rintro e w37 ⟨v277,rfl,ho0,hb⟩;have n0_:=ak_ (Kd.R_lower ho0 (below_size (by repeat (first|(with_reducible first|exact HB.out|apply ba_|apply bb_|apply bc_)|exact HB.out))));have n1_:=ak_ (below_step (by repeat (first|(with_reducible first|exact HB.out|apply ba_|apply bb_|apply bc_)|exact HB.out)) hb);clear HB;have HO278:=n0_;have HB:=n1_;clear n0_ n1_;(try clear hb);(try clear ho0))))
   go_ret2
   exact ⟨by first|rfl|(simp [errW_none,errW_some] <;> rfl)|(simp [*,errW_none,errW_some] <;> rfl),by repeat (first|(with_reducible first|exact HB.out|apply ba_|apply bb_|apply bc_)|exact HB.out)⟩

end Go.Proofs.Ytkhcckemcamcbaa.P
