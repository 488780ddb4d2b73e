/- The machine side of the laws of one chapter, without conditions: each call of a Go function comes to what the Lean function of its name answers. Written for this claim by a program of the prover. -/
import Derived.Test.YtkhcckemcamcbaaPx0
import Derived.Test.YtkhcckemcamcbaaPx4
namespace Go.Proofs.Ytkhcckemcamcbaa.P
open Go.RowKit Go.Proofs.YtkhcckemcamcbaaW.PrintWords Go.Proofs.YtkhcckemcamcbaaW.PrintLast Go.Proofs.YtkhcckemcamcbaaW.PrintMore
attribute [local go_sem] max2_int min2_int max_two min_two max_three min_three max_four min_four   -- for this text's walks alone
set_option linter.unusedVariables false
set_option linter.unusedSimpArgs false

/-! ### tabs_Bins: function 19 -/
def tabs_Bins.f (a0 : Int) (a1 : Int) (a2 : Int) : Option (Int × Int):=(tabs_Edges.f a0).bind fun t146 => (if a1 = 10 then (if a2 < 0 then (some (0,0)) else (if a2 ≥ (wrap64 ((t146.length : Int) - 1)) then (some (0,0)) else (if 0 ≤ a2 then (if a2 < (t146.length : Int) then (if 0 ≤ (wrap64 (a2 + 1)) then (if (wrap64 (a2 + 1)) < (t146.length : Int) then (some (wrap64 (Int.tdiv (wrap64 ((wrap64 ((rd t146 a2) * a1)) * 2)) 5),wrap64 (Int.tdiv (wrap64 ((wrap64 ((rd t146 (wrap64 (a2 + 1))) * a1)) * 2)) 5))) else (none)) else (none)) else (none)) else (none)))) else (if a1 = 20 then (if a2 < 0 then (some (0,0)) else (if a2 ≥ (wrap64 ((t146.length : Int) - 1)) then (some (0,0)) else (if 0 ≤ a2 then (if a2 < (t146.length : Int) then (if 0 ≤ (wrap64 (a2 + 1)) then (if (wrap64 (a2 + 1)) < (t146.length : Int) then (some (wrap64 (Int.tdiv (wrap64 ((wrap64 ((rd t146 a2) * a1)) * 2)) 5),wrap64 (Int.tdiv (wrap64 ((wrap64 ((rd t146 (wrap64 (a2 + 1))) * a1)) * 2)) 5))) else (none)) else (none)) else (none)) else (none)))) else (some (0,0))))
set_option maxHeartbeats 8000000 in
set_option maxRecDepth 100000 in
theorem tabs_Bins.calls (a0 : Int) (a1 : Int) (a2 : Int) (r1 : Int) (r2 : Int) (w : World) (h : tabs_Bins.f a0 a1 a2 = some (r1,r2)) :
  Calls Try.prog 19 #[.int .i64 a0,.int .i64 a1,.int .i64 a2] w fun e w' => e = .returned (.tuple #[.int .i64 r1,.int .i64 r2]) ∧ Below w.heap.size w w':=by
 have HB:=ak_ (Below.refl w.heap.size w)
 have H : ((tabs_Edges.f a0).bind fun t146 => (if a1 = 10 then (if a2 < 0 then (some (0,0)) else (if a2 ≥ (wrap64 ((t146.length : Int) - 1)) then (some (0,0)) else (if 0 ≤ a2 then (if a2 < (t146.length : Int) then (if 0 ≤ (wrap64 (a2 + 1)) then (if (wrap64 (a2 + 1)) < (t146.length : Int) then (some (wrap64 (Int.tdiv (wrap64 ((wrap64 ((rd t146 a2) * a1)) * 2)) 5),wrap64 (Int.tdiv (wrap64 ((wrap64 ((rd t146 (wrap64 (a2 + 1))) * a1)) * 2)) 5))) else (none)) else (none)) else (none)) else (none)))) else (if a1 = 20 then (if a2 < 0 then (some (0,0)) else (if a2 ≥ (wrap64 ((t146.length : Int) - 1)) then (some (0,0)) else (if 0 ≤ a2 then (if a2 < (t146.length : Int) then (if 0 ≤ (wrap64 (a2 + 1)) then (if (wrap64 (a2 + 1)) < (t146.length : Int) then (some (wrap64 (Int.tdiv (wrap64 ((wrap64 ((rd t146 a2) * a1)) * 2)) 5),wrap64 (Int.tdiv (wrap64 ((wrap64 ((rd t146 (wrap64 (a2 + 1))) * a1)) * 2)) 5))) else (none)) else (none)) else (none)) else (none)))) else (some (0,0))))) = some (r1,r2):=h
 clear h
 replace H:=Option.bind_eq_some_iff.mp H
 obtain ⟨t146,A40,H⟩:=H
 (try dsimp only at H)
 have A4:=ak_ A40
 clear A40
 by_cases c5 : a1 = 10
 ·rw [if_pos c5] at H
  have c5b0 : (a1 == 10) = true:=beq_iff_eq.mpr c5
  have c5b1 : (a1 != 10) = false:=bne_eq_false_iff_eq.mpr c5
  clear c5
  by_cases c6 : a2 < 0
  ·rw [if_pos c6] at H
   have c6b0:=decide_eq_true c6
   clear c6
   simp only [Option.some.injEq,Prod.mk.injEq] at H
   obtain ⟨rfl,rfl⟩:=H
   go_enter Try.func19,Try.ntmps19
   go_wp2_with (first|(go_at_call 13;(with_reducible refine (tabs_Edges.calls a0 t146 _ A4.out).mono ?_);rintro e w7 ⟨v147,rfl,ho0,hb⟩;have n0_:=ak_ (Kd.R_lower ho0 (below_size (by repeat (first|(with_reducible first|exact HB.out|apply ba_|apply bb_|apply bc_)|exact HB.out))));have n1_:=ak_ (below_step (by repeat (first|(with_reducible first|exact HB.out|apply ba_|apply bb_|apply bc_)|exact HB.out)) hb);clear HB;have HO148:=n0_;have HB:=n1_;clear n0_ n1_;(try clear hb);(try clear ho0)))
   repeat (go_quiet (first|(go_at_call 13;(with_reducible refine (tabs_Edges.calls a0 t146 _ A4.out).mono ?_);rintro e w7 ⟨v147,rfl,ho0,hb⟩;have n0_:=ak_ (Kd.R_lower ho0 (below_size (by repeat (first|(with_reducible first|exact HB.out|apply ba_|apply bb_|apply bc_)|exact HB.out))));have n1_:=ak_ (below_step (by repeat (first|(with_reducible first|exact HB.out|apply ba_|apply bb_|apply bc_)|exact HB.out)) hb);clear HB;have HO148:=n0_;have HB:=n1_;clear n0_ n1_;(try clear hb);(try clear ho0)));try go_wp2_with (first|(go_at_call 13;(with_reducible refine (tabs_Edges.calls a0 t146 _ A4.out).mono ?_);rintro e w7 ⟨v147,rfl,ho0,hb⟩;have n0_:=ak_ (Kd.R_lower ho0 (below_size (by repeat (first|(with_reducible first|exact HB.out|apply ba_|apply bb_|apply bc_)|exact HB.out))));have n1_:=ak_ (below_step (by repeat (first|(with_reducible first|exact HB.out|apply ba_|apply bb_|apply bc_)|exact HB.out)) hb);clear HB;have HO148:=n0_;have HB:=n1_;clear n0_ n1_;(try clear hb);(try clear ho0))))
   go_ret2
   exact ⟨by first|rfl|(simp [errW_none,errW_some] <;> rfl)|(simp [*,errW_none,errW_some] <;> rfl),by repeat (first|(with_reducible first|exact HB.out|apply ba_|apply bb_|apply bc_)|exact HB.out)⟩
  ·rw [if_neg c6] at H
   have c6b0:=decide_eq_false c6
   clear c6
   by_cases c8 : a2 ≥ (wrap64 ((t146.length : Int) - 1))
   ·rw [if_pos c8] at H
    have c8b0 : decide ((wrap64 ((t146.length : Int) - 1)) ≤ a2) = true:=decide_eq_true c8
    clear c8
    simp only [Option.some.injEq,Prod.mk.injEq] at H
    obtain ⟨rfl,rfl⟩:=H
    go_enter Try.func19,Try.ntmps19
    go_wp2_with (first|(go_at_call 13;(with_reducible refine (tabs_Edges.calls a0 t146 _ A4.out).mono ?_);rintro e w9 ⟨v147,rfl,ho0,hb⟩;have n0_:=ak_ (Kd.R_lower ho0 (below_size (by repeat (first|(with_reducible first|exact HB.out|apply ba_|apply bb_|apply bc_)|exact HB.out))));have n1_:=ak_ (below_step (by repeat (first|(with_reducible first|exact HB.out|apply ba_|apply bb_|apply bc_)|exact HB.out)) hb);clear HB;have HO148:=n0_;have HB:=n1_;clear n0_ n1_;(try clear hb);(try clear ho0);obtain ⟨Ao10,co10,eo10⟩:=Kd.R_slice HO148.out;subst eo10))
    repeat (go_quiet (first|(go_at_call 13;(with_reducible refine (tabs_Edges.calls a0 t146 _ A4.out).mono ?_);rintro e w9 ⟨v147,rfl,ho0,hb⟩;have n0_:=ak_ (Kd.R_lower ho0 (below_size (by repeat (first|(with_reducible first|exact HB.out|apply ba_|apply bb_|apply bc_)|exact HB.out))));have n1_:=ak_ (below_step (by repeat (first|(with_reducible first|exact HB.out|apply ba_|apply bb_|apply bc_)|exact HB.out)) hb);clear HB;have HO148:=n0_;have HB:=n1_;clear n0_ n1_;(try clear hb);(try clear ho0);obtain ⟨Ao10,co10,eo10⟩:=Kd.R_slice HO148.out;subst eo10));try go_wp2_with (first|(go_at_call 13;(with_reducible refine (tabs_Edges.calls a0 t146 _ A4.out).mono ?_);rintro e w9 ⟨v147,rfl,ho0,hb⟩;have n0_:=ak_ (Kd.R_lower ho0 (below_size (by repeat (first|(with_reducible first|exact HB.out|apply ba_|apply bb_|apply bc_)|exact HB.out))));have n1_:=ak_ (below_step (by repeat (first|(with_reducible first|exact HB.out|apply ba_|apply bb_|apply bc_)|exact HB.out)) hb);clear HB;have HO148:=n0_;have HB:=n1_;clear n0_ n1_;(try clear hb);(try clear ho0);obtain ⟨Ao10,co10,eo10⟩:=Kd.R_slice HO148.out;subst eo10)))
    go_ret2
    exact ⟨by first|rfl|(simp [errW_none,errW_some] <;> rfl)|(simp [*,errW_none,errW_some] <;> rfl),by repeat (first|(with_reducible first|exact HB.out|apply ba_|apply bb_|apply bc_)|exact HB.out)⟩
   ·rw [if_neg c8] at H
    have c8b0 : decide ((wrap64 ((t146.length : Int) - 1)) ≤ a2) = false:=decide_eq_false c8
    clear c8
    by_cases c11 : 0 ≤ a2
    ·rw [if_pos c11] at H
     have c11b0:=decide_eq_true c11
     clear c11
     by_cases c12 : a2 < (t146.length : Int)
     ·rw [if_pos c12] at H
      have c12b0:=decide_eq_true c12
      clear c12
      obtain ⟨ji13,hji13⟩ : ∃ j_ : Int,(wrap64 (a2 + 1)) = j_:=⟨_,rfl⟩
      replace H : (if 0 ≤ (ji13) then (if (ji13) < (t146.length : Int) then (some (wrap64 (Int.tdiv (wrap64 ((wrap64 ((rd t146 a2) * a1)) * 2)) 5),wrap64 (Int.tdiv (wrap64 ((wrap64 ((rd t146 (ji13)) * a1)) * 2)) 5))) else (none)) else (none)) = some (r1,r2):=by first|(rw [hji13] at H;exact H)|(simp only [hji13] at H ⊢;exact H)
      (try rw [hji13] at A4)
      have hji13w : (IntKind.i64.wrap (a2 + 1)) = ji13:=(i64_w _).trans hji13
      by_cases c14 : 0 ≤ (ji13)
      ·rw [if_pos c14] at H
       have c14b0:=decide_eq_true c14
       clear c14
       by_cases c15 : (ji13) < (t146.length : Int)
       ·rw [if_pos c15] at H
        have c15b0:=decide_eq_true c15
        clear c15
        simp only [Option.some.injEq,Prod.mk.injEq] at H
        obtain ⟨rfl,rfl⟩:=H
        go_enter Try.func19,Try.ntmps19
        go_wp2_with (first|(go_at_call 13;(with_reducible refine (tabs_Edges.calls a0 t146 _ A4.out).mono ?_);rintro e w16 ⟨v147,rfl,ho0,hb⟩;have n0_:=ak_ (Kd.R_lower ho0 (below_size (by repeat (first|(with_reducible first|exact HB.out|apply ba_|apply bb_|apply bc_)|exact HB.out))));have n1_:=ak_ (below_step (by repeat (first|(with_reducible first|exact HB.out|apply ba_|apply bb_|apply bc_)|exact HB.out)) hb);clear HB;have HO148:=n0_;have HB:=n1_;clear n0_ n1_;(try clear hb);(try clear ho0);obtain ⟨Ao17,co17,eo17⟩:=Kd.R_slice HO148.out;subst eo17;have p149 : 0 ≤ (a2 : Int):=of_decide_eq_true (by first|(with_reducible assumption)|assumption);have q149 : a2 < (t146.length : Int):=of_decide_eq_true (by first|(with_reducible assumption)|assumption);obtain ⟨ad149,e149,hx149_0⟩:=Kd.at_int (Kd.R_reads' HO148.out).2.2 a2 p149 q149;cases e149;replace p149:=eq_true p149;replace q149:=eq_true q149;have p150 : 0 ≤ ((ji13) : Int):=of_decide_eq_true (by first|(with_reducible assumption)|assumption);have q150 : (ji13) < (t146.length : Int):=of_decide_eq_true (by first|(with_reducible assumption)|assumption);obtain ⟨ad150,e150,hx150_0⟩:=Kd.at_int (Kd.R_reads' HO148.out).2.2 (ji13) p150 q150;obtain rfl : ad149 = ad150:=(by injection e150);replace p150:=eq_true p150;replace q150:=eq_true q150))
        repeat (go_quiet (first|(go_at_call 13;(with_reducible refine (tabs_Edges.calls a0 t146 _ A4.out).mono ?_);rintro e w16 ⟨v147,rfl,ho0,hb⟩;have n0_:=ak_ (Kd.R_lower ho0 (below_size (by repeat (first|(with_reducible first|exact HB.out|apply ba_|apply bb_|apply bc_)|exact HB.out))));have n1_:=ak_ (below_step (by repeat (first|(with_reducible first|exact HB.out|apply ba_|apply bb_|apply bc_)|exact HB.out)) hb);clear HB;have HO148:=n0_;have HB:=n1_;clear n0_ n1_;(try clear hb);(try clear ho0);obtain ⟨Ao17,co17,eo17⟩:=Kd.R_slice HO148.out;subst eo17;have p149 : 0 ≤ (a2 : Int):=of_decide_eq_true (by first|(with_reducible assumption)|assumption);have q149 : a2 < (t146.length : Int):=of_decide_eq_true (by first|(with_reducible assumption)|assumption);obtain ⟨ad149,e149,hx149_0⟩:=Kd.at_int (Kd.R_reads' HO148.out).2.2 a2 p149 q149;cases e149;replace p149:=eq_true p149;replace q149:=eq_true q149;have p150 : 0 ≤ ((ji13) : Int):=of_decide_eq_true (by first|(with_reducible assumption)|assumption);have q150 : (ji13) < (t146.length : Int):=of_decide_eq_true (by first|(with_reducible assumption)|assumption);obtain ⟨ad150,e150,hx150_0⟩:=Kd.at_int (Kd.R_reads' HO148.out).2.2 (ji13) p150 q150;obtain rfl : ad149 = ad150:=(by injection e150);replace p150:=eq_true p150;replace q150:=eq_true q150));try go_wp2_with (first|(go_at_call 13;(with_reducible refine (tabs_Edges.calls a0 t146 _ A4.out).mono ?_);rintro e w16 ⟨v147,rfl,ho0,hb⟩;have n0_:=ak_ (Kd.R_lower ho0 (below_size (by repeat (first|(with_reducible first|exact HB.out|apply ba_|apply bb_|apply bc_)|exact HB.out))));have n1_:=ak_ (below_step (by repeat (first|(with_reducible first|exact HB.out|apply ba_|apply bb_|apply bc_)|exact HB.out)) hb);clear HB;have HO148:=n0_;have HB:=n1_;clear n0_ n1_;(try clear hb);(try clear ho0);obtain ⟨Ao17,co17,eo17⟩:=Kd.R_slice HO148.out;subst eo17;have p149 : 0 ≤ (a2 : Int):=of_decide_eq_true (by first|(with_reducible assumption)|assumption);have q149 : a2 < (t146.length : Int):=of_decide_eq_true (by first|(with_reducible assumption)|assumption);obtain ⟨ad149,e149,hx149_0⟩:=Kd.at_int (Kd.R_reads' HO148.out).2.2 a2 p149 q149;cases e149;replace p149:=eq_true p149;replace q149:=eq_true q149;have p150 : 0 ≤ ((ji13) : Int):=of_decide_eq_true (by first|(with_reducible assumption)|assumption);have q150 : (ji13) < (t146.length : Int):=of_decide_eq_true (by first|(with_reducible assumption)|assumption);obtain ⟨ad150,e150,hx150_0⟩:=Kd.at_int (Kd.R_reads' HO148.out).2.2 (ji13) p150 q150;obtain rfl : ad149 = ad150:=(by injection e150);replace p150:=eq_true p150;replace q150:=eq_true q150)))
        go_ret2
        exact ⟨by first|rfl|(simp [errW_none,errW_some] <;> rfl)|(simp only [← hji13];first|rfl|(simp [errW_none,errW_some] <;> rfl))|(simp [*,errW_none,errW_some] <;> rfl),by repeat (first|(with_reducible first|exact HB.out|apply ba_|apply bb_|apply bc_)|exact HB.out)⟩
       ·rw [if_neg c15] at H
        exact absurd H (by simp)
      ·rw [if_neg c14] at H
       exact absurd H (by simp)
     ·rw [if_neg c12] at H
      exact absurd H (by simp)
    ·rw [if_neg c11] at H
     exact absurd H (by simp)
 ·rw [if_neg c5] at H
  have c5b0 : (a1 == 10) = false:=beq_eq_false_iff_ne.mpr c5
  have c5b1 : (a1 != 10) = true:=bne_iff_ne.mpr c5
  by_cases c18 : a1 = 20
  ·rw [if_pos c18] at H
   have c18b0 : (a1 == 20) = true:=beq_iff_eq.mpr c18
   have c18b1 : (a1 != 20) = false:=bne_eq_false_iff_eq.mpr c18
   clear c18
   by_cases c19 : a2 < 0
   ·rw [if_pos c19] at H
    have c19b0:=decide_eq_true c19
    clear c19
    simp only [Option.some.injEq,Prod.mk.injEq] at H
    obtain ⟨rfl,rfl⟩:=H
    go_enter Try.func19,Try.ntmps19
    go_wp2_with (first|(go_at_call 13;(with_reducible refine (tabs_Edges.calls a0 t146 _ A4.out).mono ?_);rintro e w20 ⟨v147,rfl,ho0,hb⟩;have n0_:=ak_ (Kd.R_lower ho0 (below_size (by repeat (first|(with_reducible first|exact HB.out|apply ba_|apply bb_|apply bc_)|exact HB.out))));have n1_:=ak_ (below_step (by repeat (first|(with_reducible first|exact HB.out|apply ba_|apply bb_|apply bc_)|exact HB.out)) hb);clear HB;have HO148:=n0_;have HB:=n1_;clear n0_ n1_;(try clear hb);(try clear ho0)))
    repeat (go_quiet (first|(go_at_call 13;(with_reducible refine (tabs_Edges.calls a0 t146 _ A4.out).mono ?_);rintro e w20 ⟨v147,rfl,ho0,hb⟩;have n0_:=ak_ (Kd.R_lower ho0 (below_size (by repeat (first|(with_reducible first|exact HB.out|apply ba_|apply bb_|apply bc_)|exact HB.out))));have n1_:=ak_ (below_step (by repeat (first|(with_reducible first|exact HB.out|apply ba_|apply bb_|apply bc_)|exact HB.out)) hb);clear HB;have HO148:=n0_;have HB:=n1_;clear n0_ n1_;(try clear hb);(try clear ho0)));try go_wp2_with (first|(go_at_call 13;(with_reducible refine (tabs_Edges.calls a0 t146 _ A4.out).mono ?_);rintro e w20 ⟨v147,rfl,ho0,hb⟩;have n0_:=ak_ (Kd.R_lower ho0 (below_size (by repeat (first|(with_reducible first|exact HB.out|apply ba_|apply bb_|apply bc_)|exact HB.out))));have n1_:=ak_ (below_step (by repeat (first|(with_reducible first|exact HB.out|apply ba_|apply bb_|apply bc_)|exact HB.out)) hb);clear HB;have HO148:=n0_;have HB:=n1_;clear n0_ n1_;(try clear hb);(try clear ho0))))
    go_ret2
    exact ⟨by first|rfl|(simp [errW_none,errW_some] <;> rfl)|(simp [*,errW_none,errW_some] <;> rfl),by repeat (first|(with_reducible first|exact HB.out|apply ba_|apply bb_|apply bc_)|exact HB.out)⟩
   ·rw [if_neg c19] at H
    have c19b0:=decide_eq_false c19
    clear c19
    by_cases c21 : a2 ≥ (wrap64 ((t146.length : Int) - 1))
    ·rw [if_pos c21] at H
     have c21b0 : decide ((wrap64 ((t146.length : Int) - 1)) ≤ a2) = true:=decide_eq_true c21
     clear c21
     simp only [Option.some.injEq,Prod.mk.injEq] at H
     obtain ⟨rfl,rfl⟩:=H
     go_enter Try.func19,Try.ntmps19
     go_wp2_with (first|(go_at_call 13;(with_reducible refine (tabs_Edges.calls a0 t146 _ A4.out).mono ?_);rintro e w22 ⟨v147,rfl,ho0,hb⟩;have n0_:=ak_ (Kd.R_lower ho0 (below_size (by repeat (first|(with_reducible first|exact HB.out|apply ba_|apply bb_|apply bc_)|exact HB.out))));have n1_:=ak_ (below_step (by repeat (first|(with_reducible first|exact HB.out|apply ba_|apply bb_|apply bc_)|exact HB.out)) hb);clear HB;have HO148:=n0_;have HB:=n1_;clear n0_ n1_;(try clear hb);(try clear ho0);obtain ⟨Ao23,co23,eo23⟩:=Kd.R_slice HO148.out;subst eo23))
     repeat (go_quiet (first|(go_at_call 13;(with_reducible refine (tabs_Edges.calls a0 t146 _ A4.out).mono ?_);rintro e w22 ⟨v147,rfl,ho0,hb⟩;have n0_:=ak_ (Kd.R_lower ho0 (below_size (by repeat (first|(with_reducible first|exact HB.out|apply ba_|apply bb_|apply bc_)|exact HB.out))));have n1_:=ak_ (below_step (by repeat (first|(with_reducible first|exact HB.out|apply ba_|apply bb_|apply bc_)|exact HB.out)) hb);clear HB;have HO148:=n0_;have HB:=n1_;clear n0_ n1_;(try clear hb);(try clear ho0);obtain ⟨Ao23,co23,eo23⟩:=Kd.R_slice HO148.out;subst eo23));try go_wp2_with (first|(go_at_call 13;(with_reducible refine (tabs_Edges.calls a0 t146 _ A4.out).mono ?_);rintro e w22 ⟨v147,rfl,ho0,hb⟩;have n0_:=ak_ (Kd.R_lower ho0 (below_size (by repeat (first|(with_reducible first|exact HB.out|apply ba_|apply bb_|apply bc_)|exact HB.out))));have n1_:=ak_ (below_step (by repeat (first|(with_reducible first|exact HB.out|apply ba_|apply bb_|apply bc_)|exact HB.out)) hb);clear HB;have HO148:=n0_;have HB:=n1_;clear n0_ n1_;(try clear hb);(try clear ho0);obtain ⟨Ao23,co23,eo23⟩:=Kd.R_slice HO148.out;subst eo23)))
     go_ret2
     exact ⟨by first|rfl|(simp [errW_none,errW_some] <;> rfl)|(simp [*,errW_none,errW_some] <;> rfl),by repeat (first|(with_reducible first|exact HB.out|apply ba_|apply bb_|apply bc_)|exact HB.out)⟩
    ·rw [if_neg c21] at H
     have c21b0 : decide ((wrap64 ((t146.length : Int) - 1)) ≤ a2) = false:=decide_eq_false c21
     clear c21
     by_cases c24 : 0 ≤ a2
     ·rw [if_pos c24] at H
      have c24b0:=decide_eq_true c24
      clear c24
      by_cases c25 : a2 < (t146.length : Int)
      ·rw [if_pos c25] at H
       have c25b0:=decide_eq_true c25
       clear c25
       obtain ⟨ji26,hji26⟩ : ∃ j_ : Int,(wrap64 (a2 + 1)) = j_:=⟨_,rfl⟩
       replace H : (if 0 ≤ (ji26) then (if (ji26) < (t146.length : Int) then (some (wrap64 (Int.tdiv (wrap64 ((wrap64 ((rd t146 a2) * a1)) * 2)) 5),wrap64 (Int.tdiv (wrap64 ((wrap64 ((rd t146 (ji26)) * a1)) * 2)) 5))) else (none)) else (none)) = some (r1,r2):=by first|(rw [hji26] at H;exact H)|(simp only [hji26] at H ⊢;exact H)
       (try rw [hji26] at A4)
       have hji26w : (IntKind.i64.wrap (a2 + 1)) = ji26:=(i64_w _).trans hji26
       by_cases c27 : 0 ≤ (ji26)
       ·rw [if_pos c27] at H
        have c27b0:=decide_eq_true c27
        clear c27
        by_cases c28 : (ji26) < (t146.length : Int)
        ·rw [if_pos c28] at H
         have c28b0:=decide_eq_true c28
         clear c28
         simp only [Option.some.injEq,Prod.mk.injEq] at H
         obtain ⟨rfl,rfl⟩:=H
         go_enter Try.func19,Try.ntmps19
         go_wp2_with (first|(go_at_call 13;(with_reducible refine (tabs_Edges.calls a0 t146 _ A4.out).mono ?_);rintro e w29 ⟨v147,rfl,ho0,hb⟩;have n0_:=ak_ (Kd.R_lower ho0 (below_size (by repeat (first|(with_reducible first|exact HB.out|apply ba_|apply bb_|apply bc_)|exact HB.out))));have n1_:=ak_ (below_step (by repeat (first|(with_reducible first|exact HB.out|apply ba_|apply bb_|apply bc_)|exact HB.out)) hb);clear HB;have HO148:=n0_;have HB:=n1_;clear n0_ n1_;(try clear hb);(try clear ho0);obtain ⟨Ao30,co30,eo30⟩:=Kd.R_slice HO148.out;subst eo30;have p151 : 0 ≤ (a2 : Int):=of_decide_eq_true (by first|(with_reducible assumption)|assumption);have q151 : a2 < (t146.length : Int):=of_decide_eq_true (by first|(with_reducible assumption)|assumption);obtain ⟨ad151,e151,hx151_0⟩:=Kd.at_int (Kd.R_reads' HO148.out).2.2 a2 p151 q151;cases e151;replace p151:=eq_true p151;replace q151:=eq_true q151;have p152 : 0 ≤ ((ji26) : Int):=of_decide_eq_true (by first|(with_reducible assumption)|assumption);have q152 : (ji26) < (t146.length : Int):=of_decide_eq_true (by first|(with_reducible assumption)|assumption);obtain ⟨ad152,e152,hx152_0⟩:=Kd.at_int (Kd.R_reads' HO148.out).2.2 (ji26) p152 q152;obtain rfl : ad151 = ad152:=(by injection e152);replace p152:=eq_true p152;replace q152:=eq_true q152))
         repeat (go_quiet (first|(go_at_call 13;(with_reducible refine (tabs_Edges.calls a0 t146 _ A4.out).mono ?_);rintro e w29 ⟨v147,rfl,ho0,hb⟩;have n0_:=ak_ (Kd.R_lower ho0 (below_size (by repeat (first|(with_reducible first|exact HB.out|apply ba_|apply bb_|apply bc_)|exact HB.out))));have n1_:=ak_ (below_step (by repeat (first|(with_reducible first|exact HB.out|apply ba_|apply bb_|apply bc_)|exact HB.out)) hb);clear HB;have HO148:=n0_;have HB:=n1_;clear n0_ n1_;(try clear hb);(try clear ho0);obtain ⟨Ao30,co30,eo30⟩:=Kd.R_slice HO148.out;subst eo30;have p151 : 0 ≤ (a2 : Int):=of_decide_eq_true (by first|(with_reducible assumption)|assumption);have q151 : a2 < (t146.length : Int):=of_decide_eq_true (by first|(with_reducible assumption)|assumption);obtain ⟨ad151,e151,hx151_0⟩:=Kd.at_int (Kd.R_reads' HO148.out).2.2 a2 p151 q151;cases e151;replace p151:=eq_true p151;replace q151:=eq_true q151;have p152 : 0 ≤ ((ji26) : Int):=of_decide_eq_true (by first|(with_reducible assumption)|assumption);have q152 : (ji26) < (t146.length : Int):=of_decide_eq_true (by first|(with_reducible assumption)|assumption);obtain ⟨ad152,e152,hx152_0⟩:=Kd.at_int (Kd.R_reads' HO148.out).2.2 (ji26) p152 q152;obtain rfl : ad151 = ad152:=(by injection e152);replace p152:=eq_true p152;replace q152:=eq_true q152));try go_wp2_with (first|(go_at_call 13;(with_reducible refine (tabs_Edges.calls a0 t146 _ A4.out).mono ?_);rintro e w29 ⟨v147,rfl,ho0,hb⟩;have n0_:=ak_ (Kd.R_lower ho0 (below_size (by repeat (first|(with_reducible first|exact HB.out|apply ba_|apply bb_|apply bc_)|exact HB.out))));have n1_:=ak_ (below_step (by repeat (first|(with_reducible first|exact HB.out|apply ba_|apply bb_|apply bc_)|exact HB.out)) hb);clear HB;have HO148:=n0_;have HB:=n1_;clear n0_ n1_;(try clear hb);(try clear ho0);obtain ⟨Ao30,co30,eo30⟩:=Kd.R_slice HO148.out;subst eo30;have p151 : 0 ≤ (a2 : Int):=of_decide_eq_true (by first|(with_reducible assumption)|assumption);have q151 : a2 < (t146.length : Int):=of_decide_eq_true (by first|(with_reducible assumption)|assumption);obtain ⟨ad151,e151,hx151_0⟩:=Kd.at_int (Kd.R_reads' HO148.out).2.2 a2 p151 q151;cases e151;replace p151:=eq_true p151;replace q151:=eq_true q151;have p152 : 0 ≤ ((ji26) : Int):=of_decide_eq_true (by first|(with_reducible assumption)|assumption);have q152 : (ji26) < (t146.length : Int):=of_decide_eq_true (by first|(with_reducible assumption)|assumption);obtain ⟨ad152,e152,hx152_0⟩:=Kd.at_int (Kd.R_reads' HO148.out).2.2 (ji26) p152 q152;obtain rfl : ad151 = ad152:=(by injection e152);replace p152:=eq_true p152;replace q152:=eq_true q152)))
         go_ret2
         exact ⟨by first|rfl|(simp [errW_none,errW_some] <;> rfl)|(simp only [← hji26];first|rfl|(simp [errW_none,errW_some] <;> rfl))|(simp [*,errW_none,errW_some] <;> rfl),by repeat (first|(with_reducible first|exact HB.out|apply ba_|apply bb_|apply bc_)|exact HB.out)⟩
        ·rw [if_neg c28] at H
         exact absurd H (by simp)
       ·rw [if_neg c27] at H
        exact absurd H (by simp)
      ·rw [if_neg c25] at H
       exact absurd H (by simp)
     ·rw [if_neg c24] at H
      exact absurd H (by simp)
  ·rw [if_neg c18] at H
   have c18b0 : (a1 == 20) = false:=beq_eq_false_iff_ne.mpr c18
   have c18b1 : (a1 != 20) = true:=bne_iff_ne.mpr c18
   simp only [Option.some.injEq,Prod.mk.injEq] at H
   obtain ⟨rfl,rfl⟩:=H
   go_enter Try.func19,Try.ntmps19
   go_wp2_with (first|(go_at_call 13;(with_reducible refine (tabs_Edges.calls a0 t146 _ A4.out).mono ?_);rintro e w31 ⟨v147,rfl,ho0,hb⟩;have n0_:=ak_ (Kd.R_lower ho0 (below_size (by repeat (first|(with_reducible first|exact HB.out|apply ba_|apply bb_|apply bc_)|exact HB.out))));have n1_:=ak_ (below_step (by repeat (first|(with_reducible first|exact HB.out|apply ba_|apply bb_|apply bc_)|exact HB.out)) hb);clear HB;have HO148:=n0_;have HB:=n1_;clear n0_ n1_;(try clear hb);(try clear ho0)))
   repeat (go_quiet (first|(go_at_call 13;(with_reducible refine (tabs_Edges.calls a0 t146 _ A4.out).mono ?_);rintro e w31 ⟨v147,rfl,ho0,hb⟩;have n0_:=ak_ (Kd.R_lower ho0 (below_size (by repeat (first|(with_reducible first|exact HB.out|apply ba_|apply bb_|apply bc_)|exact HB.out))));have n1_:=ak_ (below_step (by repeat (first|(with_reducible first|exact HB.out|apply ba_|apply bb_|apply bc_)|exact HB.out)) hb);clear HB;have HO148:=n0_;have HB:=n1_;clear n0_ n1_;(try clear hb);(try clear ho0)));try go_wp2_with (first|(go_at_call 13;(with_reducible refine (tabs_Edges.calls a0 t146 _ A4.out).mono ?_);rintro e w31 ⟨v147,rfl,ho0,hb⟩;have n0_:=ak_ (Kd.R_lower ho0 (below_size (by repeat (first|(with_reducible first|exact HB.out|apply ba_|apply bb_|apply bc_)|exact HB.out))));have n1_:=ak_ (below_step (by repeat (first|(with_reducible first|exact HB.out|apply ba_|apply bb_|apply bc_)|exact HB.out)) hb);clear HB;have HO148:=n0_;have HB:=n1_;clear n0_ n1_;(try clear hb);(try clear ho0))))
   go_ret2
   exact ⟨by first|rfl|(simp [errW_none,errW_some] <;> rfl)|(simp [*,errW_none,errW_some] <;> rfl),by repeat (first|(with_reducible first|exact HB.out|apply ba_|apply bb_|apply bc_)|exact HB.out)⟩

end Go.Proofs.Ytkhcckemcamcbaa.P
