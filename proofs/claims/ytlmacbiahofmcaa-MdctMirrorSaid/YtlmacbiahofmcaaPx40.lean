/- The machine side of the laws of one chapter, without conditions: each call of a Go function comes to what the Lean function of its name answers. Written for this claim by a program of the prover. -/
import Derived.Test.YtlmacbiahofmcaaPx0
import Derived.Test.YtlmacbiahofmcaaPx1
import Derived.Test.YtlmacbiahofmcaaPx8
import Derived.Test.YtlmacbiahofmcaaPx20
namespace Go.Proofs.Ytlmacbiahofmcaa.P
open Go.RowKit Go.Proofs.YtlmacbiahofmcaaW.PrintWords Go.Proofs.YtlmacbiahofmcaaW.PrintLast Go.Proofs.YtlmacbiahofmcaaW.PrintMore
attribute [local go_sem] max2_int min2_int max_two min_two max_three min_three max_four min_four   -- for this text's walks alone
set_option linter.unusedVariables false
set_option linter.unusedSimpArgs false

/-! ### madrigallaw15_MdctMirror: function 8 -/
def madrigallaw15_MdctMirror.l0 : Nat → Int → Int → List Int → Int → Int → Option (Bool)
 | 0,_,_,_,_,_ => none
 | k + 1,x0,x1,x5,x6,x7 => if x7 < x0 then (if 0 ≤ x7 then (if x7 < (x5.length : Int) then (if 0 ≤ (wrap64 ((wrap64 ((wrap64 (2 * x0)) - 1)) - x7)) then (if (wrap64 ((wrap64 ((wrap64 (2 * x0)) - 1)) - x7)) < (x5.length : Int) then (if (rd x5 x7) = (rd x5 (wrap64 ((wrap64 ((wrap64 (2 * x0)) - 1)) - x7))) then (if (rd x5 x7) < 0 then (none) else (if (rd x5 x7) > 32768 then (none) else (if x7 < (wrap64 (Int.tdiv (wrap64 (x0 - x1)) 2)) then (if (rd x5 x7) = 0 then (if x7 ≥ (wrap64 (Int.tdiv (wrap64 (x0 + x1)) 2)) then (if (rd x5 x7) = 32768 then (madrigallaw15_MdctMirror.l0 k x0 x1 x5 x6 (wrap64 (x7 + 1))) else (none)) else (madrigallaw15_MdctMirror.l0 k x0 x1 x5 x6 (wrap64 (x7 + 1)))) else (none)) else (if x7 ≥ (wrap64 (Int.tdiv (wrap64 (x0 + x1)) 2)) then (if (rd x5 x7) = 32768 then (madrigallaw15_MdctMirror.l0 k x0 x1 x5 x6 (wrap64 (x7 + 1))) else (none)) else (madrigallaw15_MdctMirror.l0 k x0 x1 x5 x6 (wrap64 (x7 + 1))))))) else (none)) else (none)) else (none)) else (none)) else (none)) else (if x6 = 0 then (some ((x5.length : Int) == (wrap64 (2 * x0)))) else (none))
def madrigallaw15_MdctMirror.f (k : Nat) (a0 : Int) (a1 : Int) : Option (Bool):=(madrigallaw15_awake.f k).bind fun t578 => (if t578 = true then (if a0 > 480 then ((mdct_Good.f a0 a1).bind fun t579 => (some (!t579))) else ((mdct_Shape.f k a0 a1).bind fun bt580 => ((mdct_Good.f a0 a1).bind fun t584 => (if t584 = true then (madrigallaw15_MdctMirror.l0 k a0 a1 bt580.1 bt580.2 0) else (if bt580.2 = 0 then (none) else (some ((bt580.1.length : Int) == 0))))))) else (none))
theorem madrigallaw15_MdctMirror.mono_l : ∀ k,(∀ y0 y1 y2 y3 y4,LeO (madrigallaw15_MdctMirror.l0 k y0 y1 y2 y3 y4) (madrigallaw15_MdctMirror.l0 (k + 1) y0 y1 y2 y3 y4))
 | 0 => fun _ _ _ _ _ r h => by simp [madrigallaw15_MdctMirror.l0] at h
 | k + 1 => by
  have ih0:=madrigallaw15_MdctMirror.mono_l k
  all_goals (intros;first|unfold madrigallaw15_MdctMirror.l0)
  all_goals (repeat' first|(with_reducible first|exact ih0 _ _ _ _ _|exact madrigallaw15_awake.mono _|exact mdct_Shape.mono _ _ _|exact LeO.refl _|exact LeO.none _|refine LeO.ite ?_ ?_|refine LeO.bind ?_ (fun _ => ?_))|exact ih0 _ _ _ _ _|exact madrigallaw15_awake.mono _|exact mdct_Shape.mono _ _ _|exact LeO.none _|refine LeO.ite ?_ ?_|refine LeO.bind ?_ (fun _ => ?_))
theorem madrigallaw15_MdctMirror.mono : ∀ a0 a1 k,LeO (madrigallaw15_MdctMirror.f k a0 a1) (madrigallaw15_MdctMirror.f (k + 1) a0 a1):=by
 intro a0 a1 k
 have ih0:=madrigallaw15_MdctMirror.mono_l k
 unfold madrigallaw15_MdctMirror.f
 repeat' first|(with_reducible first|exact ih0 _ _ _ _ _|exact madrigallaw15_awake.mono _|exact mdct_Shape.mono _ _ _|exact LeO.refl _|exact LeO.none _|refine LeO.ite ?_ ?_|refine LeO.bind ?_ (fun _ => ?_))|exact ih0 _ _ _ _ _|exact madrigallaw15_awake.mono _|exact mdct_Shape.mono _ _ _|exact LeO.none _|refine LeO.ite ?_ ?_|refine LeO.bind ?_ (fun _ => ?_)
set_option maxHeartbeats 8000000 in
set_option maxRecDepth 100000 in
theorem madrigallaw15_MdctMirror.calls (k : Nat) (a0 : Int) (a1 : Int) (r : Bool) (w : World) (h : madrigallaw15_MdctMirror.f k a0 a1 = some r) :
  Calls Try.prog 8 #[.int .i64 a0,.int .i64 a1] w fun e w' => e = .returned (.bool r) ∧ Below w.heap.size w w':=by
 have HB:=ak_ (Below.refl w.heap.size w)
 have H : ((madrigallaw15_awake.f k).bind fun t578 => (if t578 = true then (if a0 > 480 then ((mdct_Good.f a0 a1).bind fun t579 => (some (!t579))) else ((mdct_Shape.f k a0 a1).bind fun bt580 => ((mdct_Good.f a0 a1).bind fun t584 => (if t584 = true then (madrigallaw15_MdctMirror.l0 k a0 a1 bt580.1 bt580.2 0) else (if bt580.2 = 0 then (none) else (some ((bt580.1.length : Int) == 0))))))) else (none))) = some r:=h
 clear h
 replace H:=Option.bind_eq_some_iff.mp H
 obtain ⟨t578,A30,H⟩:=H
 (try dsimp only at H)
 have A3:=ak_ A30
 clear A30
 by_cases c4 : t578 = true
 ·subst c4
  have H1 : (if a0 > 480 then ((mdct_Good.f a0 a1).bind fun t579 => (some (!t579))) else ((mdct_Shape.f k a0 a1).bind fun bt580 => ((mdct_Good.f a0 a1).bind fun t584 => (if t584 = true then (madrigallaw15_MdctMirror.l0 k a0 a1 bt580.1 bt580.2 0) else (if bt580.2 = 0 then (none) else (some ((bt580.1.length : Int) == 0))))))) = some r:=by rw [if_pos rfl] at H;exact H
  clear H
  have H:=H1
  clear H1
  by_cases c5 : a0 > 480
  ·rw [if_pos c5] at H
   have c5b0 : decide (480 < a0) = true:=decide_eq_true c5
   clear c5
   replace H:=Option.bind_eq_some_iff.mp H
   obtain ⟨t579,A60,H⟩:=H
   (try dsimp only at H)
   have A6:=ak_ A60
   clear A60
   obtain rfl:=Option.some.inj H
   go_enter Try.func8,Try.ntmps8
   go_wp2_with (first|(go_at_call 9;(with_reducible refine (madrigallaw15_awake.calls k  true _ A3.out).mono ?_);rintro e w7 ⟨rfl,hb⟩;have n0_:=ak_ (below_step (by repeat (first|(with_reducible first|exact HB.out|apply ba_|apply bb_|apply bc_)|exact HB.out)) hb);clear HB;have HB:=n0_;clear n0_;(try clear hb))|(go_at_call 16;(with_reducible refine (mdct_Good.calls a0 a1 t579 _ A6.out).mono ?_);rintro e w' ⟨rfl,⟨nd,rfl⟩⟩;(try first|exact ⟨rfl,_,World.drewN_drewN _ _ _⟩|exact ⟨rfl,_,Eq.trans (World.drewN_drewN _ _ _) (congrArg (World.drewN _) (Nat.add_assoc _ _ _))⟩)))
   repeat (go_quiet (first|(go_at_call 9;(with_reducible refine (madrigallaw15_awake.calls k  true _ A3.out).mono ?_);rintro e w7 ⟨rfl,hb⟩;have n0_:=ak_ (below_step (by repeat (first|(with_reducible first|exact HB.out|apply ba_|apply bb_|apply bc_)|exact HB.out)) hb);clear HB;have HB:=n0_;clear n0_;(try clear hb))|(go_at_call 16;(with_reducible refine (mdct_Good.calls a0 a1 t579 _ A6.out).mono ?_);rintro e w' ⟨rfl,⟨nd,rfl⟩⟩;(try first|exact ⟨rfl,_,World.drewN_drewN _ _ _⟩|exact ⟨rfl,_,Eq.trans (World.drewN_drewN _ _ _) (congrArg (World.drewN _) (Nat.add_assoc _ _ _))⟩)));try go_wp2_with (first|(go_at_call 9;(with_reducible refine (madrigallaw15_awake.calls k  true _ A3.out).mono ?_);rintro e w7 ⟨rfl,hb⟩;have n0_:=ak_ (below_step (by repeat (first|(with_reducible first|exact HB.out|apply ba_|apply bb_|apply bc_)|exact HB.out)) hb);clear HB;have HB:=n0_;clear n0_;(try clear hb))|(go_at_call 16;(with_reducible refine (mdct_Good.calls a0 a1 t579 _ A6.out).mono ?_);rintro e w' ⟨rfl,⟨nd,rfl⟩⟩;(try first|exact ⟨rfl,_,World.drewN_drewN _ _ _⟩|exact ⟨rfl,_,Eq.trans (World.drewN_drewN _ _ _) (congrArg (World.drewN _) (Nat.add_assoc _ _ _))⟩))))
   go_ret
   exact ⟨by first|rfl|(simp [errW_none,errW_some] <;> rfl)|(simp [*,errW_none,errW_some] <;> rfl),by repeat (first|(with_reducible first|exact HB.out|apply ba_|apply bb_|apply bc_)|exact HB.out)⟩
  ·rw [if_neg c5] at H
   have c5b0 : decide (480 < a0) = false:=decide_eq_false c5
   clear c5
   replace H:=Option.bind_eq_some_iff.mp H
   obtain ⟨⟨t580,t581⟩,A80,H⟩:=H
   (try dsimp only at H)
   have A8:=ak_ A80
   clear A80
   replace H:=Option.bind_eq_some_iff.mp H
   obtain ⟨t584,A90,H⟩:=H
   (try dsimp only at H)
   have A9:=ak_ A90
   clear A90
   by_cases c10 : t584 = true
   ·subst c10
    have H1 : (madrigallaw15_MdctMirror.l0 k a0 a1 t580 t581 0) = some r:=by rw [if_pos rfl] at H;exact H
    clear H
    have H:=H1
    clear H1
    have H':=ak_ H
    clear H
    go_enter Try.func8,Try.ntmps8
    go_wp2_with (first|(go_at_call 9;(with_reducible refine (madrigallaw15_awake.calls k  true _ A3.out).mono ?_);rintro e w11 ⟨rfl,hb⟩;have n0_:=ak_ (below_step (by repeat (first|(with_reducible first|exact HB.out|apply ba_|apply bb_|apply bc_)|exact HB.out)) hb);clear HB;have HB:=n0_;clear n0_;(try clear hb))|(go_at_call 10;(with_reducible refine (mdct_Shape.calls k a0 a1 t580 t581 _ A8.out).mono ?_);rintro e w12 ⟨v582,rfl,ho0,hb⟩;have n0_:=ak_ (Kd.R_lower ho0 (below_size (by repeat (first|(with_reducible first|exact HB.out|apply ba_|apply bb_|apply bc_)|exact HB.out))));have n1_:=ak_ (below_step (by repeat (first|(with_reducible first|exact HB.out|apply ba_|apply bb_|apply bc_)|exact HB.out)) hb);clear HB;have HO583:=n0_;have HB:=n1_;clear n0_ n1_;(try clear hb);(try clear ho0))|(go_at_call 16;(with_reducible refine (mdct_Good.calls a0 a1 true _ A9.out).mono ?_);rintro e w' ⟨rfl,⟨nd,rfl⟩⟩;(try first|exact ⟨rfl,_,World.drewN_drewN _ _ _⟩|exact ⟨rfl,_,Eq.trans (World.drewN_drewN _ _ _) (congrArg (World.drewN _) (Nat.add_assoc _ _ _))⟩)))
    repeat (go_quiet (first|(go_at_call 9;(with_reducible refine (madrigallaw15_awake.calls k  true _ A3.out).mono ?_);rintro e w11 ⟨rfl,hb⟩;have n0_:=ak_ (below_step (by repeat (first|(with_reducible first|exact HB.out|apply ba_|apply bb_|apply bc_)|exact HB.out)) hb);clear HB;have HB:=n0_;clear n0_;(try clear hb))|(go_at_call 10;(with_reducible refine (mdct_Shape.calls k a0 a1 t580 t581 _ A8.out).mono ?_);rintro e w12 ⟨v582,rfl,ho0,hb⟩;have n0_:=ak_ (Kd.R_lower ho0 (below_size (by repeat (first|(with_reducible first|exact HB.out|apply ba_|apply bb_|apply bc_)|exact HB.out))));have n1_:=ak_ (below_step (by repeat (first|(with_reducible first|exact HB.out|apply ba_|apply bb_|apply bc_)|exact HB.out)) hb);clear HB;have HO583:=n0_;have HB:=n1_;clear n0_ n1_;(try clear hb);(try clear ho0))|(go_at_call 16;(with_reducible refine (mdct_Good.calls a0 a1 true _ A9.out).mono ?_);rintro e w' ⟨rfl,⟨nd,rfl⟩⟩;(try first|exact ⟨rfl,_,World.drewN_drewN _ _ _⟩|exact ⟨rfl,_,Eq.trans (World.drewN_drewN _ _ _) (congrArg (World.drewN _) (Nat.add_assoc _ _ _))⟩)));try go_wp2_with (first|(go_at_call 9;(with_reducible refine (madrigallaw15_awake.calls k  true _ A3.out).mono ?_);rintro e w11 ⟨rfl,hb⟩;have n0_:=ak_ (below_step (by repeat (first|(with_reducible first|exact HB.out|apply ba_|apply bb_|apply bc_)|exact HB.out)) hb);clear HB;have HB:=n0_;clear n0_;(try clear hb))|(go_at_call 10;(with_reducible refine (mdct_Shape.calls k a0 a1 t580 t581 _ A8.out).mono ?_);rintro e w12 ⟨v582,rfl,ho0,hb⟩;have n0_:=ak_ (Kd.R_lower ho0 (below_size (by repeat (first|(with_reducible first|exact HB.out|apply ba_|apply bb_|apply bc_)|exact HB.out))));have n1_:=ak_ (below_step (by repeat (first|(with_reducible first|exact HB.out|apply ba_|apply bb_|apply bc_)|exact HB.out)) hb);clear HB;have HO583:=n0_;have HB:=n1_;clear n0_ n1_;(try clear hb);(try clear ho0))|(go_at_call 16;(with_reducible refine (mdct_Good.calls a0 a1 true _ A9.out).mono ?_);rintro e w' ⟨rfl,⟨nd,rfl⟩⟩;(try first|exact ⟨rfl,_,World.drewN_drewN _ _ _⟩|exact ⟨rfl,_,Eq.trans (World.drewN_drewN _ _ _) (congrArg (World.drewN _) (Nat.add_assoc _ _ _))⟩))))
    go_loopg [7] k (fun kq v7 w' => ∃ (x7_1 : Int),v7 = .int .i64 x7_1 ∧ Aside0 (madrigallaw15_MdctMirror.l0 kq a0 a1 t580 t581 x7_1 = some r) ∧ Aside0 (kq ≤ k) ∧ Aside0 (Kd.R (Kd.int .i64) 2 w' w.heap.size (fun _ => True) v582 t580) ∧ Aside0 (Below w.heap.size w w'))
    case atStart => exact ⟨(0),(by first|rfl|(simp;done)|(simp [*];done)),H',⟨Nat.le_refl _⟩,⟨by (with_reducible repeat (first|apply ra_|apply rb_|apply rc_));exact HO583.out⟩,⟨by repeat (first|(with_reducible first|exact HB.out|apply ba_|apply bb_|apply bc_)|exact HB.out)⟩⟩
    case round =>
     clear H'
     try clear c1
     try clear p2
     try clear c4
     try clear c5
     try clear c5b0
     try clear c8
     try clear c10
     obtain ⟨x7_1,rfl,HA,HK1,HO_5,HB⟩:=hrel
     (try simp only [i64_w,i32_w])
     cases gk with
     | zero => exact absurd HA.out (by simp [madrigallaw15_MdctMirror.l0])
     | succ k1 =>
      have H:=HA.out
      clear HA
      simp only [madrigallaw15_MdctMirror.l0] at H
      by_cases c13 : x7_1 < a0
      ·rw [if_pos c13] at H
       have c13b0:=decide_eq_true c13
       clear c13
       by_cases c14 : 0 ≤ x7_1
       ·rw [if_pos c14] at H
        have c14b0:=decide_eq_true c14
        clear c14
        by_cases c15 : x7_1 < (t580.length : Int)
        ·rw [if_pos c15] at H
         have c15b0:=decide_eq_true c15
         clear c15
         obtain ⟨ji16,hji16⟩ : ∃ j_ : Int,(wrap64 ((wrap64 ((wrap64 (2 * a0)) - 1)) - x7_1)) = j_:=⟨_,rfl⟩
         replace H : (if 0 ≤ (ji16) then (if (ji16) < (t580.length : Int) then (if (rd t580 x7_1) = (rd t580 (ji16)) then (if (rd t580 x7_1) < 0 then (none) else (if (rd t580 x7_1) > 32768 then (none) else (if x7_1 < (wrap64 (Int.tdiv (wrap64 (a0 - a1)) 2)) then (if (rd t580 x7_1) = 0 then (if x7_1 ≥ (wrap64 (Int.tdiv (wrap64 (a0 + a1)) 2)) then (if (rd t580 x7_1) = 32768 then (madrigallaw15_MdctMirror.l0 k1 a0 a1 t580 t581 (wrap64 (x7_1 + 1))) else (none)) else (madrigallaw15_MdctMirror.l0 k1 a0 a1 t580 t581 (wrap64 (x7_1 + 1)))) else (none)) else (if x7_1 ≥ (wrap64 (Int.tdiv (wrap64 (a0 + a1)) 2)) then (if (rd t580 x7_1) = 32768 then (madrigallaw15_MdctMirror.l0 k1 a0 a1 t580 t581 (wrap64 (x7_1 + 1))) else (none)) else (madrigallaw15_MdctMirror.l0 k1 a0 a1 t580 t581 (wrap64 (x7_1 + 1))))))) else (none)) else (none)) else (none)) = some r:=by first|(rw [hji16] at H;exact H)|(simp only [hji16] at H ⊢;exact H)
         have hji16w : (IntKind.i64.wrap ((wrap64 ((wrap64 (2 * a0)) - 1)) - x7_1)) = ji16:=(i64_w _).trans hji16
         by_cases c17 : 0 ≤ (ji16)
         ·rw [if_pos c17] at H
          have c17b0:=decide_eq_true c17
          clear c17
          by_cases c18 : (ji16) < (t580.length : Int)
          ·rw [if_pos c18] at H
           have c18b0:=decide_eq_true c18
           clear c18
           by_cases c19 : (rd t580 x7_1) = (rd t580 (ji16))
           ·rw [if_pos c19] at H
            have c19b0 : ((rd t580 x7_1) == (rd t580 (ji16))) = true:=beq_iff_eq.mpr c19
            have c19b1 : ((rd t580 x7_1) != (rd t580 (ji16))) = false:=bne_eq_false_iff_eq.mpr c19
            clear c19
            by_cases c20 : (rd t580 x7_1) < 0
            ·rw [if_pos c20] at H
             exact absurd H (by simp)
            ·rw [if_neg c20] at H
             have c20b0:=decide_eq_false c20
             clear c20
             by_cases c21 : (rd t580 x7_1) > 32768
             ·rw [if_pos c21] at H
              exact absurd H (by simp)
             ·rw [if_neg c21] at H
              have c21b0 : decide (32768 < (rd t580 x7_1)) = false:=decide_eq_false c21
              clear c21
              by_cases c22 : x7_1 < (wrap64 (Int.tdiv (wrap64 (a0 - a1)) 2))
              ·rw [if_pos c22] at H
               have c22b0:=decide_eq_true c22
               clear c22
               by_cases c23 : (rd t580 x7_1) = 0
               ·rw [if_pos c23] at H
                have c23b0 : ((rd t580 x7_1) == 0) = true:=beq_iff_eq.mpr c23
                have c23b1 : ((rd t580 x7_1) != 0) = false:=bne_eq_false_iff_eq.mpr c23
                clear c23
                by_cases c24 : x7_1 ≥ (wrap64 (Int.tdiv (wrap64 (a0 + a1)) 2))
                ·rw [if_pos c24] at H
                 have c24b0 : decide ((wrap64 (Int.tdiv (wrap64 (a0 + a1)) 2)) ≤ x7_1) = true:=decide_eq_true c24
                 clear c24
                 by_cases c25 : (rd t580 x7_1) = 32768
                 ·rw [if_pos c25] at H
                  have c25b0 : ((rd t580 x7_1) == 32768) = true:=beq_iff_eq.mpr c25
                  have c25b1 : ((rd t580 x7_1) != 32768) = false:=bne_eq_false_iff_eq.mpr c25
                  clear c25
                  have H':=ak_ H
                  clear H
                  obtain ⟨Ao26,co26,eo26⟩:=Kd.R_slice HO_5.out
                  subst eo26
                  have p585 : 0 ≤ (x7_1 : Int):=of_decide_eq_true (by first|(with_reducible assumption)|assumption)
                  have q585 : x7_1 < (t580.length : Int):=of_decide_eq_true (by first|(with_reducible assumption)|assumption)
                  obtain ⟨ad585,e585,hx585_0⟩:=Kd.at_int (Kd.R_reads' HO_5.out).2.2 x7_1 p585 q585
                  cases e585
                  replace p585:=eq_true p585
                  replace q585:=eq_true q585
                  have p586 : 0 ≤ ((ji16) : Int):=of_decide_eq_true (by first|(with_reducible assumption)|assumption)
                  have q586 : (ji16) < (t580.length : Int):=of_decide_eq_true (by first|(with_reducible assumption)|assumption)
                  obtain ⟨ad586,e586,hx586_0⟩:=Kd.at_int (Kd.R_reads' HO_5.out).2.2 (ji16) p586 q586
                  obtain rfl : ad585 = ad586:=(by injection e586)
                  replace p586:=eq_true p586
                  replace q586:=eq_true q586
                  have p587 : 0 ≤ (x7_1 : Int):=of_decide_eq_true (by first|(with_reducible assumption)|assumption)
                  have q587 : x7_1 < (t580.length : Int):=of_decide_eq_true (by first|(with_reducible assumption)|assumption)
                  obtain ⟨ad587,e587,hx587_0⟩:=Kd.at_int (Kd.R_reads' HO_5.out).2.2 x7_1 p587 q587
                  obtain rfl : ad585 = ad587:=(by injection e587)
                  replace p587:=eq_true p587
                  replace q587:=eq_true q587
                  have p588 : 0 ≤ (x7_1 : Int):=of_decide_eq_true (by first|(with_reducible assumption)|assumption)
                  have q588 : x7_1 < (t580.length : Int):=of_decide_eq_true (by first|(with_reducible assumption)|assumption)
                  obtain ⟨ad588,e588,hx588_0⟩:=Kd.at_int (Kd.R_reads' HO_5.out).2.2 x7_1 p588 q588
                  obtain rfl : ad585 = ad588:=(by injection e588)
                  replace p588:=eq_true p588
                  replace q588:=eq_true q588
                  have p589 : 0 ≤ (x7_1 : Int):=of_decide_eq_true (by first|(with_reducible assumption)|assumption)
                  have q589 : x7_1 < (t580.length : Int):=of_decide_eq_true (by first|(with_reducible assumption)|assumption)
                  obtain ⟨ad589,e589,hx589_0⟩:=Kd.at_int (Kd.R_reads' HO_5.out).2.2 x7_1 p589 q589
                  obtain rfl : ad585 = ad589:=(by injection e589)
                  replace p589:=eq_true p589
                  replace q589:=eq_true q589
                  have p590 : 0 ≤ (x7_1 : Int):=of_decide_eq_true (by first|(with_reducible assumption)|assumption)
                  have q590 : x7_1 < (t580.length : Int):=of_decide_eq_true (by first|(with_reducible assumption)|assumption)
                  obtain ⟨ad590,e590,hx590_0⟩:=Kd.at_int (Kd.R_reads' HO_5.out).2.2 x7_1 p590 q590
                  obtain rfl : ad585 = ad590:=(by injection e590)
                  replace p590:=eq_true p590
                  replace q590:=eq_true q590
                  go_wp2
                  repeat (go_quiet (fail);try go_wp2)
                  go_roundg k1
                  case measure => have:=HK1.out;omega
                  case rel => exact ⟨(wrap64 (x7_1 + 1)),(by first|rfl|(simp;done)|(simp [*];done)),H',⟨by have:=HK1.out;omega⟩,⟨by (with_reducible repeat (first|apply ra_|apply rb_|apply rc_));exact HO_5.out⟩,⟨by repeat (first|(with_reducible first|exact HB.out|apply ba_|apply bb_|apply bc_)|exact HB.out)⟩⟩
                 ·rw [if_neg c25] at H
                  exact absurd H (by simp)
                ·rw [if_neg c24] at H
                 have c24b0 : decide ((wrap64 (Int.tdiv (wrap64 (a0 + a1)) 2)) ≤ x7_1) = false:=decide_eq_false c24
                 clear c24
                 have H':=ak_ H
                 clear H
                 obtain ⟨Ao27,co27,eo27⟩:=Kd.R_slice HO_5.out
                 subst eo27
                 have p585 : 0 ≤ (x7_1 : Int):=of_decide_eq_true (by first|(with_reducible assumption)|assumption)
                 have q585 : x7_1 < (t580.length : Int):=of_decide_eq_true (by first|(with_reducible assumption)|assumption)
                 obtain ⟨ad585,e585,hx585_0⟩:=Kd.at_int (Kd.R_reads' HO_5.out).2.2 x7_1 p585 q585
                 cases e585
                 replace p585:=eq_true p585
                 replace q585:=eq_true q585
                 have p586 : 0 ≤ ((ji16) : Int):=of_decide_eq_true (by first|(with_reducible assumption)|assumption)
                 have q586 : (ji16) < (t580.length : Int):=of_decide_eq_true (by first|(with_reducible assumption)|assumption)
                 obtain ⟨ad586,e586,hx586_0⟩:=Kd.at_int (Kd.R_reads' HO_5.out).2.2 (ji16) p586 q586
                 obtain rfl : ad585 = ad586:=(by injection e586)
                 replace p586:=eq_true p586
                 replace q586:=eq_true q586
                 have p587 : 0 ≤ (x7_1 : Int):=of_decide_eq_true (by first|(with_reducible assumption)|assumption)
                 have q587 : x7_1 < (t580.length : Int):=of_decide_eq_true (by first|(with_reducible assumption)|assumption)
                 obtain ⟨ad587,e587,hx587_0⟩:=Kd.at_int (Kd.R_reads' HO_5.out).2.2 x7_1 p587 q587
                 obtain rfl : ad585 = ad587:=(by injection e587)
                 replace p587:=eq_true p587
                 replace q587:=eq_true q587
                 have p588 : 0 ≤ (x7_1 : Int):=of_decide_eq_true (by first|(with_reducible assumption)|assumption)
                 have q588 : x7_1 < (t580.length : Int):=of_decide_eq_true (by first|(with_reducible assumption)|assumption)
                 obtain ⟨ad588,e588,hx588_0⟩:=Kd.at_int (Kd.R_reads' HO_5.out).2.2 x7_1 p588 q588
                 obtain rfl : ad585 = ad588:=(by injection e588)
                 replace p588:=eq_true p588
                 replace q588:=eq_true q588
                 have p589 : 0 ≤ (x7_1 : Int):=of_decide_eq_true (by first|(with_reducible assumption)|assumption)
                 have q589 : x7_1 < (t580.length : Int):=of_decide_eq_true (by first|(with_reducible assumption)|assumption)
                 obtain ⟨ad589,e589,hx589_0⟩:=Kd.at_int (Kd.R_reads' HO_5.out).2.2 x7_1 p589 q589
                 obtain rfl : ad585 = ad589:=(by injection e589)
                 replace p589:=eq_true p589
                 replace q589:=eq_true q589
                 go_wp2
                 repeat (go_quiet (fail);try go_wp2)
                 go_roundg k1
                 case measure => have:=HK1.out;omega
                 case rel => exact ⟨(wrap64 (x7_1 + 1)),(by first|rfl|(simp;done)|(simp [*];done)),H',⟨by have:=HK1.out;omega⟩,⟨by (with_reducible repeat (first|apply ra_|apply rb_|apply rc_));exact HO_5.out⟩,⟨by repeat (first|(with_reducible first|exact HB.out|apply ba_|apply bb_|apply bc_)|exact HB.out)⟩⟩
               ·rw [if_neg c23] at H
                exact absurd H (by simp)
              ·rw [if_neg c22] at H
               have c22b0:=decide_eq_false c22
               clear c22
               by_cases c28 : x7_1 ≥ (wrap64 (Int.tdiv (wrap64 (a0 + a1)) 2))
               ·rw [if_pos c28] at H
                have c28b0 : decide ((wrap64 (Int.tdiv (wrap64 (a0 + a1)) 2)) ≤ x7_1) = true:=decide_eq_true c28
                clear c28
                by_cases c29 : (rd t580 x7_1) = 32768
                ·rw [if_pos c29] at H
                 have c29b0 : ((rd t580 x7_1) == 32768) = true:=beq_iff_eq.mpr c29
                 have c29b1 : ((rd t580 x7_1) != 32768) = false:=bne_eq_false_iff_eq.mpr c29
                 clear c29
                 have H':=ak_ H
                 clear H
                 obtain ⟨Ao30,co30,eo30⟩:=Kd.R_slice HO_5.out
                 subst eo30
                 have p585 : 0 ≤ (x7_1 : Int):=of_decide_eq_true (by first|(with_reducible assumption)|assumption)
                 have q585 : x7_1 < (t580.length : Int):=of_decide_eq_true (by first|(with_reducible assumption)|assumption)
                 obtain ⟨ad585,e585,hx585_0⟩:=Kd.at_int (Kd.R_reads' HO_5.out).2.2 x7_1 p585 q585
                 cases e585
                 replace p585:=eq_true p585
                 replace q585:=eq_true q585
                 have p586 : 0 ≤ ((ji16) : Int):=of_decide_eq_true (by first|(with_reducible assumption)|assumption)
                 have q586 : (ji16) < (t580.length : Int):=of_decide_eq_true (by first|(with_reducible assumption)|assumption)
                 obtain ⟨ad586,e586,hx586_0⟩:=Kd.at_int (Kd.R_reads' HO_5.out).2.2 (ji16) p586 q586
                 obtain rfl : ad585 = ad586:=(by injection e586)
                 replace p586:=eq_true p586
                 replace q586:=eq_true q586
                 have p587 : 0 ≤ (x7_1 : Int):=of_decide_eq_true (by first|(with_reducible assumption)|assumption)
                 have q587 : x7_1 < (t580.length : Int):=of_decide_eq_true (by first|(with_reducible assumption)|assumption)
                 obtain ⟨ad587,e587,hx587_0⟩:=Kd.at_int (Kd.R_reads' HO_5.out).2.2 x7_1 p587 q587
                 obtain rfl : ad585 = ad587:=(by injection e587)
                 replace p587:=eq_true p587
                 replace q587:=eq_true q587
                 have p588 : 0 ≤ (x7_1 : Int):=of_decide_eq_true (by first|(with_reducible assumption)|assumption)
                 have q588 : x7_1 < (t580.length : Int):=of_decide_eq_true (by first|(with_reducible assumption)|assumption)
                 obtain ⟨ad588,e588,hx588_0⟩:=Kd.at_int (Kd.R_reads' HO_5.out).2.2 x7_1 p588 q588
                 obtain rfl : ad585 = ad588:=(by injection e588)
                 replace p588:=eq_true p588
                 replace q588:=eq_true q588
                 have p591 : 0 ≤ (x7_1 : Int):=of_decide_eq_true (by first|(with_reducible assumption)|assumption)
                 have q591 : x7_1 < (t580.length : Int):=of_decide_eq_true (by first|(with_reducible assumption)|assumption)
                 obtain ⟨ad591,e591,hx591_0⟩:=Kd.at_int (Kd.R_reads' HO_5.out).2.2 x7_1 p591 q591
                 obtain rfl : ad585 = ad591:=(by injection e591)
                 replace p591:=eq_true p591
                 replace q591:=eq_true q591
                 go_wp2
                 repeat (go_quiet (fail);try go_wp2)
                 go_roundg k1
                 case measure => have:=HK1.out;omega
                 case rel => exact ⟨(wrap64 (x7_1 + 1)),(by first|rfl|(simp;done)|(simp [*];done)),H',⟨by have:=HK1.out;omega⟩,⟨by (with_reducible repeat (first|apply ra_|apply rb_|apply rc_));exact HO_5.out⟩,⟨by repeat (first|(with_reducible first|exact HB.out|apply ba_|apply bb_|apply bc_)|exact HB.out)⟩⟩
                ·rw [if_neg c29] at H
                 exact absurd H (by simp)
               ·rw [if_neg c28] at H
                have c28b0 : decide ((wrap64 (Int.tdiv (wrap64 (a0 + a1)) 2)) ≤ x7_1) = false:=decide_eq_false c28
                clear c28
                have H':=ak_ H
                clear H
                obtain ⟨Ao31,co31,eo31⟩:=Kd.R_slice HO_5.out
                subst eo31
                have p585 : 0 ≤ (x7_1 : Int):=of_decide_eq_true (by first|(with_reducible assumption)|assumption)
                have q585 : x7_1 < (t580.length : Int):=of_decide_eq_true (by first|(with_reducible assumption)|assumption)
                obtain ⟨ad585,e585,hx585_0⟩:=Kd.at_int (Kd.R_reads' HO_5.out).2.2 x7_1 p585 q585
                cases e585
                replace p585:=eq_true p585
                replace q585:=eq_true q585
                have p586 : 0 ≤ ((ji16) : Int):=of_decide_eq_true (by first|(with_reducible assumption)|assumption)
                have q586 : (ji16) < (t580.length : Int):=of_decide_eq_true (by first|(with_reducible assumption)|assumption)
                obtain ⟨ad586,e586,hx586_0⟩:=Kd.at_int (Kd.R_reads' HO_5.out).2.2 (ji16) p586 q586
                obtain rfl : ad585 = ad586:=(by injection e586)
                replace p586:=eq_true p586
                replace q586:=eq_true q586
                have p587 : 0 ≤ (x7_1 : Int):=of_decide_eq_true (by first|(with_reducible assumption)|assumption)
                have q587 : x7_1 < (t580.length : Int):=of_decide_eq_true (by first|(with_reducible assumption)|assumption)
                obtain ⟨ad587,e587,hx587_0⟩:=Kd.at_int (Kd.R_reads' HO_5.out).2.2 x7_1 p587 q587
                obtain rfl : ad585 = ad587:=(by injection e587)
                replace p587:=eq_true p587
                replace q587:=eq_true q587
                have p588 : 0 ≤ (x7_1 : Int):=of_decide_eq_true (by first|(with_reducible assumption)|assumption)
                have q588 : x7_1 < (t580.length : Int):=of_decide_eq_true (by first|(with_reducible assumption)|assumption)
                obtain ⟨ad588,e588,hx588_0⟩:=Kd.at_int (Kd.R_reads' HO_5.out).2.2 x7_1 p588 q588
                obtain rfl : ad585 = ad588:=(by injection e588)
                replace p588:=eq_true p588
                replace q588:=eq_true q588
                go_wp2
                repeat (go_quiet (fail);try go_wp2)
                go_roundg k1
                case measure => have:=HK1.out;omega
                case rel => exact ⟨(wrap64 (x7_1 + 1)),(by first|rfl|(simp;done)|(simp [*];done)),H',⟨by have:=HK1.out;omega⟩,⟨by (with_reducible repeat (first|apply ra_|apply rb_|apply rc_));exact HO_5.out⟩,⟨by repeat (first|(with_reducible first|exact HB.out|apply ba_|apply bb_|apply bc_)|exact HB.out)⟩⟩
           ·rw [if_neg c19] at H
            exact absurd H (by simp)
          ·rw [if_neg c18] at H
           exact absurd H (by simp)
         ·rw [if_neg c17] at H
          exact absurd H (by simp)
        ·rw [if_neg c15] at H
         exact absurd H (by simp)
       ·rw [if_neg c14] at H
        exact absurd H (by simp)
      ·rw [if_neg c13] at H
       have c13b0:=decide_eq_false c13
       clear c13
       by_cases c32 : t581 = 0
       ·rw [if_pos c32] at H
        have c32b0 : (t581 == 0) = true:=beq_iff_eq.mpr c32
        have c32b1 : (t581 != 0) = false:=bne_eq_false_iff_eq.mpr c32
        clear c32
        obtain rfl:=Option.some.inj H
        obtain ⟨Ao33,co33,eo33⟩:=Kd.R_slice HO_5.out
        subst eo33
        go_wp2
        repeat (go_quiet (fail);try go_wp2)
        go_ret
        exact ⟨by first|rfl|(simp [errW_none,errW_some] <;> rfl)|(simp [*,errW_none,errW_some] <;> rfl),by repeat (first|(with_reducible first|exact HB.out|apply ba_|apply bb_|apply bc_)|exact HB.out)⟩
       ·rw [if_neg c32] at H
        exact absurd H (by simp)
   ·replace c10:=Bool.eq_false_iff.mpr c10
    subst c10
    have H1 : (if t581 = 0 then (none) else (some ((t580.length : Int) == 0))) = some r:=by rw [if_neg (show ¬ (false = true) by decide)] at H;exact H
    clear H
    have H:=H1
    clear H1
    by_cases c34 : t581 = 0
    ·rw [if_pos c34] at H
     exact absurd H (by simp)
    ·rw [if_neg c34] at H
     have c34b0 : (t581 == 0) = false:=beq_eq_false_iff_ne.mpr c34
     have c34b1 : (t581 != 0) = true:=bne_iff_ne.mpr c34
     obtain rfl:=Option.some.inj H
     go_enter Try.func8,Try.ntmps8
     go_wp2_with (first|(go_at_call 9;(with_reducible refine (madrigallaw15_awake.calls k  true _ A3.out).mono ?_);rintro e w35 ⟨rfl,hb⟩;have n0_:=ak_ (below_step (by repeat (first|(with_reducible first|exact HB.out|apply ba_|apply bb_|apply bc_)|exact HB.out)) hb);clear HB;have HB:=n0_;clear n0_;(try clear hb))|(go_at_call 10;(with_reducible refine (mdct_Shape.calls k a0 a1 t580 t581 _ A8.out).mono ?_);rintro e w36 ⟨v582,rfl,ho0,hb⟩;have n0_:=ak_ (Kd.R_lower ho0 (below_size (by repeat (first|(with_reducible first|exact HB.out|apply ba_|apply bb_|apply bc_)|exact HB.out))));have n1_:=ak_ (below_step (by repeat (first|(with_reducible first|exact HB.out|apply ba_|apply bb_|apply bc_)|exact HB.out)) hb);clear HB;have HO583:=n0_;have HB:=n1_;clear n0_ n1_;(try clear hb);(try clear ho0))|(go_at_call 16;(with_reducible refine (mdct_Good.calls a0 a1 false _ A9.out).mono ?_);rintro e w' ⟨rfl,⟨nd,rfl⟩⟩;(try first|exact ⟨rfl,_,World.drewN_drewN _ _ _⟩|exact ⟨rfl,_,Eq.trans (World.drewN_drewN _ _ _) (congrArg (World.drewN _) (Nat.add_assoc _ _ _))⟩);obtain ⟨Ao37,co37,eo37⟩:=Kd.R_slice HO583.out;subst eo37))
     repeat (go_quiet (first|(go_at_call 9;(with_reducible refine (madrigallaw15_awake.calls k  true _ A3.out).mono ?_);rintro e w35 ⟨rfl,hb⟩;have n0_:=ak_ (below_step (by repeat (first|(with_reducible first|exact HB.out|apply ba_|apply bb_|apply bc_)|exact HB.out)) hb);clear HB;have HB:=n0_;clear n0_;(try clear hb))|(go_at_call 10;(with_reducible refine (mdct_Shape.calls k a0 a1 t580 t581 _ A8.out).mono ?_);rintro e w36 ⟨v582,rfl,ho0,hb⟩;have n0_:=ak_ (Kd.R_lower ho0 (below_size (by repeat (first|(with_reducible first|exact HB.out|apply ba_|apply bb_|apply bc_)|exact HB.out))));have n1_:=ak_ (below_step (by repeat (first|(with_reducible first|exact HB.out|apply ba_|apply bb_|apply bc_)|exact HB.out)) hb);clear HB;have HO583:=n0_;have HB:=n1_;clear n0_ n1_;(try clear hb);(try clear ho0))|(go_at_call 16;(with_reducible refine (mdct_Good.calls a0 a1 false _ A9.out).mono ?_);rintro e w' ⟨rfl,⟨nd,rfl⟩⟩;(try first|exact ⟨rfl,_,World.drewN_drewN _ _ _⟩|exact ⟨rfl,_,Eq.trans (World.drewN_drewN _ _ _) (congrArg (World.drewN _) (Nat.add_assoc _ _ _))⟩);obtain ⟨Ao37,co37,eo37⟩:=Kd.R_slice HO583.out;subst eo37));try go_wp2_with (first|(go_at_call 9;(with_reducible refine (madrigallaw15_awake.calls k  true _ A3.out).mono ?_);rintro e w35 ⟨rfl,hb⟩;have n0_:=ak_ (below_step (by repeat (first|(with_reducible first|exact HB.out|apply ba_|apply bb_|apply bc_)|exact HB.out)) hb);clear HB;have HB:=n0_;clear n0_;(try clear hb))|(go_at_call 10;(with_reducible refine (mdct_Shape.calls k a0 a1 t580 t581 _ A8.out).mono ?_);rintro e w36 ⟨v582,rfl,ho0,hb⟩;have n0_:=ak_ (Kd.R_lower ho0 (below_size (by repeat (first|(with_reducible first|exact HB.out|apply ba_|apply bb_|apply bc_)|exact HB.out))));have n1_:=ak_ (below_step (by repeat (first|(with_reducible first|exact HB.out|apply ba_|apply bb_|apply bc_)|exact HB.out)) hb);clear HB;have HO583:=n0_;have HB:=n1_;clear n0_ n1_;(try clear hb);(try clear ho0))|(go_at_call 16;(with_reducible refine (mdct_Good.calls a0 a1 false _ A9.out).mono ?_);rintro e w' ⟨rfl,⟨nd,rfl⟩⟩;(try first|exact ⟨rfl,_,World.drewN_drewN _ _ _⟩|exact ⟨rfl,_,Eq.trans (World.drewN_drewN _ _ _) (congrArg (World.drewN _) (Nat.add_assoc _ _ _))⟩);obtain ⟨Ao37,co37,eo37⟩:=Kd.R_slice HO583.out;subst eo37)))
     go_ret
     exact ⟨by first|rfl|(simp [errW_none,errW_some] <;> rfl)|(simp [*,errW_none,errW_some] <;> rfl),by repeat (first|(with_reducible first|exact HB.out|apply ba_|apply bb_|apply bc_)|exact HB.out)⟩
 ·replace c4:=Bool.eq_false_iff.mpr c4
  subst c4
  have H1 : (none) = some r:=by rw [if_neg (show ¬ (false = true) by decide)] at H;exact H
  clear H
  have H:=H1
  clear H1
  exact absurd H (by simp)

/-- THE ONE PURE STATEMENT of madrigallaw15_MdctMirror. -/
def madrigallaw15_MdctMirror.Pure : Prop:=∀ (a0 : Int) (a1 : Int),(Lit.int .i64 a0).wf = true → (Lit.int .i64 a1).wf = true → ∃ k,madrigallaw15_MdctMirror.f k a0 a1 = some true
theorem madrigallaw15_MdctMirror.walk (P : madrigallaw15_MdctMirror.Pure) (a0 : Int) (a1 : Int) (w : World) (w0 : (Lit.int .i64 a0).wf = true) (w1 : (Lit.int .i64 a1).wf = true) :
  Calls Try.prog 8 #[.int .i64 a0,.int .i64 a1] w fun e w' => e = .returned (.bool true) ∧ Below w.heap.size w w':=by
 obtain ⟨k,h⟩:=P a0 a1 w0 w1
 refine (madrigallaw15_MdctMirror.calls k a0 a1 true w h).mono ?_
 rintro e w' ⟨rfl,hd⟩
 exact ⟨rfl,hd⟩

end Go.Proofs.Ytlmacbiahofmcaa.P
