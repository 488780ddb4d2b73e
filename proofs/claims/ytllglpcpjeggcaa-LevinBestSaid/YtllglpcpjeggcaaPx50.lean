/- The machine side of the laws of one chapter, without conditions: each call of a Go function comes to what the Lean function of its name answers. Written for this claim by a program of the prover. -/
import Derived.Test.YtllglpcpjeggcaaPx0
import Derived.Test.YtllglpcpjeggcaaPx23
import Derived.Test.YtllglpcpjeggcaaPx25
import Derived.Test.YtllglpcpjeggcaaPx49
namespace Go.Proofs.Ytllglpcpjeggcaa.P
open Go.RowKit Go.Proofs.YtllglpcpjeggcaaW.PrintWords Go.Proofs.YtllglpcpjeggcaaW.PrintLast Go.Proofs.YtllglpcpjeggcaaW.PrintMore
attribute [local go_sem] max2_int min2_int max_two min_two max_three min_three max_four min_four   -- for this text's walks alone
set_option linter.unusedVariables false
set_option linter.unusedSimpArgs false

/-! ### madrigallaw12_LevinBest: function 5 -/
def madrigallaw12_LevinBest.f (k : Nat) (l0 : List Int) (a1 : Int) : Option (Bool):=(madrigallaw12_awake.f k).bind fun t706 => (if t706 = true then (if (l0.length : Int) > 200 then (some true) else ((some (([] : List Int) : List Int)).bind fun y707 => (if y707.length + l0.length < 17592186044416 then ((levin_Best.f k (y707 ++ l0) a1).bind fun bt713 => (if a1 = 10 then (if bt713.2 = 0 then ((madrigalref6_Found.f k l0 a1).bind fun t715 => (some (bt713.1 == t715))) else (none)) else (if a1 = 16 then (if bt713.2 = 0 then ((madrigalref6_Found.f k l0 a1).bind fun t716 => (some (bt713.1 == t716))) else (none)) else (if bt713.2 = 1 then (some (bt713.1 == 0)) else (none))))) else (none)))) else (none))
theorem madrigallaw12_LevinBest.mono : ∀ a0 a1 k,LeO (madrigallaw12_LevinBest.f k a0 a1) (madrigallaw12_LevinBest.f (k + 1) a0 a1):=by
 intro a0 a1 k
 unfold madrigallaw12_LevinBest.f
 repeat' first|(with_reducible first|exact levin_Best.mono _ _ _|exact madrigallaw12_awake.mono _|exact madrigalref6_Found.mono _ _ _|exact LeO.refl _|exact LeO.none _|refine LeO.ite ?_ ?_|refine LeO.bind ?_ (fun _ => ?_))|exact levin_Best.mono _ _ _|exact madrigallaw12_awake.mono _|exact madrigalref6_Found.mono _ _ _|exact LeO.none _|refine LeO.ite ?_ ?_|refine LeO.bind ?_ (fun _ => ?_)
set_option maxHeartbeats 8000000 in
set_option maxRecDepth 100000 in
theorem madrigallaw12_LevinBest.calls (k : Nat) (A0 : Option Addr) (c0 : Nat) (l0 : List Int) (a1 : Int) (r : Bool) (w : World) (hr0 : Kd.C (Kd.int .i64) w A0 l0.length l0) (hc0 : l0.length ≤ c0) (h : madrigallaw12_LevinBest.f k l0 a1 = some r) :
  Calls Try.prog 5 #[.slice A0 l0.length c0,.int .i64 a1] w fun e w' => e = .returned (.bool r) ∧ Below w.heap.size w w':=by
 have HR0:=ak_ hr0
 have HC0:=ak_ hc0
 clear hr0 hc0
 have HB:=ak_ (Below.refl w.heap.size w)
 have H : ((madrigallaw12_awake.f k).bind fun t706 => (if t706 = true then (if (l0.length : Int) > 200 then (some true) else ((some (([] : List Int) : List Int)).bind fun y707 => (if y707.length + l0.length < 17592186044416 then ((levin_Best.f k (y707 ++ l0) a1).bind fun bt713 => (if a1 = 10 then (if bt713.2 = 0 then ((madrigalref6_Found.f k l0 a1).bind fun t715 => (some (bt713.1 == t715))) else (none)) else (if a1 = 16 then (if bt713.2 = 0 then ((madrigalref6_Found.f k l0 a1).bind fun t716 => (some (bt713.1 == t716))) else (none)) else (if bt713.2 = 1 then (some (bt713.1 == 0)) else (none))))) else (none)))) else (none))) = some r:=h
 clear h
 replace H:=Option.bind_eq_some_iff.mp H
 obtain ⟨t706,A30,H⟩:=H
 (try dsimp only at H)
 have A3:=ak_ A30
 clear A30
 by_cases c4 : t706 = true
 ·subst c4
  have H1 : (if (l0.length : Int) > 200 then (some true) else ((some (([] : List Int) : List Int)).bind fun y707 => (if y707.length + l0.length < 17592186044416 then ((levin_Best.f k (y707 ++ l0) a1).bind fun bt713 => (if a1 = 10 then (if bt713.2 = 0 then ((madrigalref6_Found.f k l0 a1).bind fun t715 => (some (bt713.1 == t715))) else (none)) else (if a1 = 16 then (if bt713.2 = 0 then ((madrigalref6_Found.f k l0 a1).bind fun t716 => (some (bt713.1 == t716))) else (none)) else (if bt713.2 = 1 then (some (bt713.1 == 0)) else (none))))) else (none)))) = some r:=by rw [if_pos rfl] at H;exact H
  clear H
  have H:=H1
  clear H1
  by_cases c5 : (l0.length : Int) > 200
  ·rw [if_pos c5] at H
   have c5b0 : decide (200 < (l0.length : Int)) = true:=decide_eq_true c5
   have c5b1 : decide (200 < l0.length) = true:=decide_eq_true (by omega)
   clear c5
   obtain rfl:=Option.some.inj H
   go_enter Try.func5,Try.ntmps5
   go_wp2_with (first|((with_reducible refine gate_callee (f:=10) rfl ?_);refine goesL_ (some 7) rfl rfl Try.func10 (by kernel_rfl) rfl #[] rfl (by (try simp only [List.map_toArray,List.map_cons,List.map_nil]);first|done|rfl|(simp only [List.length_drop,List.length_take];rfl)) ?_;(with_reducible refine (madrigallaw12_awake.calls k  true _ A3.out).mono ?_);rintro e w6 ⟨rfl,hb⟩;refine ⟨_,rfl,?_⟩;have n0_:=ak_ (below_step (by repeat (first|(with_reducible first|exact HB.out|apply ba_|apply bb_|apply bc_)|exact HB.out)) hb);clear HB;have HB:=n0_;clear n0_;(try clear hb)))
   go_ret
   exact ⟨by first|rfl|(simp [errW_none,errW_some] <;> rfl)|(simp [*,errW_none,errW_some] <;> rfl),by repeat (first|(with_reducible first|exact HB.out|apply ba_|apply bb_|apply bc_)|exact HB.out)⟩
  ·rw [if_neg c5] at H
   have c5b0 : decide (200 < (l0.length : Int)) = false:=decide_eq_false c5
   have c5b1 : decide (200 < l0.length) = false:=decide_eq_false (by omega)
   clear c5
   obtain ⟨y707,hy707⟩ : ∃ y_ : List Int,y_ = (([] : List Int)):=⟨_,rfl⟩
   replace H : (if y707.length + l0.length < 17592186044416 then ((levin_Best.f k (y707 ++ l0) a1).bind fun bt713 => (if a1 = 10 then (if bt713.2 = 0 then ((madrigalref6_Found.f k l0 a1).bind fun t715 => (some (bt713.1 == t715))) else (none)) else (if a1 = 16 then (if bt713.2 = 0 then ((madrigalref6_Found.f k l0 a1).bind fun t716 => (some (bt713.1 == t716))) else (none)) else (if bt713.2 = 1 then (some (bt713.1 == 0)) else (none))))) else (none)) = some r:=by first|(rw [hy707];with_reducible exact H)|(have H2_:=(Option.bind_some _ _).symm.trans H;rw [hy707];with_reducible exact H2_)|(have H2_:=(Option.bind_some _ _).symm.trans H;with_reducible exact H2_)|with_reducible exact H|(rw [hy707];exact H)|exact H
   have Ny707:=ak_ hy707
   clear hy707
   by_cases c7 : y707.length + l0.length < 17592186044416
   ·rw [if_pos c7] at H
    have LMc7:=ak_ c7
    clear c7
    obtain ⟨y710,hy710⟩ : ∃ y_ : List Int,y_ = (y707 ++ l0):=⟨_,rfl⟩
    replace H : ((levin_Best.f k y710 a1).bind fun bt713 => (if a1 = 10 then (if bt713.2 = 0 then ((madrigalref6_Found.f k l0 a1).bind fun t715 => (some (bt713.1 == t715))) else (none)) else (if a1 = 16 then (if bt713.2 = 0 then ((madrigalref6_Found.f k l0 a1).bind fun t716 => (some (bt713.1 == t716))) else (none)) else (if bt713.2 = 1 then (some (bt713.1 == 0)) else (none))))) = some r:=by first|(rw [hy710];with_reducible exact H)|(have H2_:=(Option.bind_some _ _).symm.trans H;rw [hy710];with_reducible exact H2_)|(have H2_:=(Option.bind_some _ _).symm.trans H;with_reducible exact H2_)|with_reducible exact H|(rw [hy710];exact H)|exact H
    have Ny710:=ak_ hy710
    clear hy710
    replace H:=Option.bind_eq_some_iff.mp H
    obtain ⟨⟨t713,t714⟩,A80,H⟩:=H
    (try dsimp only at H)
    have A8:=ak_ A80
    clear A80
    by_cases c9 : a1 = 10
    ·rw [if_pos c9] at H
     have c9b0 : (a1 == 10) = true:=beq_iff_eq.mpr c9
     have c9b1 : (a1 != 10) = false:=bne_eq_false_iff_eq.mpr c9
     clear c9
     by_cases c10 : t714 = 0
     ·rw [if_pos c10] at H
      have c10b0 : (t714 == 0) = true:=beq_iff_eq.mpr c10
      have c10b1 : (t714 != 0) = false:=bne_eq_false_iff_eq.mpr c10
      clear c10
      replace H:=Option.bind_eq_some_iff.mp H
      obtain ⟨t715,A110,H⟩:=H
      (try dsimp only at H)
      have A11:=ak_ A110
      clear A110
      obtain rfl:=Option.some.inj H
      go_enter Try.func5,Try.ntmps5
      go_wp2_with (first|((with_reducible refine gate_callee (f:=10) rfl ?_);refine goesL_ (some 7) rfl rfl Try.func10 (by kernel_rfl) rfl #[] rfl (by (try simp only [List.map_toArray,List.map_cons,List.map_nil]);first|done|rfl|(simp only [List.length_drop,List.length_take];rfl)) ?_;(with_reducible refine (madrigallaw12_awake.calls k  true _ A3.out).mono ?_);rintro e w12 ⟨rfl,hb⟩;refine ⟨_,rfl,?_⟩;have n0_:=ak_ (below_step (by repeat (first|(with_reducible first|exact HB.out|apply ba_|apply bb_|apply bc_)|exact HB.out)) hb);clear HB;have HB:=n0_;clear n0_;(try clear hb))|((with_reducible refine gate_dst (N:=13) rfl ?_);refine Kd.R_lit (Kd.int .i64) _ 2 ?hg (N:=13) ?hd (xs:=([] : List Int)) (inner:=[]) (ok:=fun _ => True) (okp:=fun _ => True) ?hr ?hp (fun _ hk => hk) trivial (Below.refl _ _) (Nat.le_refl _) (by simp) ?_;(case hd => rfl);(case hg => rfl);(case hr => first|(go_simp;done)|(go_simp;rfl));(case hp => exact (Reps.none _ _));intro v708 w13 ho14 hb hg_ hnew_;clear hg_ hnew_;(first|rw [← Ny707.out] at ho14|(simp only [Int.reduceToNat] at ho14;rw [← Ny707.out] at ho14));have n0_:=ak_ (Kd.R_lower ho14 (below_size (by repeat (first|(with_reducible first|exact HB.out|apply ba_|apply bb_|apply bc_)|exact HB.out))));have n1_:=ak_ (below_step (by repeat (first|(with_reducible first|exact HB.out|apply ba_|apply bb_|apply bc_)|exact HB.out)) hb);clear HB;have HO709:=n0_;have HB:=n1_;clear n0_ n1_;clear hb ho14)|((with_reducible refine gate_builtin (b:=.append) (xs:=#[.tmp 13,.tmp 14]) rfl ?_);at_builtin;refine Kd.R_append_rows (Kd.int .i64) (w0:=w) w.heap.size rfl (.tmp 13) (.tmp 14) 23 2 (.int .i64 0) 8 rfl Try.underlying23 info2 rfl (by decide) (by omega) v708 y707 l0 _ _ _ (fun _ => True) (fun _ => False) rfl rfl ?aO ?aR (fun _ _ h => h) (fun _ h => h.elim) ?aF ?aB ?aS ?aL ?_;(case aR => repeat (first|exact (Kd.C_below HR0.out HB.out)|(with_reducible refine Kd.C_alloc ?_ _)|(with_reducible refine Kd.C_drewN ?_ _)|(with_reducible refine Kd.C_drew ?_)));(case aB => exact (by repeat (first|(with_reducible first|exact HB.out|apply ba_|apply bb_|apply bc_)|exact HB.out)));(case aF => exact (fun _ _ => trivial));(case aO => exact (by (with_reducible repeat (first|apply ra_|apply rb_|apply rc_));exact HO709.out));(case aS => exact (below_size (by repeat (first|(with_reducible first|exact HB.out|apply ba_|apply bb_|apply bc_)|exact HB.out))));(case aL => have:=LMc7.out;omega);intro v711 w15 ho hb hg hat;rw [← Ny710.out] at ho;have n0_:=ak_ (hb);have n1_:=ak_ (ho);clear HB;clear HO709;have HB:=n0_;have HO712:=n1_;clear n0_ n1_;clear ho hb hg hat;obtain ⟨Ao16,co16,eo16⟩:=Kd.R_slice HO712.out;subst eo16)|((with_reducible refine gate_callee (f:=14) rfl ?_);refine goesL_ (some 17) rfl rfl Try.func14 (by kernel_rfl) rfl #[.slice Ao16 y710.length co16,.int .i64 a1] rfl (by (try simp only [List.map_toArray,List.map_cons,List.map_nil]);first|done|rfl|(simp only [List.length_drop,List.length_take];rfl)) ?_;(with_reducible refine (levin_Best.calls k _ _ y710 a1 t713 t714 _ ?side1 ?side2 A8.out).mono ?_);(case side1 => repeat (first|exact (Kd.R_reads' HO712.out).2.2|(with_reducible refine Kd.C_alloc ?_ _)|(with_reducible refine Kd.C_drewN ?_ _)|(with_reducible refine Kd.C_drew ?_)));(case side2 => exact (Kd.R_reads' HO712.out).2.1);rintro e w17 ⟨rfl,hb⟩;refine ⟨_,rfl,?_⟩;have n0_:=ak_ (Kd.R_below (by (with_reducible repeat (first|apply ra_|apply rb_|apply rc_));exact HO712.out) hb);have n1_:=ak_ (below_step (by repeat (first|(with_reducible first|exact HB.out|apply ba_|apply bb_|apply bc_)|exact HB.out)) hb);clear HO712;clear HB;have HO712:=n0_;have HB:=n1_;clear n0_ n1_;(try clear hb))|(go_at_call 22;(with_reducible refine (madrigalref6_Found.calls k _ _ l0 a1 t715 _ ?side1 ?side2 A11.out).mono ?_);(case side1 => repeat (first|exact (Kd.C_below HR0.out HB.out)|(with_reducible refine Kd.C_alloc ?_ _)|(with_reducible refine Kd.C_drewN ?_ _)|(with_reducible refine Kd.C_drew ?_)));(case side2 => exact HC0.out);rintro e w18 ⟨rfl,hb⟩;have n0_:=ak_ (Kd.R_below (by (with_reducible repeat (first|apply ra_|apply rb_|apply rc_));exact HO712.out) hb);have n1_:=ak_ (below_step (by repeat (first|(with_reducible first|exact HB.out|apply ba_|apply bb_|apply bc_)|exact HB.out)) hb);clear HO712;clear HB;have HO712:=n0_;have HB:=n1_;clear n0_ n1_;(try clear hb)))
      go_ret
      exact ⟨by first|rfl|(simp [errW_none,errW_some] <;> rfl)|(simp [*,errW_none,errW_some] <;> rfl),by repeat (first|(with_reducible first|exact HB.out|apply ba_|apply bb_|apply bc_)|exact HB.out)⟩
     ·rw [if_neg c10] at H
      exact absurd H (by simp)
    ·rw [if_neg c9] at H
     have c9b0 : (a1 == 10) = false:=beq_eq_false_iff_ne.mpr c9
     have c9b1 : (a1 != 10) = true:=bne_iff_ne.mpr c9
     by_cases c19 : a1 = 16
     ·rw [if_pos c19] at H
      have c19b0 : (a1 == 16) = true:=beq_iff_eq.mpr c19
      have c19b1 : (a1 != 16) = false:=bne_eq_false_iff_eq.mpr c19
      clear c19
      by_cases c20 : t714 = 0
      ·rw [if_pos c20] at H
       have c20b0 : (t714 == 0) = true:=beq_iff_eq.mpr c20
       have c20b1 : (t714 != 0) = false:=bne_eq_false_iff_eq.mpr c20
       clear c20
       replace H:=Option.bind_eq_some_iff.mp H
       obtain ⟨t716,A210,H⟩:=H
       (try dsimp only at H)
       have A21:=ak_ A210
       clear A210
       obtain rfl:=Option.some.inj H
       go_enter Try.func5,Try.ntmps5
       go_wp2_with (first|((with_reducible refine gate_callee (f:=10) rfl ?_);refine goesL_ (some 7) rfl rfl Try.func10 (by kernel_rfl) rfl #[] rfl (by (try simp only [List.map_toArray,List.map_cons,List.map_nil]);first|done|rfl|(simp only [List.length_drop,List.length_take];rfl)) ?_;(with_reducible refine (madrigallaw12_awake.calls k  true _ A3.out).mono ?_);rintro e w22 ⟨rfl,hb⟩;refine ⟨_,rfl,?_⟩;have n0_:=ak_ (below_step (by repeat (first|(with_reducible first|exact HB.out|apply ba_|apply bb_|apply bc_)|exact HB.out)) hb);clear HB;have HB:=n0_;clear n0_;(try clear hb))|((with_reducible refine gate_dst (N:=13) rfl ?_);refine Kd.R_lit (Kd.int .i64) _ 2 ?hg (N:=13) ?hd (xs:=([] : List Int)) (inner:=[]) (ok:=fun _ => True) (okp:=fun _ => True) ?hr ?hp (fun _ hk => hk) trivial (Below.refl _ _) (Nat.le_refl _) (by simp) ?_;(case hd => rfl);(case hg => rfl);(case hr => first|(go_simp;done)|(go_simp;rfl));(case hp => exact (Reps.none _ _));intro v708 w23 ho24 hb hg_ hnew_;clear hg_ hnew_;(first|rw [← Ny707.out] at ho24|(simp only [Int.reduceToNat] at ho24;rw [← Ny707.out] at ho24));have n0_:=ak_ (Kd.R_lower ho24 (below_size (by repeat (first|(with_reducible first|exact HB.out|apply ba_|apply bb_|apply bc_)|exact HB.out))));have n1_:=ak_ (below_step (by repeat (first|(with_reducible first|exact HB.out|apply ba_|apply bb_|apply bc_)|exact HB.out)) hb);clear HB;have HO709:=n0_;have HB:=n1_;clear n0_ n1_;clear hb ho24)|((with_reducible refine gate_builtin (b:=.append) (xs:=#[.tmp 13,.tmp 14]) rfl ?_);at_builtin;refine Kd.R_append_rows (Kd.int .i64) (w0:=w) w.heap.size rfl (.tmp 13) (.tmp 14) 23 2 (.int .i64 0) 8 rfl Try.underlying23 info2 rfl (by decide) (by omega) v708 y707 l0 _ _ _ (fun _ => True) (fun _ => False) rfl rfl ?aO ?aR (fun _ _ h => h) (fun _ h => h.elim) ?aF ?aB ?aS ?aL ?_;(case aR => repeat (first|exact (Kd.C_below HR0.out HB.out)|(with_reducible refine Kd.C_alloc ?_ _)|(with_reducible refine Kd.C_drewN ?_ _)|(with_reducible refine Kd.C_drew ?_)));(case aB => exact (by repeat (first|(with_reducible first|exact HB.out|apply ba_|apply bb_|apply bc_)|exact HB.out)));(case aF => exact (fun _ _ => trivial));(case aO => exact (by (with_reducible repeat (first|apply ra_|apply rb_|apply rc_));exact HO709.out));(case aS => exact (below_size (by repeat (first|(with_reducible first|exact HB.out|apply ba_|apply bb_|apply bc_)|exact HB.out))));(case aL => have:=LMc7.out;omega);intro v711 w25 ho hb hg hat;rw [← Ny710.out] at ho;have n0_:=ak_ (hb);have n1_:=ak_ (ho);clear HB;clear HO709;have HB:=n0_;have HO712:=n1_;clear n0_ n1_;clear ho hb hg hat;obtain ⟨Ao26,co26,eo26⟩:=Kd.R_slice HO712.out;subst eo26)|((with_reducible refine gate_callee (f:=14) rfl ?_);refine goesL_ (some 17) rfl rfl Try.func14 (by kernel_rfl) rfl #[.slice Ao26 y710.length co26,.int .i64 a1] rfl (by (try simp only [List.map_toArray,List.map_cons,List.map_nil]);first|done|rfl|(simp only [List.length_drop,List.length_take];rfl)) ?_;(with_reducible refine (levin_Best.calls k _ _ y710 a1 t713 t714 _ ?side1 ?side2 A8.out).mono ?_);(case side1 => repeat (first|exact (Kd.R_reads' HO712.out).2.2|(with_reducible refine Kd.C_alloc ?_ _)|(with_reducible refine Kd.C_drewN ?_ _)|(with_reducible refine Kd.C_drew ?_)));(case side2 => exact (Kd.R_reads' HO712.out).2.1);rintro e w27 ⟨rfl,hb⟩;refine ⟨_,rfl,?_⟩;have n0_:=ak_ (Kd.R_below (by (with_reducible repeat (first|apply ra_|apply rb_|apply rc_));exact HO712.out) hb);have n1_:=ak_ (below_step (by repeat (first|(with_reducible first|exact HB.out|apply ba_|apply bb_|apply bc_)|exact HB.out)) hb);clear HO712;clear HB;have HO712:=n0_;have HB:=n1_;clear n0_ n1_;(try clear hb))|(go_at_call 22;(with_reducible refine (madrigalref6_Found.calls k _ _ l0 a1 t716 _ ?side1 ?side2 A21.out).mono ?_);(case side1 => repeat (first|exact (Kd.C_below HR0.out HB.out)|(with_reducible refine Kd.C_alloc ?_ _)|(with_reducible refine Kd.C_drewN ?_ _)|(with_reducible refine Kd.C_drew ?_)));(case side2 => exact HC0.out);rintro e w28 ⟨rfl,hb⟩;have n0_:=ak_ (Kd.R_below (by (with_reducible repeat (first|apply ra_|apply rb_|apply rc_));exact HO712.out) hb);have n1_:=ak_ (below_step (by repeat (first|(with_reducible first|exact HB.out|apply ba_|apply bb_|apply bc_)|exact HB.out)) hb);clear HO712;clear HB;have HO712:=n0_;have HB:=n1_;clear n0_ n1_;(try clear hb)))
       go_ret
       exact ⟨by first|rfl|(simp [errW_none,errW_some] <;> rfl)|(simp [*,errW_none,errW_some] <;> rfl),by repeat (first|(with_reducible first|exact HB.out|apply ba_|apply bb_|apply bc_)|exact HB.out)⟩
      ·rw [if_neg c20] at H
       exact absurd H (by simp)
     ·rw [if_neg c19] at H
      have c19b0 : (a1 == 16) = false:=beq_eq_false_iff_ne.mpr c19
      have c19b1 : (a1 != 16) = true:=bne_iff_ne.mpr c19
      by_cases c29 : t714 = 1
      ·rw [if_pos c29] at H
       have c29b0 : (t714 == 1) = true:=beq_iff_eq.mpr c29
       have c29b1 : (t714 != 1) = false:=bne_eq_false_iff_eq.mpr c29
       clear c29
       obtain rfl:=Option.some.inj H
       go_enter Try.func5,Try.ntmps5
       go_wp2_with (first|((with_reducible refine gate_callee (f:=10) rfl ?_);refine goesL_ (some 7) rfl rfl Try.func10 (by kernel_rfl) rfl #[] rfl (by (try simp only [List.map_toArray,List.map_cons,List.map_nil]);first|done|rfl|(simp only [List.length_drop,List.length_take];rfl)) ?_;(with_reducible refine (madrigallaw12_awake.calls k  true _ A3.out).mono ?_);rintro e w30 ⟨rfl,hb⟩;refine ⟨_,rfl,?_⟩;have n0_:=ak_ (below_step (by repeat (first|(with_reducible first|exact HB.out|apply ba_|apply bb_|apply bc_)|exact HB.out)) hb);clear HB;have HB:=n0_;clear n0_;(try clear hb))|((with_reducible refine gate_dst (N:=13) rfl ?_);refine Kd.R_lit (Kd.int .i64) _ 2 ?hg (N:=13) ?hd (xs:=([] : List Int)) (inner:=[]) (ok:=fun _ => True) (okp:=fun _ => True) ?hr ?hp (fun _ hk => hk) trivial (Below.refl _ _) (Nat.le_refl _) (by simp) ?_;(case hd => rfl);(case hg => rfl);(case hr => first|(go_simp;done)|(go_simp;rfl));(case hp => exact (Reps.none _ _));intro v708 w31 ho32 hb hg_ hnew_;clear hg_ hnew_;(first|rw [← Ny707.out] at ho32|(simp only [Int.reduceToNat] at ho32;rw [← Ny707.out] at ho32));have n0_:=ak_ (Kd.R_lower ho32 (below_size (by repeat (first|(with_reducible first|exact HB.out|apply ba_|apply bb_|apply bc_)|exact HB.out))));have n1_:=ak_ (below_step (by repeat (first|(with_reducible first|exact HB.out|apply ba_|apply bb_|apply bc_)|exact HB.out)) hb);clear HB;have HO709:=n0_;have HB:=n1_;clear n0_ n1_;clear hb ho32)|((with_reducible refine gate_builtin (b:=.append) (xs:=#[.tmp 13,.tmp 14]) rfl ?_);at_builtin;refine Kd.R_append_rows (Kd.int .i64) (w0:=w) w.heap.size rfl (.tmp 13) (.tmp 14) 23 2 (.int .i64 0) 8 rfl Try.underlying23 info2 rfl (by decide) (by omega) v708 y707 l0 _ _ _ (fun _ => True) (fun _ => False) rfl rfl ?aO ?aR (fun _ _ h => h) (fun _ h => h.elim) ?aF ?aB ?aS ?aL ?_;(case aR => repeat (first|exact (Kd.C_below HR0.out HB.out)|(with_reducible refine Kd.C_alloc ?_ _)|(with_reducible refine Kd.C_drewN ?_ _)|(with_reducible refine Kd.C_drew ?_)));(case aB => exact (by repeat (first|(with_reducible first|exact HB.out|apply ba_|apply bb_|apply bc_)|exact HB.out)));(case aF => exact (fun _ _ => trivial));(case aO => exact (by (with_reducible repeat (first|apply ra_|apply rb_|apply rc_));exact HO709.out));(case aS => exact (below_size (by repeat (first|(with_reducible first|exact HB.out|apply ba_|apply bb_|apply bc_)|exact HB.out))));(case aL => have:=LMc7.out;omega);intro v711 w33 ho hb hg hat;rw [← Ny710.out] at ho;have n0_:=ak_ (hb);have n1_:=ak_ (ho);clear HB;clear HO709;have HB:=n0_;have HO712:=n1_;clear n0_ n1_;clear ho hb hg hat;obtain ⟨Ao34,co34,eo34⟩:=Kd.R_slice HO712.out;subst eo34)|((with_reducible refine gate_callee (f:=14) rfl ?_);refine goesL_ (some 17) rfl rfl Try.func14 (by kernel_rfl) rfl #[.slice Ao34 y710.length co34,.int .i64 a1] rfl (by (try simp only [List.map_toArray,List.map_cons,List.map_nil]);first|done|rfl|(simp only [List.length_drop,List.length_take];rfl)) ?_;(with_reducible refine (levin_Best.calls k _ _ y710 a1 t713 t714 _ ?side1 ?side2 A8.out).mono ?_);(case side1 => repeat (first|exact (Kd.R_reads' HO712.out).2.2|(with_reducible refine Kd.C_alloc ?_ _)|(with_reducible refine Kd.C_drewN ?_ _)|(with_reducible refine Kd.C_drew ?_)));(case side2 => exact (Kd.R_reads' HO712.out).2.1);rintro e w35 ⟨rfl,hb⟩;refine ⟨_,rfl,?_⟩;have n0_:=ak_ (Kd.R_below (by (with_reducible repeat (first|apply ra_|apply rb_|apply rc_));exact HO712.out) hb);have n1_:=ak_ (below_step (by repeat (first|(with_reducible first|exact HB.out|apply ba_|apply bb_|apply bc_)|exact HB.out)) hb);clear HO712;clear HB;have HO712:=n0_;have HB:=n1_;clear n0_ n1_;(try clear hb)))
       go_ret
       exact ⟨by first|rfl|(simp [errW_none,errW_some] <;> rfl)|(simp [*,errW_none,errW_some] <;> rfl),by repeat (first|(with_reducible first|exact HB.out|apply ba_|apply bb_|apply bc_)|exact HB.out)⟩
      ·rw [if_neg c29] at H
       exact absurd H (by simp)
   ·rw [if_neg c7] at H
    exact absurd H (by simp)
 ·replace c4:=Bool.eq_false_iff.mpr c4
  subst c4
  have H1 : (none) = some r:=by rw [if_neg (show ¬ (false = true) by decide)] at H;exact H
  clear H
  have H:=H1
  clear H1
  exact absurd H (by simp)

/-- THE ONE PURE STATEMENT of madrigallaw12_LevinBest. -/
def madrigallaw12_LevinBest.Pure : Prop:=∀ (l0 : List Int) (a1 : Int),l0.length ≤ maxLen → l0.length * 8 ≤ 140737488351232 → (∀ x ∈ l0,(Lit.int .i64 x).wf = true) → (Lit.int .i64 a1).wf = true → ∃ k,madrigallaw12_LevinBest.f k l0 a1 = some true
theorem madrigallaw12_LevinBest.walk (P : madrigallaw12_LevinBest.Pure) (a0 : Option Addr) (len0 cap0 : Nat) (z0 : List Int) (a1 : Int) (w : World) (w0 : (a0 = none ∧ len0 = 0 ∧ cap0 = 0 ∧ z0 = []) ∨ ∃ x,a0 = some x ∧ len0 ≤ cap0 ∧ cap0 ≤ maxLen ∧ z0.length = cap0 ∧ (∀ i,i < z0.length → w.cell? (x.add i) = some (.int .i64 (z0.getD i 0))) ∧ ∀ n ∈ z0,(Lit.int .i64 n).wf = true) (y0 : len0 * 8 ≤ 140737488351232) (w1 : (Lit.int .i64 a1).wf = true) :
  Calls Try.prog 5 #[.slice a0 len0 cap0,.int .i64 a1] w fun e w' => e = .returned (.bool true) ∧ Below w.heap.size w w':=by
 obtain ⟨l0,rfl,hr0,hm0,hw0,hc0⟩:=ReadsInt.ofRowC w0
 obtain ⟨k,h⟩:=P l0 a1 hm0 y0 hw0 w1
 refine (madrigallaw12_LevinBest.calls k _ _ l0 a1 true w (Kd.C_of_reads (d:=(0 : Int)) (h1:=fun _ => rfl) hr0) hc0 h).mono ?_
 rintro e w' ⟨rfl,hd⟩
 exact ⟨rfl,hd⟩

end Go.Proofs.Ytllglpcpjeggcaa.P
