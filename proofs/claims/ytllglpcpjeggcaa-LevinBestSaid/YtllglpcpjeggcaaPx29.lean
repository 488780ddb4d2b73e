/- The machine side of the laws of one chapter, without conditions: each call of a Go function comes to what the Lean function of its name answers. Written for this claim by a program of the prover. -/
import Derived.Test.YtllglpcpjeggcaaPx0
import Derived.Test.YtllglpcpjeggcaaPx28
namespace Go.Proofs.Ytllglpcpjeggcaa.P
open Go.RowKit Go.Proofs.YtllglpcpjeggcaaW.PrintWords Go.Proofs.YtllglpcpjeggcaaW.PrintLast Go.Proofs.YtllglpcpjeggcaaW.PrintMore
attribute [local go_sem] max2_int min2_int max_two min_two max_three min_three max_four min_four   -- for this text's walks alone
set_option linter.unusedVariables false
set_option linter.unusedSimpArgs false

/-! ### madrigalref6_Auto: function 17 -/
mutual
def madrigalref6_Auto.l0 : Nat → List Int → Int → List Int → Int → Option (List Int)
 | 0,_,_,_,_ => none
 | k + 1,x0,x1,x5,x6 => if x6 ≤ x1 then (madrigalref6_Auto.l1 k x0 x1 x5 x6 0 x6) else (some x5)
def madrigalref6_Auto.l1 : Nat → List Int → Int → List Int → Int → Int → Int → Option (List Int)
 | 0,_,_,_,_,_,_ => none
 | k + 1,x0,x1,x5,x6,x7,x8 => if x8 < (x0.length : Int) then (if 0 ≤ x8 then (if 0 ≤ (wrap64 (x8 - x6)) then (if (wrap64 (x8 - x6)) < (x0.length : Int) then (madrigalref6_Auto.l1 k x0 x1 x5 x6 (wrap64 (x7 + (wrap64 ((rd x0 x8) * (rd x0 (wrap64 (x8 - x6))))))) (wrap64 (x8 + 1))) else (none)) else (none)) else (none)) else (if x5.length < 17592186044416 then (madrigalref6_Auto.l0 k x0 x1 (x5 ++ [x7]) (wrap64 (x6 + 1))) else (none))
end
def madrigalref6_Auto.f (k : Nat) (l0 : List Int) (a1 : Int) : Option (List Int):=(madrigalref6_clamped.f k l0 (-32768) 32767).bind fun t446 => (madrigalref6_Auto.l0 k t446 a1 ([] : List Int) 0)
theorem madrigalref6_Auto.mono_l : ∀ k,(∀ y0 y1 y2 y3,LeO (madrigalref6_Auto.l0 k y0 y1 y2 y3) (madrigalref6_Auto.l0 (k + 1) y0 y1 y2 y3)) ∧ (∀ y0 y1 y2 y3 y4 y5,LeO (madrigalref6_Auto.l1 k y0 y1 y2 y3 y4 y5) (madrigalref6_Auto.l1 (k + 1) y0 y1 y2 y3 y4 y5))
 | 0 => ⟨fun _ _ _ _ r h => by simp [madrigalref6_Auto.l0] at h,fun _ _ _ _ _ _ r h => by simp [madrigalref6_Auto.l1] at h⟩
 | k + 1 => by
  obtain ⟨ih0,ih1⟩:=madrigalref6_Auto.mono_l k
  refine ⟨?_,?_⟩
  all_goals (intros;first|unfold madrigalref6_Auto.l0|unfold madrigalref6_Auto.l1)
  all_goals (repeat' first|(with_reducible first|exact ih0 _ _ _ _|exact ih1 _ _ _ _ _ _|exact madrigalref6_clamped.mono _ _ _ _|exact LeO.refl _|exact LeO.none _|refine LeO.ite ?_ ?_|refine LeO.bind ?_ (fun _ => ?_))|exact ih0 _ _ _ _|exact ih1 _ _ _ _ _ _|exact madrigalref6_clamped.mono _ _ _ _|exact LeO.none _|refine LeO.ite ?_ ?_|refine LeO.bind ?_ (fun _ => ?_))
theorem madrigalref6_Auto.mono : ∀ a0 a1 k,LeO (madrigalref6_Auto.f k a0 a1) (madrigalref6_Auto.f (k + 1) a0 a1):=by
 intro a0 a1 k
 obtain ⟨ih0,ih1⟩:=madrigalref6_Auto.mono_l k
 unfold madrigalref6_Auto.f
 repeat' first|(with_reducible first|exact ih0 _ _ _ _|exact ih1 _ _ _ _ _ _|exact madrigalref6_clamped.mono _ _ _ _|exact LeO.refl _|exact LeO.none _|refine LeO.ite ?_ ?_|refine LeO.bind ?_ (fun _ => ?_))|exact ih0 _ _ _ _|exact ih1 _ _ _ _ _ _|exact madrigalref6_clamped.mono _ _ _ _|exact LeO.none _|refine LeO.ite ?_ ?_|refine LeO.bind ?_ (fun _ => ?_)
set_option maxHeartbeats 8000000 in
set_option maxRecDepth 100000 in
theorem madrigalref6_Auto.calls (k : Nat) (A0 : Option Addr) (c0 : Nat) (l0 : List Int) (a1 : Int) (r : List Int) (w : World) (hr0 : Kd.C (Kd.int .i64) w A0 l0.length l0) (hc0 : l0.length ≤ c0) (h : madrigalref6_Auto.f k l0 a1 = some r) :
  Calls Try.prog 17 #[.slice A0 l0.length c0,.int .i64 a1] w fun e w' => ∃ v0_ : Value,e = .returned (v0_) ∧ Kd.R (Kd.int .i64) 2 w' w.heap.size (fun _ => True) v0_ r ∧ Below w.heap.size w w':=by
 have HR0:=ak_ hr0
 have HC0:=ak_ hc0
 clear hr0 hc0
 have HB:=ak_ (Below.refl w.heap.size w)
 have H : ((madrigalref6_clamped.f k l0 (-32768) 32767).bind fun t446 => (madrigalref6_Auto.l0 k t446 a1 ([] : List Int) 0)) = some r:=h
 clear h
 replace H:=Option.bind_eq_some_iff.mp H
 obtain ⟨t446,A30,H⟩:=H
 (try dsimp only at H)
 have A3:=ak_ A30
 clear A30
 have H':=ak_ H
 clear H
 go_enter Try.func17,Try.ntmps17
 go_wp2_with (first|(go_at_call 31;(with_reducible refine (madrigalref6_clamped.calls k _ _ l0 (-32768) 32767 t446 _ ?side1 ?side2 A3.out).mono ?_);(case side1 => repeat (first|exact HR0.out|(with_reducible refine Kd.C_alloc ?_ _)|(with_reducible refine Kd.C_drewN ?_ _)|(with_reducible refine Kd.C_drew ?_)));(case side2 => exact HC0.out);rintro e w4 ⟨v447,rfl,ho0,hb⟩;have n0_:=ak_ (Kd.R_lower ho0 (below_size (by repeat (first|(with_reducible first|exact HB.out|apply ba_|apply bb_|apply bc_)|exact HB.out))));have n1_:=ak_ (below_step (by repeat (first|(with_reducible first|exact HB.out|apply ba_|apply bb_|apply bc_)|exact HB.out)) hb);clear HB;have HO448:=n0_;have HB:=n1_;clear n0_ n1_;(try clear hb);(try clear ho0)))
 repeat (go_quiet (first|(go_at_call 31;(with_reducible refine (madrigalref6_clamped.calls k _ _ l0 (-32768) 32767 t446 _ ?side1 ?side2 A3.out).mono ?_);(case side1 => repeat (first|exact HR0.out|(with_reducible refine Kd.C_alloc ?_ _)|(with_reducible refine Kd.C_drewN ?_ _)|(with_reducible refine Kd.C_drew ?_)));(case side2 => exact HC0.out);rintro e w4 ⟨v447,rfl,ho0,hb⟩;have n0_:=ak_ (Kd.R_lower ho0 (below_size (by repeat (first|(with_reducible first|exact HB.out|apply ba_|apply bb_|apply bc_)|exact HB.out))));have n1_:=ak_ (below_step (by repeat (first|(with_reducible first|exact HB.out|apply ba_|apply bb_|apply bc_)|exact HB.out)) hb);clear HB;have HO448:=n0_;have HB:=n1_;clear n0_ n1_;(try clear hb);(try clear ho0)));try go_wp2_with (first|(go_at_call 31;(with_reducible refine (madrigalref6_clamped.calls k _ _ l0 (-32768) 32767 t446 _ ?side1 ?side2 A3.out).mono ?_);(case side1 => repeat (first|exact HR0.out|(with_reducible refine Kd.C_alloc ?_ _)|(with_reducible refine Kd.C_drewN ?_ _)|(with_reducible refine Kd.C_drew ?_)));(case side2 => exact HC0.out);rintro e w4 ⟨v447,rfl,ho0,hb⟩;have n0_:=ak_ (Kd.R_lower ho0 (below_size (by repeat (first|(with_reducible first|exact HB.out|apply ba_|apply bb_|apply bc_)|exact HB.out))));have n1_:=ak_ (below_step (by repeat (first|(with_reducible first|exact HB.out|apply ba_|apply bb_|apply bc_)|exact HB.out)) hb);clear HB;have HO448:=n0_;have HB:=n1_;clear n0_ n1_;(try clear hb);(try clear ho0))))
 go_loopg [5,6] k (fun kq v5 v6 w' => ∃ (x5_1 : List Int) (x6_1 : Int),v6 = .int .i64 x6_1 ∧ Aside0 (madrigalref6_Auto.l0 kq t446 a1 x5_1 x6_1 = some r) ∧ Aside0 (kq ≤ k) ∧ Aside0 (Kd.R (Kd.int .i64) 2 w' w.heap.size (fun k_ => some k_ ≠ (v5 : Value).ownBlock) v447 t446) ∧ Aside0 (Kd.R (Kd.int .i64) 2 w' w.heap.size (fun k_ => some k_ ≠ (v447 : Value).ownBlock) v5 x5_1) ∧ Aside0 (Below w.heap.size w w'))
 case atStart => exact ⟨(([] : List Int)),(0),(by first|rfl|(simp;done)|(simp [*];done)),H',⟨Nat.le_refl _⟩,⟨by (with_reducible repeat (first|apply ra_|apply rb_|apply rc_));exact Kd.R_mono HO448.out (fun _ hk => (by simp [Value.ownBlock]))⟩,⟨by first|exact Kd.R_nil _ _ _ _ _|exact Kd.N_nil _ _ _ _ _|exact Kd.V_nil _ _ _ _ _|exact Kd.Q_nil _ _ _ _ _|exact Kd.S_nil _ _ _ _ _⟩,⟨by repeat (first|(with_reducible first|exact HB.out|apply ba_|apply bb_|apply bc_)|exact HB.out)⟩⟩
 case round =>
  clear H'
  try clear c1
  try clear p2
  obtain ⟨x5_1,x6_1,rfl,HA,HK1,HO_0,HO_5,HB⟩:=hrel
  (try simp only [i64_w,i32_w])
  cases gk with
  | zero => exact absurd HA.out (by simp [madrigalref6_Auto.l0])
  | succ k1 =>
   have H:=HA.out
   clear HA
   simp only [madrigalref6_Auto.l0] at H
   by_cases c5 : x6_1 ≤ a1
   ·rw [if_pos c5] at H
    have c5b0:=decide_eq_true c5
    clear c5
    have H':=ak_ H
    clear H
    go_wp2
    repeat (go_quiet (fail);try go_wp2)
    go_loopg [7,8] k1 (fun kq v7 v8 w' => ∃ (x7_2 : Int) (x8_2 : Int),v7 = .int .i64 x7_2 ∧ v8 = .int .i64 x8_2 ∧ Aside0 (madrigalref6_Auto.l1 kq t446 a1 x5_1 x6_1 x7_2 x8_2 = some r) ∧ Aside0 (kq ≤ k1) ∧ Aside0 (Kd.R (Kd.int .i64) 2 w' w.heap.size (fun k_ => some k_ ≠ (u5 : Value).ownBlock) v447 t446) ∧ Aside0 (Kd.R (Kd.int .i64) 2 w' w.heap.size (fun k_ => some k_ ≠ (v447 : Value).ownBlock) u5 x5_1) ∧ Aside0 (Below w.heap.size w w'))
    case atStart => exact ⟨(0),(x6_1),(by first|rfl|(simp;done)|(simp [*];done)),(by first|rfl|(simp;done)|(simp [*];done)),H',⟨Nat.le_refl _⟩,⟨by (with_reducible repeat (first|apply ra_|apply rb_|apply rc_));exact HO_0.out⟩,⟨by (with_reducible repeat (first|apply ra_|apply rb_|apply rc_));exact HO_5.out⟩,⟨by repeat (first|(with_reducible first|exact HB.out|apply ba_|apply bb_|apply bc_)|exact HB.out)⟩⟩
    case round =>
     clear H'
     try clear c1
     try clear p2
     try clear c5
     try clear c5b0
     try clear p2
     obtain ⟨x7_2,x8_2,rfl,rfl,HA,HK2,HO_0,HO_5,HB⟩:=hrel
     (try simp only [i64_w,i32_w])
     cases gk with
     | zero => exact absurd HA.out (by simp [madrigalref6_Auto.l1])
     | succ k2 =>
      have H:=HA.out
      clear HA
      simp only [madrigalref6_Auto.l1] at H
      by_cases c6 : x8_2 < (t446.length : Int)
      ·rw [if_pos c6] at H
       have c6b0:=decide_eq_true c6
       clear c6
       by_cases c7 : 0 ≤ x8_2
       ·rw [if_pos c7] at H
        have c7b0:=decide_eq_true c7
        clear c7
        obtain ⟨ji8,hji8⟩ : ∃ j_ : Int,(wrap64 (x8_2 - x6_1)) = j_:=⟨_,rfl⟩
        replace H : (if 0 ≤ (ji8) then (if (ji8) < (t446.length : Int) then (madrigalref6_Auto.l1 k2 t446 a1 x5_1 x6_1 (wrap64 (x7_2 + (wrap64 ((rd t446 x8_2) * (rd t446 (ji8)))))) (wrap64 (x8_2 + 1))) else (none)) else (none)) = some r:=by first|(rw [hji8] at H;exact H)|(simp only [hji8] at H ⊢;exact H)
        have hji8w : (IntKind.i64.wrap (x8_2 - x6_1)) = ji8:=(i64_w _).trans hji8
        by_cases c9 : 0 ≤ (ji8)
        ·rw [if_pos c9] at H
         have c9b0:=decide_eq_true c9
         clear c9
         by_cases c10 : (ji8) < (t446.length : Int)
         ·rw [if_pos c10] at H
          have c10b0:=decide_eq_true c10
          clear c10
          have H':=ak_ H
          clear H
          obtain ⟨Ao11,co11,eo11⟩:=Kd.R_slice HO_0.out
          subst eo11
          have p449 : 0 ≤ (x8_2 : Int):=of_decide_eq_true (by first|(with_reducible assumption)|assumption)
          have q449 : x8_2 < (t446.length : Int):=of_decide_eq_true (by first|(with_reducible assumption)|assumption)
          obtain ⟨ad449,e449,hx449_0⟩:=Kd.at_int (Kd.R_reads' HO_0.out).2.2 x8_2 p449 q449
          cases e449
          replace p449:=eq_true p449
          replace q449:=eq_true q449
          have p450 : 0 ≤ ((ji8) : Int):=of_decide_eq_true (by first|(with_reducible assumption)|assumption)
          have q450 : (ji8) < (t446.length : Int):=of_decide_eq_true (by first|(with_reducible assumption)|assumption)
          obtain ⟨ad450,e450,hx450_0⟩:=Kd.at_int (Kd.R_reads' HO_0.out).2.2 (ji8) p450 q450
          obtain rfl : ad449 = ad450:=(by injection e450)
          replace p450:=eq_true p450
          replace q450:=eq_true q450
          go_wp2
          repeat (go_quiet (fail);try go_wp2)
          go_roundg k2
          case measure => have:=HK1.out;have:=HK2.out;omega
          case rel => exact ⟨(wrap64 (x7_2 + (wrap64 ((rd t446 x8_2) * (rd t446 (ji8)))))),(wrap64 (x8_2 + 1)),(by first|rfl|(simp;done)|(simp only [← hji8] <;> (first|rfl|simp))|(simp [*];done)),(by first|rfl|(simp;done)|(simp [*];done)),H',⟨by have:=HK1.out;have:=HK2.out;omega⟩,⟨by (with_reducible repeat (first|apply ra_|apply rb_|apply rc_));exact HO_0.out⟩,⟨by (with_reducible repeat (first|apply ra_|apply rb_|apply rc_));exact HO_5.out⟩,⟨by repeat (first|(with_reducible first|exact HB.out|apply ba_|apply bb_|apply bc_)|exact HB.out)⟩⟩
         ·rw [if_neg c10] at H
          exact absurd H (by simp)
        ·rw [if_neg c9] at H
         exact absurd H (by simp)
       ·rw [if_neg c7] at H
        exact absurd H (by simp)
      ·rw [if_neg c6] at H
       have c6b0:=decide_eq_false c6
       clear c6
       by_cases c12 : x5_1.length < 17592186044416
       ·rw [if_pos c12] at H
        have LMc12:=ak_ c12
        clear c12
        obtain ⟨y451,hy451⟩ : ∃ y_ : List Int,y_ = (x5_1 ++ [x7_2]):=⟨_,rfl⟩
        replace H : (madrigalref6_Auto.l0 k2 t446 a1 y451 (wrap64 (x6_1 + 1))) = some r:=by first|(rw [hy451];with_reducible exact H)|(have H2_:=(Option.bind_some _ _).symm.trans H;rw [hy451];with_reducible exact H2_)|(have H2_:=(Option.bind_some _ _).symm.trans H;with_reducible exact H2_)|with_reducible exact H|(rw [hy451];exact H)|exact H
        have Ny451:=ak_ hy451
        clear hy451
        have H':=ak_ H
        clear H
        obtain ⟨Ao13,co13,eo13⟩:=Kd.R_slice HO_0.out
        subst eo13
        go_wp2_with (first|((with_reducible refine gate_builtin (b:=.append) (xs:=#[.tmp 36,.tmp 38]) rfl ?_);at_builtin;refine Kd.R_append (Kd.int .i64) (w0:=w) w.heap.size rfl (.tmp 36) (.tmp 38) 23 2 (.int .i64 0) 8 rfl Try.underlying23 info2 rfl (by decide) (by omega) u5 x5_1 x7_2 [.int .i64 x7_2] (fun k_ => some k_ ≠ (.slice Ao13 t446.length co13 : Value).ownBlock) (fun _ => False) rfl rfl ?aP (fun _ hk => hk.elim) ?aF ?aO ?aB ?aS ?aL ?_;(case aP => exact rfl);(case aB => exact (by repeat (first|(with_reducible first|exact HB.out|apply ba_|apply bb_|apply bc_)|exact HB.out)));(case aF => exact (fun k_ hk => Kd.fresh' (Kd.R_lt (by (with_reducible repeat (first|apply ra_|apply rb_|apply rc_));exact HO_0.out)) k_ hk));(case aO => exact (by (with_reducible repeat (first|apply ra_|apply rb_|apply rc_));exact HO_5.out));(case aS => exact (below_size (by repeat (first|(with_reducible first|exact HB.out|apply ba_|apply bb_|apply bc_)|exact HB.out))));(case aL => have:=LMc12.out;omega);intro v452 w14 ho hb hg hat;rw [← Ny451.out] at ho;have n0_:=ak_ (Kd.R_after (ok:=(fun _ => True)) (by (with_reducible repeat (first|apply ra_|apply rb_|apply rc_));exact Kd.R_mono HO_0.out (fun _ hk => ⟨trivial,hk⟩)) hg hat);have n1_:=ak_ (hb);have n2_:=ak_ (ho);clear HO_0;clear HB;clear HO_5;have HO_0:=n0_;have HB:=n1_;have HO453:=n2_;clear n0_ n1_ n2_;clear ho hb hg hat))
        repeat (go_quiet (first|((with_reducible refine gate_builtin (b:=.append) (xs:=#[.tmp 36,.tmp 38]) rfl ?_);at_builtin;refine Kd.R_append (Kd.int .i64) (w0:=w) w.heap.size rfl (.tmp 36) (.tmp 38) 23 2 (.int .i64 0) 8 rfl Try.underlying23 info2 rfl (by decide) (by omega) u5 x5_1 x7_2 [.int .i64 x7_2] (fun k_ => some k_ ≠ (.slice Ao13 t446.length co13 : Value).ownBlock) (fun _ => False) rfl rfl ?aP (fun _ hk => hk.elim) ?aF ?aO ?aB ?aS ?aL ?_;(case aP => exact rfl);(case aB => exact (by repeat (first|(with_reducible first|exact HB.out|apply ba_|apply bb_|apply bc_)|exact HB.out)));(case aF => exact (fun k_ hk => Kd.fresh' (Kd.R_lt (by (with_reducible repeat (first|apply ra_|apply rb_|apply rc_));exact HO_0.out)) k_ hk));(case aO => exact (by (with_reducible repeat (first|apply ra_|apply rb_|apply rc_));exact HO_5.out));(case aS => exact (below_size (by repeat (first|(with_reducible first|exact HB.out|apply ba_|apply bb_|apply bc_)|exact HB.out))));(case aL => have:=LMc12.out;omega);intro v452 w14 ho hb hg hat;rw [← Ny451.out] at ho;have n0_:=ak_ (Kd.R_after (ok:=(fun _ => True)) (by (with_reducible repeat (first|apply ra_|apply rb_|apply rc_));exact Kd.R_mono HO_0.out (fun _ hk => ⟨trivial,hk⟩)) hg hat);have n1_:=ak_ (hb);have n2_:=ak_ (ho);clear HO_0;clear HB;clear HO_5;have HO_0:=n0_;have HB:=n1_;have HO453:=n2_;clear n0_ n1_ n2_;clear ho hb hg hat));try go_wp2_with (first|((with_reducible refine gate_builtin (b:=.append) (xs:=#[.tmp 36,.tmp 38]) rfl ?_);at_builtin;refine Kd.R_append (Kd.int .i64) (w0:=w) w.heap.size rfl (.tmp 36) (.tmp 38) 23 2 (.int .i64 0) 8 rfl Try.underlying23 info2 rfl (by decide) (by omega) u5 x5_1 x7_2 [.int .i64 x7_2] (fun k_ => some k_ ≠ (.slice Ao13 t446.length co13 : Value).ownBlock) (fun _ => False) rfl rfl ?aP (fun _ hk => hk.elim) ?aF ?aO ?aB ?aS ?aL ?_;(case aP => exact rfl);(case aB => exact (by repeat (first|(with_reducible first|exact HB.out|apply ba_|apply bb_|apply bc_)|exact HB.out)));(case aF => exact (fun k_ hk => Kd.fresh' (Kd.R_lt (by (with_reducible repeat (first|apply ra_|apply rb_|apply rc_));exact HO_0.out)) k_ hk));(case aO => exact (by (with_reducible repeat (first|apply ra_|apply rb_|apply rc_));exact HO_5.out));(case aS => exact (below_size (by repeat (first|(with_reducible first|exact HB.out|apply ba_|apply bb_|apply bc_)|exact HB.out))));(case aL => have:=LMc12.out;omega);intro v452 w14 ho hb hg hat;rw [← Ny451.out] at ho;have n0_:=ak_ (Kd.R_after (ok:=(fun _ => True)) (by (with_reducible repeat (first|apply ra_|apply rb_|apply rc_));exact Kd.R_mono HO_0.out (fun _ hk => ⟨trivial,hk⟩)) hg hat);have n1_:=ak_ (hb);have n2_:=ak_ (ho);clear HO_0;clear HB;clear HO_5;have HO_0:=n0_;have HB:=n1_;have HO453:=n2_;clear n0_ n1_ n2_;clear ho hb hg hat)))
        go_roundg k2
        case measure => have:=HK1.out;have:=HK2.out;omega
        case rel => exact ⟨(y451),(wrap64 (x6_1 + 1)),(by first|rfl|(simp;done)|(simp [*];done)),H',⟨by have:=HK1.out;have:=HK2.out;omega⟩,⟨by (with_reducible repeat (first|apply ra_|apply rb_|apply rc_));exact Kd.R_mono HO_0.out (fun _ hk => hk.2)⟩,⟨by (with_reducible repeat (first|apply ra_|apply rb_|apply rc_));exact HO453.out⟩,⟨by repeat (first|(with_reducible first|exact HB.out|apply ba_|apply bb_|apply bc_)|exact HB.out)⟩⟩
       ·rw [if_neg c12] at H
        exact absurd H (by simp)
   ·rw [if_neg c5] at H
    have c5b0:=decide_eq_false c5
    clear c5
    obtain rfl:=Option.some.inj H
    go_wp2
    repeat (go_quiet (fail);try go_wp2)
    go_ret
    exact ⟨_,by first|rfl|(simp [errW_none,errW_some] <;> rfl)|(simp [*,errW_none,errW_some] <;> rfl),by (with_reducible repeat (first|apply ra_|apply rb_|apply rc_));exact Kd.R_mono HO_5.out (fun _ hk => trivial),by repeat (first|(with_reducible first|exact HB.out|apply ba_|apply bb_|apply bc_)|exact HB.out)⟩

end Go.Proofs.Ytllglpcpjeggcaa.P
