/- The machine side of the laws of one chapter, without conditions: each call of a Go function comes to what the Lean function of its name answers. Written for this claim by a program of the prover. -/
import Derived.Test.YtllglpcpjeggcaaPx0
namespace Go.Proofs.Ytllglpcpjeggcaa.P
open Go.RowKit Go.Proofs.YtllglpcpjeggcaaW.PrintWords Go.Proofs.YtllglpcpjeggcaaW.PrintLast Go.Proofs.YtllglpcpjeggcaaW.PrintMore
attribute [local go_sem] max2_int min2_int max_two min_two max_three min_three max_four min_four   -- for this text's walks alone
set_option linter.unusedVariables false
set_option linter.unusedSimpArgs false

/-! ### madrigalref1_Lsf: function 52 -/
mutual
def madrigalref1_Lsf.j0 : Nat → Int → Int → Bool → Option (List Int)
 | 0,_,_,_ => none
 | k + 1,x0,x1,x21 => if x21 = true then (some ([] : List Int)) else (if x0 = 16 then (madrigalref1_Lsf.j1 k x0 x1 14) else (madrigalref1_Lsf.j1 k x0 x1 24))
def madrigalref1_Lsf.j1 : Nat → Int → Int → Int → Option (List Int)
 | 0,_,_,_ => none
 | k + 1,x0,x1,x5 => madrigalref1_Lsf.l0 k x0 x1 x5 ([] : List Int) 0
def madrigalref1_Lsf.l0 : Nat → Int → Int → Int → List Int → Int → Option (List Int)
 | 0,_,_,_,_,_ => none
 | k + 1,x0,x1,x5,x6,x7 => if x7 < x0 then (if (wrap64 (x0 + 1)) = 0 then (none) else (if x6.length < 17592186044416 then (madrigalref1_Lsf.l0 k x0 x1 x5 (x6 ++ [wrap64 ((wrap64 (Int.tdiv (wrap64 (32768 * (wrap64 (x7 + 1)))) (wrap64 (x0 + 1)))) + (wrap64 (x5 * (wrap64 ((Int.tmod (wrap64 ((wrap64 (37 * x1)) + (wrap64 (53 * x7)))) 64) - 32)))))]) (wrap64 (x7 + 1))) else (none))) else (some x6)
end
def madrigalref1_Lsf.f (k : Nat) (a0 : Int) (a1 : Int) : Option (List Int):=if a0 = 10 then (if a1 < 0 then (madrigalref1_Lsf.j0 k a0 a1 true) else (madrigalref1_Lsf.j0 k a0 a1 (decide (a1 > 15)))) else (if a0 = 16 then (if a1 < 0 then (madrigalref1_Lsf.j0 k a0 a1 true) else (madrigalref1_Lsf.j0 k a0 a1 (decide (a1 > 15)))) else (madrigalref1_Lsf.j0 k a0 a1 true))
theorem madrigalref1_Lsf.mono_l : ∀ k,(∀ y0 y1 y2,LeO (madrigalref1_Lsf.j0 k y0 y1 y2) (madrigalref1_Lsf.j0 (k + 1) y0 y1 y2)) ∧ (∀ y0 y1 y2,LeO (madrigalref1_Lsf.j1 k y0 y1 y2) (madrigalref1_Lsf.j1 (k + 1) y0 y1 y2)) ∧ (∀ y0 y1 y2 y3 y4,LeO (madrigalref1_Lsf.l0 k y0 y1 y2 y3 y4) (madrigalref1_Lsf.l0 (k + 1) y0 y1 y2 y3 y4))
 | 0 => ⟨fun _ _ _ r h => by simp [madrigalref1_Lsf.j0] at h,fun _ _ _ r h => by simp [madrigalref1_Lsf.j1] at h,fun _ _ _ _ _ r h => by simp [madrigalref1_Lsf.l0] at h⟩
 | k + 1 => by
  obtain ⟨ih0,ih1,ih2⟩:=madrigalref1_Lsf.mono_l k
  refine ⟨?_,?_,?_⟩
  all_goals (intros;first|unfold madrigalref1_Lsf.j0|unfold madrigalref1_Lsf.j1|unfold madrigalref1_Lsf.l0)
  all_goals (repeat' first|(with_reducible first|exact ih0 _ _ _|exact ih1 _ _ _|exact ih2 _ _ _ _ _|exact LeO.refl _|exact LeO.none _|refine LeO.ite ?_ ?_|refine LeO.bind ?_ (fun _ => ?_))|exact ih0 _ _ _|exact ih1 _ _ _|exact ih2 _ _ _ _ _|exact LeO.none _|refine LeO.ite ?_ ?_|refine LeO.bind ?_ (fun _ => ?_))
theorem madrigalref1_Lsf.mono : ∀ a0 a1 k,LeO (madrigalref1_Lsf.f k a0 a1) (madrigalref1_Lsf.f (k + 1) a0 a1):=by
 intro a0 a1 k
 obtain ⟨ih0,ih1,ih2⟩:=madrigalref1_Lsf.mono_l k
 unfold madrigalref1_Lsf.f
 repeat' first|(with_reducible first|exact ih0 _ _ _|exact ih1 _ _ _|exact ih2 _ _ _ _ _|exact LeO.refl _|exact LeO.none _|refine LeO.ite ?_ ?_|refine LeO.bind ?_ (fun _ => ?_))|exact ih0 _ _ _|exact ih1 _ _ _|exact ih2 _ _ _ _ _|exact LeO.none _|refine LeO.ite ?_ ?_|refine LeO.bind ?_ (fun _ => ?_)
set_option maxHeartbeats 8000000 in
set_option maxRecDepth 100000 in
theorem madrigalref1_Lsf.calls (k : Nat) (a0 : Int) (a1 : Int) (r : List Int) (w : World) (h : madrigalref1_Lsf.f k a0 a1 = some r) :
  Calls Try.prog 52 #[.int .i64 a0,.int .i64 a1] w fun e w' => ∃ v0_ : Value,e = .returned (v0_) ∧ Kd.R (Kd.int .i64) 2 w' w.heap.size (fun _ => True) v0_ r ∧ Below w.heap.size w w':=by
 have HB:=ak_ (Below.refl w.heap.size w)
 have H : (if a0 = 10 then (if a1 < 0 then (madrigalref1_Lsf.j0 k a0 a1 true) else (madrigalref1_Lsf.j0 k a0 a1 (decide (a1 > 15)))) else (if a0 = 16 then (if a1 < 0 then (madrigalref1_Lsf.j0 k a0 a1 true) else (madrigalref1_Lsf.j0 k a0 a1 (decide (a1 > 15)))) else (madrigalref1_Lsf.j0 k a0 a1 true))) = some r:=h
 clear h
 have HC3:=ak_ H
 clear H
 go_enter Try.func52,Try.ntmps52
 go_upto_region 1 with (fail)
 go_cut [21] (fun v21 wc => ∃ (kq : Nat) (x21_2 : Bool),v21 = .bool x21_2 ∧ Aside0 (madrigalref1_Lsf.j0 kq a0 a1 x21_2 = some r) ∧ Aside0 (kq ≤ k) ∧ Aside0 (Below w.heap.size w wc))
 case first =>
  have H:=HC3.out
  clear HC3
  by_cases c4 : a0 = 10
  ·rw [if_pos c4] at H
   have c4b0 : (a0 == 10) = true:=beq_iff_eq.mpr c4
   have c4b1 : (a0 != 10) = false:=bne_eq_false_iff_eq.mpr c4
   clear c4
   (first|rw [c4b0]|(simp only [i64_w,i32_w];rw [c4b0])|skip)
   by_cases c5 : a1 < 0
   ·rw [if_pos c5] at H
    have c5b0:=decide_eq_true c5
    clear c5
    have H':=ak_ H
    clear H
    go_wp2
    refine Met.intro ?_
    go_step
    (repeat apply Exists.intro)
    first|refine ⟨?rel53,rfl⟩|(refine ⟨?rel53,?st53⟩;case' st53 => (first|rw [c5b0]|simp only [c5b0]))
    case rel53 => exact ⟨_,(true),(by first|rfl|(simp;done)|(simp [*];done)),H',⟨by first|omega|exact Nat.le_refl _⟩,⟨by repeat (first|(with_reducible first|exact HB.out|apply ba_|apply bb_|apply bc_)|exact HB.out)⟩⟩
   ·rw [if_neg c5] at H
    have c5b0:=decide_eq_false c5
    clear c5
    have H':=ak_ H
    clear H
    go_wp2
    refine Met.intro ?_
    go_step
    (repeat apply Exists.intro)
    first|refine ⟨?rel61,rfl⟩|(refine ⟨?rel61,?st61⟩;case' st61 => (first|rw [c5b0]|simp only [c5b0]))
    case rel61 => exact ⟨_,(decide (a1 > 15)),(by first|rfl|(simp;done)|(simp [*];done)),H',⟨by first|omega|exact Nat.le_refl _⟩,⟨by repeat (first|(with_reducible first|exact HB.out|apply ba_|apply bb_|apply bc_)|exact HB.out)⟩⟩
  ·rw [if_neg c4] at H
   have c4b0 : (a0 == 10) = false:=beq_eq_false_iff_ne.mpr c4
   have c4b1 : (a0 != 10) = true:=bne_iff_ne.mpr c4
   (first|rw [c4b0]|(simp only [i64_w,i32_w];rw [c4b0])|skip)
   by_cases c6 : a0 = 16
   ·rw [if_pos c6] at H
    have c6b0 : (a0 == 16) = true:=beq_iff_eq.mpr c6
    have c6b1 : (a0 != 16) = false:=bne_eq_false_iff_eq.mpr c6
    clear c6
    by_cases c7 : a1 < 0
    ·rw [if_pos c7] at H
     have c7b0:=decide_eq_true c7
     clear c7
     have H':=ak_ H
     clear H
     go_wp2
     refine Met.intro ?_
     go_step
     (repeat apply Exists.intro)
     first|refine ⟨?rel79,rfl⟩|(refine ⟨?rel79,?st79⟩;case' st79 => (first|rw [c7b0]|simp only [c7b0]))
     case rel79 => exact ⟨_,(true),(by first|rfl|(simp;done)|(simp [*];done)),H',⟨by first|omega|exact Nat.le_refl _⟩,⟨by repeat (first|(with_reducible first|exact HB.out|apply ba_|apply bb_|apply bc_)|exact HB.out)⟩⟩
    ·rw [if_neg c7] at H
     have c7b0:=decide_eq_false c7
     clear c7
     have H':=ak_ H
     clear H
     go_wp2
     refine Met.intro ?_
     go_step
     (repeat apply Exists.intro)
     first|refine ⟨?rel87,rfl⟩|(refine ⟨?rel87,?st87⟩;case' st87 => (first|rw [c7b0]|simp only [c7b0]))
     case rel87 => exact ⟨_,(decide (a1 > 15)),(by first|rfl|(simp;done)|(simp [*];done)),H',⟨by first|omega|exact Nat.le_refl _⟩,⟨by repeat (first|(with_reducible first|exact HB.out|apply ba_|apply bb_|apply bc_)|exact HB.out)⟩⟩
   ·rw [if_neg c6] at H
    have c6b0 : (a0 == 16) = false:=beq_eq_false_iff_ne.mpr c6
    have c6b1 : (a0 != 16) = true:=bne_iff_ne.mpr c6
    have H':=ak_ H
    clear H
    go_wp2
    go_meet
    case rel => exact ⟨_,(true),(by first|rfl|(simp;done)|(simp [*];done)),H',⟨by first|omega|exact Nat.le_refl _⟩,⟨by repeat (first|(with_reducible first|exact HB.out|apply ba_|apply bb_|apply bc_)|exact HB.out)⟩⟩
 case rest =>
  clear HC3
  try clear p2
  try clear c4
  try clear c4b0
  try clear c4b1
  try clear c5
  try clear c5b0
  try clear c6
  try clear c6b0
  try clear c6b1
  try clear c7
  try clear c7b0
  obtain ⟨kq,x21_2,rfl,HA,HJ2,HB⟩:=hcut
  (try simp only [i64_w,i32_w])
  cases kq with
  | zero => exact absurd HA.out (by simp [madrigalref1_Lsf.j0])
  | succ kj2 =>
   have H:=HA.out
   clear HA
   simp only [madrigalref1_Lsf.j0] at H
   by_cases c8 : x21_2 = true
   ·subst c8
    have H1 : (some ([] : List Int)) = some r:=by rw [if_pos rfl] at H;exact H
    clear H
    have H:=H1
    clear H1
    obtain rfl:=Option.some.inj H
    go_wp2
    go_ret
    exact ⟨_,by first|rfl|(simp [errW_none,errW_some] <;> rfl)|(simp [*,errW_none,errW_some] <;> rfl),by first|exact Kd.R_nil _ _ _ _ _|exact Kd.N_nil _ _ _ _ _|exact Kd.V_nil _ _ _ _ _|exact Kd.Q_nil _ _ _ _ _|exact Kd.S_nil _ _ _ _ _,by repeat (first|(with_reducible first|exact HB.out|apply ba_|apply bb_|apply bc_)|exact HB.out)⟩
   ·replace c8:=Bool.eq_false_iff.mpr c8
    subst c8
    have H1 : (if a0 = 16 then (madrigalref1_Lsf.j1 kj2 a0 a1 14) else (madrigalref1_Lsf.j1 kj2 a0 a1 24)) = some r:=by rw [if_neg (show ¬ (false = true) by decide)] at H;exact H
    clear H
    have H:=H1
    clear H1
    have HC9:=ak_ H
    clear H
    go_upto_if 23 with (fail)
    go_cut [5] (fun v5 wc => ∃ (kq : Nat) (x5_8 : Int),v5 = .int .i64 x5_8 ∧ Aside0 (madrigalref1_Lsf.j1 kq a0 a1 x5_8 = some r) ∧ Aside0 (kq ≤ kj2) ∧ Aside0 (Below w.heap.size w wc))
    case first =>
     have H:=HC9.out
     clear HC9
     by_cases c10 : a0 = 16
     ·rw [if_pos c10] at H
      have c10b0 : (a0 == 16) = true:=beq_iff_eq.mpr c10
      have c10b1 : (a0 != 16) = false:=bne_eq_false_iff_eq.mpr c10
      clear c10
      (first|rw [c10b0]|(simp only [i64_w,i32_w];rw [c10b0])|skip)
      have H':=ak_ H
      clear H
      go_wp2
      go_meet
      case rel => exact ⟨_,(14),(by first|rfl|(simp;done)|(simp [*];done)),H',⟨by have:=HJ2.out;first|omega|exact Nat.le_refl _⟩,⟨by repeat (first|(with_reducible first|exact HB.out|apply ba_|apply bb_|apply bc_)|exact HB.out)⟩⟩
     ·rw [if_neg c10] at H
      have c10b0 : (a0 == 16) = false:=beq_eq_false_iff_ne.mpr c10
      have c10b1 : (a0 != 16) = true:=bne_iff_ne.mpr c10
      (first|rw [c10b0]|(simp only [i64_w,i32_w];rw [c10b0])|skip)
      have H':=ak_ H
      clear H
      go_wp2
      go_meet
      case rel => exact ⟨_,(24),(by first|rfl|(simp;done)|(simp [*];done)),H',⟨by have:=HJ2.out;first|omega|exact Nat.le_refl _⟩,⟨by repeat (first|(with_reducible first|exact HB.out|apply ba_|apply bb_|apply bc_)|exact HB.out)⟩⟩
    case rest =>
     clear HC9
     try clear c1
     try clear p2
     try clear c4
     try clear c4b0
     try clear c4b1
     try clear c5
     try clear c5b0
     try clear c6
     try clear c6b0
     try clear c6b1
     try clear c7
     try clear c7b0
     try clear c8
     try clear c10
     try clear c10b0
     try clear c10b1
     try clear p2
     obtain ⟨kq,x5_8,rfl,HA,HJ8,HB⟩:=hcut
     (try simp only [i64_w,i32_w])
     cases kq with
     | zero => exact absurd HA.out (by simp [madrigalref1_Lsf.j1])
     | succ kj8 =>
      have H:=HA.out
      clear HA
      simp only [madrigalref1_Lsf.j1] at H
      have H':=ak_ H
      clear H
      go_wp2
      go_loopg [6,7] kj8 (fun kq v6 v7 w' => ∃ (x6_3 : List Int) (x7_3 : Int),v7 = .int .i64 x7_3 ∧ Aside0 (madrigalref1_Lsf.l0 kq a0 a1 x5_8 x6_3 x7_3 = some r) ∧ Aside0 (kq ≤ kj8) ∧ Aside0 (Kd.R (Kd.int .i64) 2 w' w.heap.size (fun _ => True) v6 x6_3) ∧ Aside0 (Below w.heap.size w w'))
      case atStart => exact ⟨(([] : List Int)),(0),(by first|rfl|(simp;done)|(simp [*];done)),H',⟨Nat.le_refl _⟩,⟨by first|exact Kd.R_nil _ _ _ _ _|exact Kd.N_nil _ _ _ _ _|exact Kd.V_nil _ _ _ _ _|exact Kd.Q_nil _ _ _ _ _|exact Kd.S_nil _ _ _ _ _⟩,⟨by repeat (first|(with_reducible first|exact HB.out|apply ba_|apply bb_|apply bc_)|exact HB.out)⟩⟩
      case round =>
       clear H'
       try clear c1
       try clear p2
       try clear c4
       try clear c4b0
       try clear c4b1
       try clear c5
       try clear c5b0
       try clear c6
       try clear c6b0
       try clear c6b1
       try clear c7
       try clear c7b0
       try clear c8
       try clear c10
       try clear c10b0
       try clear c10b1
       try clear p2
       obtain ⟨x6_3,x7_3,rfl,HA,HK3,HO_6,HB⟩:=hrel
       (try simp only [i64_w,i32_w])
       cases gk with
       | zero => exact absurd HA.out (by simp [madrigalref1_Lsf.l0])
       | succ k3 =>
        have H:=HA.out
        clear HA
        simp only [madrigalref1_Lsf.l0] at H
        by_cases c11 : x7_3 < a0
        ·rw [if_pos c11] at H
         have c11b0:=decide_eq_true c11
         clear c11
         by_cases c12 : (wrap64 (a0 + 1)) = 0
         ·rw [if_pos c12] at H
          exact absurd H (by simp)
         ·rw [if_neg c12] at H
          have c12b0 : ((wrap64 (a0 + 1)) == 0) = false:=beq_eq_false_iff_ne.mpr c12
          have c12b1 : ((wrap64 (a0 + 1)) != 0) = true:=bne_iff_ne.mpr c12
          by_cases c13 : x6_3.length < 17592186044416
          ·rw [if_pos c13] at H
           have LMc13:=ak_ c13
           clear c13
           obtain ⟨y669,hy669⟩ : ∃ y_ : List Int,y_ = (x6_3 ++ [wrap64 ((wrap64 (Int.tdiv (wrap64 (32768 * (wrap64 (x7_3 + 1)))) (wrap64 (a0 + 1)))) + (wrap64 (x5_8 * (wrap64 ((Int.tmod (wrap64 ((wrap64 (37 * a1)) + (wrap64 (53 * x7_3)))) 64) - 32)))))]):=⟨_,rfl⟩
           replace H : (madrigalref1_Lsf.l0 k3 a0 a1 x5_8 y669 (wrap64 (x7_3 + 1))) = some r:=by first|(rw [hy669];with_reducible exact H)|(have H2_:=(Option.bind_some _ _).symm.trans H;rw [hy669];with_reducible exact H2_)|(have H2_:=(Option.bind_some _ _).symm.trans H;with_reducible exact H2_)|with_reducible exact H|(rw [hy669];exact H)|exact H
           have Ny669:=ak_ hy669
           clear hy669
           have H':=ak_ H
           clear H
           go_wp2_with (first|((with_reducible refine gate_builtin (b:=.append) (xs:=#[.tmp 29,.tmp 46]) rfl ?_);at_builtin;refine Kd.R_append (Kd.int .i64) (w0:=w) w.heap.size rfl (.tmp 29) (.tmp 46) 23 2 (.int .i64 0) 8 rfl Try.underlying23 info2 rfl (by decide) (by omega) u6 x6_3 (wrap64 ((wrap64 (Int.tdiv (wrap64 (32768 * (wrap64 (x7_3 + 1)))) (wrap64 (a0 + 1)))) + (wrap64 (x5_8 * (wrap64 ((Int.tmod (wrap64 ((wrap64 (37 * a1)) + (wrap64 (53 * x7_3)))) 64) - 32)))))) [.int .i64 (wrap64 ((wrap64 (Int.tdiv (wrap64 (32768 * (wrap64 (x7_3 + 1)))) (wrap64 (a0 + 1)))) + (wrap64 (x5_8 * (wrap64 ((Int.tmod (wrap64 ((wrap64 (37 * a1)) + (wrap64 (53 * x7_3)))) 64) - 32))))))] (fun _ => True) (fun _ => False) rfl rfl ?aP (fun _ hk => hk.elim) ?aF ?aO ?aB ?aS ?aL ?_;(case aP => exact rfl);(case aB => exact (by repeat (first|(with_reducible first|exact HB.out|apply ba_|apply bb_|apply bc_)|exact HB.out)));(case aF => exact (fun _ _ => trivial));(case aO => exact (by (with_reducible repeat (first|apply ra_|apply rb_|apply rc_));exact HO_6.out));(case aS => exact (below_size (by repeat (first|(with_reducible first|exact HB.out|apply ba_|apply bb_|apply bc_)|exact HB.out))));(case aL => have:=LMc13.out;omega);intro v670 w14 ho hb hg hat;rw [← Ny669.out] at ho;have n0_:=ak_ (hb);have n1_:=ak_ (ho);clear HB;clear HO_6;have HB:=n0_;have HO671:=n1_;clear n0_ n1_;clear ho hb hg hat))
           go_roundg k3
           case measure => have:=HJ2.out;have:=HJ8.out;have:=HK3.out;omega
           case rel => exact ⟨(y669),(wrap64 (x7_3 + 1)),(by first|rfl|(simp;done)|(simp [*];done)),H',⟨by have:=HJ2.out;have:=HJ8.out;have:=HK3.out;omega⟩,⟨by (with_reducible repeat (first|apply ra_|apply rb_|apply rc_));exact HO671.out⟩,⟨by repeat (first|(with_reducible first|exact HB.out|apply ba_|apply bb_|apply bc_)|exact HB.out)⟩⟩
          ·rw [if_neg c13] at H
           exact absurd H (by simp)
        ·rw [if_neg c11] at H
         have c11b0:=decide_eq_false c11
         clear c11
         obtain rfl:=Option.some.inj H
         go_wp2
         go_ret
         exact ⟨_,by first|rfl|(simp [errW_none,errW_some] <;> rfl)|(simp [*,errW_none,errW_some] <;> rfl),by (with_reducible repeat (first|apply ra_|apply rb_|apply rc_));exact HO_6.out,by repeat (first|(with_reducible first|exact HB.out|apply ba_|apply bb_|apply bc_)|exact HB.out)⟩

end Go.Proofs.Ytllglpcpjeggcaa.P
