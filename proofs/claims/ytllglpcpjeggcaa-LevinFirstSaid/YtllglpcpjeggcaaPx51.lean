/- The machine side of the laws of one chapter, without conditions: each call of a Go function comes to what the Lean function of its name answers. Written for this claim by a program of the prover. -/
import Derived.Test.YtllglpcpjeggcaaPx0
import Derived.Test.YtllglpcpjeggcaaPx3
import Derived.Test.YtllglpcpjeggcaaPx10
import Derived.Test.YtllglpcpjeggcaaPx25
namespace Go.Proofs.Ytllglpcpjeggcaa.P
open Go.RowKit Go.Proofs.YtllglpcpjeggcaaW.PrintWords Go.Proofs.YtllglpcpjeggcaaW.PrintLast Go.Proofs.YtllglpcpjeggcaaW.PrintMore
attribute [local go_sem] max2_int min2_int max_two min_two max_three min_three max_four min_four   -- for this text's walks alone
set_option linter.unusedVariables false
set_option linter.unusedSimpArgs false

/-! ### madrigallaw12_LevinFirst: function 6 -/
mutual
def madrigallaw12_LevinFirst.j0 : Nat → Int → Int → Bool → Option (Bool)
 | 0,_,_,_ => none
 | k + 1,x0,x1,x28 => if x28 = true then (some true) else (madrigallaw12_LevinFirst.l0 k x0 x1 30000 ([] : List Int) 0)
def madrigallaw12_LevinFirst.l0 : Nat → Int → Int → Int → List Int → Int → Option (Bool)
 | 0,_,_,_,_,_ => none
 | k + 1,x0,x1,x5,x6,x7 => if x7 < x1 then (if x6.length < 17592186044416 then (madrigallaw12_LevinFirst.l0 k x0 x1 (wrap64 (Int.tdiv (wrap64 (x5 * x0)) 4096)) (x6 ++ [x5]) (wrap64 (x7 + 1))) else (none)) else ((levin_Auto.f k x6 1).bind fun bt721 => ((levin_Solve.f k bt721.1).bind fun bt725 => (if bt721.2 = 0 then (if bt725.2 = 0 then (if (bt725.1.length : Int) = 1 then (if 0 < (bt725.1.length : Int) then (if (wrap64 ((rd bt725.1 0) - x0)) ≤ 40 then (some (decide ((wrap64 ((rd bt725.1 0) - x0)) ≥ (-40)))) else (none)) else (none)) else (none)) else (none)) else (none))))
end
def madrigallaw12_LevinFirst.f (k : Nat) (a0 : Int) (a1 : Int) : Option (Bool):=(madrigallaw12_awake.f k).bind fun t717 => (if t717 = true then (if a0 < (-3686) then (madrigallaw12_LevinFirst.j0 k a0 a1 true) else (if a0 > 3686 then (madrigallaw12_LevinFirst.j0 k a0 a1 true) else (if a1 < 200 then (madrigallaw12_LevinFirst.j0 k a0 a1 true) else (madrigallaw12_LevinFirst.j0 k a0 a1 (decide (a1 > 400)))))) else (none))
theorem madrigallaw12_LevinFirst.mono_l : ∀ k,(∀ y0 y1 y2,LeO (madrigallaw12_LevinFirst.j0 k y0 y1 y2) (madrigallaw12_LevinFirst.j0 (k + 1) y0 y1 y2)) ∧ (∀ y0 y1 y2 y3 y4,LeO (madrigallaw12_LevinFirst.l0 k y0 y1 y2 y3 y4) (madrigallaw12_LevinFirst.l0 (k + 1) y0 y1 y2 y3 y4))
 | 0 => ⟨fun _ _ _ r h => by simp [madrigallaw12_LevinFirst.j0] at h,fun _ _ _ _ _ r h => by simp [madrigallaw12_LevinFirst.l0] at h⟩
 | k + 1 => by
  obtain ⟨ih0,ih1⟩:=madrigallaw12_LevinFirst.mono_l k
  refine ⟨?_,?_⟩
  all_goals (intros;first|unfold madrigallaw12_LevinFirst.j0|unfold madrigallaw12_LevinFirst.l0)
  all_goals (repeat' first|(with_reducible first|exact ih0 _ _ _|exact ih1 _ _ _ _ _|exact levin_Auto.mono _ _ _|exact levin_Solve.mono _ _|exact madrigallaw12_awake.mono _|exact LeO.refl _|exact LeO.none _|refine LeO.ite ?_ ?_|refine LeO.bind ?_ (fun _ => ?_))|exact ih0 _ _ _|exact ih1 _ _ _ _ _|exact levin_Auto.mono _ _ _|exact levin_Solve.mono _ _|exact madrigallaw12_awake.mono _|exact LeO.none _|refine LeO.ite ?_ ?_|refine LeO.bind ?_ (fun _ => ?_))
theorem madrigallaw12_LevinFirst.mono : ∀ a0 a1 k,LeO (madrigallaw12_LevinFirst.f k a0 a1) (madrigallaw12_LevinFirst.f (k + 1) a0 a1):=by
 intro a0 a1 k
 obtain ⟨ih0,ih1⟩:=madrigallaw12_LevinFirst.mono_l k
 unfold madrigallaw12_LevinFirst.f
 repeat' first|(with_reducible first|exact ih0 _ _ _|exact ih1 _ _ _ _ _|exact levin_Auto.mono _ _ _|exact levin_Solve.mono _ _|exact madrigallaw12_awake.mono _|exact LeO.refl _|exact LeO.none _|refine LeO.ite ?_ ?_|refine LeO.bind ?_ (fun _ => ?_))|exact ih0 _ _ _|exact ih1 _ _ _ _ _|exact levin_Auto.mono _ _ _|exact levin_Solve.mono _ _|exact madrigallaw12_awake.mono _|exact LeO.none _|refine LeO.ite ?_ ?_|refine LeO.bind ?_ (fun _ => ?_)
set_option maxHeartbeats 8000000 in
set_option maxRecDepth 100000 in
theorem madrigallaw12_LevinFirst.calls (k : Nat) (a0 : Int) (a1 : Int) (r : Bool) (w : World) (h : madrigallaw12_LevinFirst.f k a0 a1 = some r) :
  Calls Try.prog 6 #[.int .i64 a0,.int .i64 a1] w fun e w' => e = .returned (.bool r) ∧ Below w.heap.size w w':=by
 have HB:=ak_ (Below.refl w.heap.size w)
 have H : ((madrigallaw12_awake.f k).bind fun t717 => (if t717 = true then (if a0 < (-3686) then (madrigallaw12_LevinFirst.j0 k a0 a1 true) else (if a0 > 3686 then (madrigallaw12_LevinFirst.j0 k a0 a1 true) else (if a1 < 200 then (madrigallaw12_LevinFirst.j0 k a0 a1 true) else (madrigallaw12_LevinFirst.j0 k a0 a1 (decide (a1 > 400)))))) else (none))) = some r:=h
 clear h
 replace H:=Option.bind_eq_some_iff.mp H
 obtain ⟨t717,A30,H⟩:=H
 (try dsimp only at H)
 have A3:=ak_ A30
 clear A30
 by_cases c4 : t717 = true
 ·subst c4
  have H1 : (if a0 < (-3686) then (madrigallaw12_LevinFirst.j0 k a0 a1 true) else (if a0 > 3686 then (madrigallaw12_LevinFirst.j0 k a0 a1 true) else (if a1 < 200 then (madrigallaw12_LevinFirst.j0 k a0 a1 true) else (madrigallaw12_LevinFirst.j0 k a0 a1 (decide (a1 > 400)))))) = some r:=by rw [if_pos rfl] at H;exact H
  clear H
  have H:=H1
  clear H1
  have HC5:=ak_ H
  clear H
  go_enter Try.func6,Try.ntmps6
  go_upto_region 3 with (first|((with_reducible refine gate_callee (f:=10) rfl ?_);refine goesL_ (some 13) rfl rfl Try.func10 (by kernel_rfl) rfl #[] rfl (by (try simp only [List.map_toArray,List.map_cons,List.map_nil]);first|done|rfl|(simp only [List.length_drop,List.length_take];rfl)) ?_;(with_reducible refine (madrigallaw12_awake.calls k  true _ A3.out).mono ?_);rintro e w6 ⟨rfl,hb⟩;refine ⟨_,rfl,?_⟩;have n0_:=ak_ (below_step (by repeat (first|(with_reducible first|exact HB.out|apply ba_|apply bb_|apply bc_)|exact HB.out)) hb);clear HB;have HB:=n0_;clear n0_;(try clear hb)))
  (try simp only [Act.put,List.setIfInBounds_toArray,List.set_cons_zero,List.set_cons_succ])
  go_cut [28] (fun v28 wc => ∃ (kq : Nat) (x28_4 : Bool),v28 = .bool x28_4 ∧ Aside0 (madrigallaw12_LevinFirst.j0 kq a0 a1 x28_4 = some r) ∧ Aside0 (kq ≤ k) ∧ Aside0 (Below w.heap.size w wc))
  case first =>
   have H:=HC5.out
   clear HC5
   by_cases c7 : a0 < (-3686)
   ·rw [if_pos c7] at H
    have c7b0:=decide_eq_true c7
    clear c7
    (first|rw [c7b0]|(simp only [i64_w,i32_w];rw [c7b0])|skip)
    have H':=ak_ H
    clear H
    go_wp2
    refine Met.intro ?_
    go_step
    (repeat apply Exists.intro)
    first|refine ⟨?rel57,rfl⟩|(refine ⟨?rel57,?st57⟩;case' st57 => (first|rw [c7b0]|simp only [c7b0]))
    case rel57 => exact ⟨_,(true),(by first|rfl|(simp;done)|(simp [*];done)),H',⟨by first|omega|exact Nat.le_refl _⟩,⟨by repeat (first|(with_reducible first|exact HB.out|apply ba_|apply bb_|apply bc_)|exact HB.out)⟩⟩
   ·rw [if_neg c7] at H
    have c7b0:=decide_eq_false c7
    clear c7
    (first|rw [c7b0]|(simp only [i64_w,i32_w];rw [c7b0])|skip)
    by_cases c8 : a0 > 3686
    ·rw [if_pos c8] at H
     have c8b0 : decide (3686 < a0) = true:=decide_eq_true c8
     clear c8
     have H':=ak_ H
     clear H
     go_wp2
     refine Met.intro ?_
     go_step
     (repeat apply Exists.intro)
     first|refine ⟨?rel70,rfl⟩|(refine ⟨?rel70,?st70⟩;case' st70 => (first|rw [c8b0]|simp only [c8b0]))
     case rel70 => exact ⟨_,(true),(by first|rfl|(simp;done)|(simp [*];done)),H',⟨by first|omega|exact Nat.le_refl _⟩,⟨by repeat (first|(with_reducible first|exact HB.out|apply ba_|apply bb_|apply bc_)|exact HB.out)⟩⟩
    ·rw [if_neg c8] at H
     have c8b0 : decide (3686 < a0) = false:=decide_eq_false c8
     clear c8
     by_cases c9 : a1 < 200
     ·rw [if_pos c9] at H
      have c9b0:=decide_eq_true c9
      clear c9
      have H':=ak_ H
      clear H
      go_wp2
      refine Met.intro ?_
      go_step
      (repeat apply Exists.intro)
      first|refine ⟨?rel82,rfl⟩|(refine ⟨?rel82,?st82⟩;case' st82 => (first|rw [c9b0]|simp only [c9b0]))
      case rel82 => exact ⟨_,(true),(by first|rfl|(simp;done)|(simp [*];done)),H',⟨by first|omega|exact Nat.le_refl _⟩,⟨by repeat (first|(with_reducible first|exact HB.out|apply ba_|apply bb_|apply bc_)|exact HB.out)⟩⟩
     ·rw [if_neg c9] at H
      have c9b0:=decide_eq_false c9
      clear c9
      have H':=ak_ H
      clear H
      go_wp2
      refine Met.intro ?_
      go_step
      (repeat apply Exists.intro)
      first|refine ⟨?rel90,rfl⟩|(refine ⟨?rel90,?st90⟩;case' st90 => (first|rw [c9b0]|simp only [c9b0]))
      case rel90 => exact ⟨_,(decide (a1 > 400)),(by first|rfl|(simp;done)|(simp [*];done)),H',⟨by first|omega|exact Nat.le_refl _⟩,⟨by repeat (first|(with_reducible first|exact HB.out|apply ba_|apply bb_|apply bc_)|exact HB.out)⟩⟩
  case rest =>
   clear HC5
   try clear c1
   try clear p2
   try clear c4
   try clear c6
   try clear c7
   try clear c7b0
   try clear c8
   try clear c8b0
   try clear c9
   try clear c9b0
   obtain ⟨kq,x28_4,rfl,HA,HJ4,HB⟩:=hcut
   (try simp only [i64_w,i32_w])
   cases kq with
   | zero => exact absurd HA.out (by simp [madrigallaw12_LevinFirst.j0])
   | succ kj4 =>
    have H:=HA.out
    clear HA
    simp only [madrigallaw12_LevinFirst.j0] at H
    by_cases c10 : x28_4 = true
    ·subst c10
     have H1 : (some true) = some r:=by rw [if_pos rfl] at H;exact H
     clear H
     have H:=H1
     clear H1
     obtain rfl:=Option.some.inj H
     go_wp2
     go_ret
     exact ⟨by first|rfl|(simp [errW_none,errW_some] <;> rfl)|(simp [*,errW_none,errW_some] <;> rfl),by repeat (first|(with_reducible first|exact HB.out|apply ba_|apply bb_|apply bc_)|exact HB.out)⟩
    ·replace c10:=Bool.eq_false_iff.mpr c10
     subst c10
     have H1 : (madrigallaw12_LevinFirst.l0 kj4 a0 a1 30000 ([] : List Int) 0) = some r:=by rw [if_neg (show ¬ (false = true) by decide)] at H;exact H
     clear H
     have H:=H1
     clear H1
     have H':=ak_ H
     clear H
     go_wp2
     go_loopg [5,6,7] kj4 (fun kq v5 v6 v7 w' => ∃ (x5_2 : Int) (x6_2 : List Int) (x7_2 : Int),v5 = .int .i64 x5_2 ∧ v7 = .int .i64 x7_2 ∧ Aside0 (madrigallaw12_LevinFirst.l0 kq a0 a1 x5_2 x6_2 x7_2 = some r) ∧ Aside0 (kq ≤ kj4) ∧ Aside0 (Kd.R (Kd.int .i64) 2 w' w.heap.size (fun _ => True) v6 x6_2) ∧ Aside0 (Below w.heap.size w w'))
     case atStart => exact ⟨(30000),(([] : List Int)),(0),(by first|rfl|(simp;done)|(simp [*];done)),(by first|rfl|(simp;done)|(simp [*];done)),H',⟨Nat.le_refl _⟩,⟨by first|exact Kd.R_nil _ _ _ _ _|exact Kd.N_nil _ _ _ _ _|exact Kd.V_nil _ _ _ _ _|exact Kd.Q_nil _ _ _ _ _|exact Kd.S_nil _ _ _ _ _⟩,⟨by repeat (first|(with_reducible first|exact HB.out|apply ba_|apply bb_|apply bc_)|exact HB.out)⟩⟩
     case round =>
      clear H'
      try clear c1
      try clear p2
      try clear c4
      try clear c6
      try clear c7
      try clear c7b0
      try clear c8
      try clear c8b0
      try clear c9
      try clear c9b0
      try clear c10
      try clear p2
      obtain ⟨x5_2,x6_2,x7_2,rfl,rfl,HA,HK2,HO_6,HB⟩:=hrel
      (try simp only [i64_w,i32_w])
      cases gk with
      | zero => exact absurd HA.out (by simp [madrigallaw12_LevinFirst.l0])
      | succ k2 =>
       have H:=HA.out
       clear HA
       simp only [madrigallaw12_LevinFirst.l0] at H
       by_cases c11 : x7_2 < a1
       ·rw [if_pos c11] at H
        have c11b0:=decide_eq_true c11
        clear c11
        by_cases c12 : x6_2.length < 17592186044416
        ·rw [if_pos c12] at H
         have LMc12:=ak_ c12
         clear c12
         obtain ⟨y718,hy718⟩ : ∃ y_ : List Int,y_ = (x6_2 ++ [x5_2]):=⟨_,rfl⟩
         replace H : (madrigallaw12_LevinFirst.l0 k2 a0 a1 (wrap64 (Int.tdiv (wrap64 (x5_2 * a0)) 4096)) y718 (wrap64 (x7_2 + 1))) = some r:=by first|(rw [hy718];with_reducible exact H)|(have H2_:=(Option.bind_some _ _).symm.trans H;rw [hy718];with_reducible exact H2_)|(have H2_:=(Option.bind_some _ _).symm.trans H;with_reducible exact H2_)|with_reducible exact H|(rw [hy718];exact H)|exact H
         have Ny718:=ak_ hy718
         clear hy718
         have H':=ak_ H
         clear H
         go_wp2_with (first|((with_reducible refine gate_builtin (b:=.append) (xs:=#[.tmp 34,.tmp 36]) rfl ?_);(try (refine gate_guard (by rfl) ?_;dsimp only));at_builtin;refine Kd.R_append (Kd.int .i64) (w0:=w) w.heap.size rfl (.tmp 34) (.tmp 36) 23 2 (.int .i64 0) 8 rfl Try.underlying23 info2 rfl (by decide) (by omega) u6 x6_2 x5_2 [.int .i64 x5_2] (fun _ => True) (fun _ => False) rfl rfl ?aP (fun _ hk => hk.elim) ?aF ?aO ?aB ?aS ?aL ?_;(case aP => exact rfl);(case aB => exact (by repeat (first|(with_reducible first|exact HB.out|apply ba_|apply bb_|apply bc_)|exact HB.out)));(case aF => exact (fun _ _ => trivial));(case aO => exact (by (with_reducible repeat (first|apply ra_|apply rb_|apply rc_));exact HO_6.out));(case aS => exact (below_size (by repeat (first|(with_reducible first|exact HB.out|apply ba_|apply bb_|apply bc_)|exact HB.out))));(case aL => have:=LMc12.out;omega);intro v719 w13 ho hb hg hat;rw [← Ny718.out] at ho;have n0_:=ak_ (hb);have n1_:=ak_ (ho);clear HB;clear HO_6;have HB:=n0_;have HO720:=n1_;clear n0_ n1_;clear ho hb hg hat))
         go_roundg k2
         case measure => have:=HJ4.out;have:=HK2.out;omega
         case rel => exact ⟨(wrap64 (Int.tdiv (wrap64 (x5_2 * a0)) 4096)),(y718),(wrap64 (x7_2 + 1)),(by first|rfl|(simp;done)|(simp [*];done)),(by first|rfl|(simp;done)|(simp [*];done)),H',⟨by have:=HJ4.out;have:=HK2.out;omega⟩,⟨by (with_reducible repeat (first|apply ra_|apply rb_|apply rc_));exact HO720.out⟩,⟨by repeat (first|(with_reducible first|exact HB.out|apply ba_|apply bb_|apply bc_)|exact HB.out)⟩⟩
        ·rw [if_neg c12] at H
         exact absurd H (by simp)
       ·rw [if_neg c11] at H
        have c11b0:=decide_eq_false c11
        clear c11
        replace H:=Option.bind_eq_some_iff.mp H
        obtain ⟨⟨t721,t722⟩,A140,H⟩:=H
        (try dsimp only at H)
        have A14:=ak_ A140
        clear A140
        replace H:=Option.bind_eq_some_iff.mp H
        obtain ⟨⟨t725,t726⟩,A150,H⟩:=H
        (try dsimp only at H)
        have A15:=ak_ A150
        clear A150
        by_cases c16 : t722 = 0
        ·rw [if_pos c16] at H
         have c16b0 : (t722 == 0) = true:=beq_iff_eq.mpr c16
         have c16b1 : (t722 != 0) = false:=bne_eq_false_iff_eq.mpr c16
         clear c16
         by_cases c17 : t726 = 0
         ·rw [if_pos c17] at H
          have c17b0 : (t726 == 0) = true:=beq_iff_eq.mpr c17
          have c17b1 : (t726 != 0) = false:=bne_eq_false_iff_eq.mpr c17
          clear c17
          by_cases c18 : (t725.length : Int) = 1
          ·rw [if_pos c18] at H
           have c18b0 : ((t725.length : Int) == 1) = true:=beq_iff_eq.mpr c18
           have c18b1 : ((t725.length : Int) != 1) = false:=bne_eq_false_iff_eq.mpr c18
           clear c18
           by_cases c19 : 0 < (t725.length : Int)
           ·rw [if_pos c19] at H
            have c19b0:=decide_eq_true c19
            have c19b1 : decide (0 < t725.length) = true:=decide_eq_true (by omega)
            clear c19
            by_cases c20 : (wrap64 ((rd t725 0) - a0)) ≤ 40
            ·rw [if_pos c20] at H
             have c20b0:=decide_eq_true c20
             clear c20
             obtain rfl:=Option.some.inj H
             obtain ⟨Ao21,co21,eo21⟩:=Kd.R_slice HO_6.out
             subst eo21
             go_wp2_with (first|((with_reducible refine gate_callee (f:=11) rfl ?_);refine goesL_ (some 44) rfl rfl Try.func11 (by kernel_rfl) rfl #[.slice Ao21 x6_2.length co21,.int .i64 1] rfl (by (try simp only [List.map_toArray,List.map_cons,List.map_nil]);first|done|rfl|(simp only [List.length_drop,List.length_take];rfl)) ?_;(with_reducible refine (levin_Auto.calls k2 _ _ x6_2 1 t721 t722 _ ?side1 ?side2 A14.out).mono ?_);(case side1 => repeat (first|exact (Kd.R_reads' HO_6.out).2.2|(with_reducible refine Kd.C_alloc ?_ _)|(with_reducible refine Kd.C_drewN ?_ _)|(with_reducible refine Kd.C_drew ?_)));(case side2 => exact (Kd.R_reads' HO_6.out).2.1);rintro e w22 ⟨v723,rfl,ho0,hb⟩;refine ⟨_,rfl,?_⟩;have n0_:=ak_ (Kd.R_elder' (by (with_reducible repeat (first|apply ra_|apply rb_|apply rc_));exact HO_6.out) (Kd.R_base ho0) hb);have n1_:=ak_ (Kd.R_lower (Kd.R_new' ho0 (Kd.R_lt (by (with_reducible repeat (first|apply ra_|apply rb_|apply rc_));exact HO_6.out))) (below_size (by repeat (first|(with_reducible first|exact HB.out|apply ba_|apply bb_|apply bc_)|exact HB.out))));have n2_:=ak_ (below_step (by repeat (first|(with_reducible first|exact HB.out|apply ba_|apply bb_|apply bc_)|exact HB.out)) hb);clear HO_6;clear HB;have HO_6:=n0_;have HO724:=n1_;have HB:=n2_;clear n0_ n1_ n2_;(try clear hb);(try clear ho0);obtain ⟨Ao23,co23,eo23⟩:=Kd.R_slice HO724.out;subst eo23)|((with_reducible refine gate_callee (f:=12) rfl ?_);refine goesL_ (some 49) rfl rfl Try.func12 (by kernel_rfl) rfl #[.slice Ao23 t721.length co23] rfl (by (try simp only [List.map_toArray,List.map_cons,List.map_nil]);first|done|rfl|(simp only [List.length_drop,List.length_take];rfl)) ?_;(with_reducible refine (levin_Solve.calls k2 _ _ t721 t725 t726 _ ?side1 ?side2 A15.out).mono ?_);(case side1 => repeat (first|exact (Kd.R_reads' HO724.out).2.2|(with_reducible refine Kd.C_alloc ?_ _)|(with_reducible refine Kd.C_drewN ?_ _)|(with_reducible refine Kd.C_drew ?_)));(case side2 => exact (Kd.R_reads' HO724.out).2.1);rintro e w24 ⟨v727,rfl,ho0,hb⟩;refine ⟨_,rfl,?_⟩;have n0_:=ak_ (Kd.R_elder' (by (with_reducible repeat (first|apply ra_|apply rb_|apply rc_));exact HO_6.out) (Kd.R_base ho0) hb);have n1_:=ak_ (Kd.R_elder' (by (with_reducible repeat (first|apply ra_|apply rb_|apply rc_));exact HO724.out) (Kd.R_base ho0) hb);have n2_:=ak_ (Kd.R_lower (Kd.R_new' (Kd.R_new' ho0 (Kd.R_lt (by (with_reducible repeat (first|apply ra_|apply rb_|apply rc_));exact HO_6.out))) (Kd.R_lt (by (with_reducible repeat (first|apply ra_|apply rb_|apply rc_));exact HO724.out))) (below_size (by repeat (first|(with_reducible first|exact HB.out|apply ba_|apply bb_|apply bc_)|exact HB.out))));have n3_:=ak_ (below_step (by repeat (first|(with_reducible first|exact HB.out|apply ba_|apply bb_|apply bc_)|exact HB.out)) hb);clear HO_6;clear HO724;clear HB;have HO_6:=n0_;have HO724:=n1_;have HO728:=n2_;have HB:=n3_;clear n0_ n1_ n2_ n3_;(try clear hb);(try clear ho0);obtain ⟨Ao25,co25,eo25⟩:=Kd.R_slice HO728.out;subst eo25;have p729 : 0 ≤ (0 : Int):=(by omega);have q729 : 0 < (t725.length : Int):=of_decide_eq_true (by first|(with_reducible assumption)|assumption);obtain ⟨ad729,e729,hx729_0⟩:=Kd.at_int (Kd.R_reads' HO728.out).2.2 0 p729 q729;cases e729;have qi729 : (0 < t725.length) = True:=eq_true (by omega);(try rw [show ((0 : Int)).toNat = 0 from rfl] at hx729_0);(try rw [Addr.add_zero'] at hx729_0);replace p729:=eq_true p729;replace q729:=eq_true q729))
             go_ret
             exact ⟨by first|rfl|(simp [errW_none,errW_some] <;> rfl)|(simp [*,errW_none,errW_some] <;> rfl),by repeat (first|(with_reducible first|exact HB.out|apply ba_|apply bb_|apply bc_)|exact HB.out)⟩
            ·rw [if_neg c20] at H
             exact absurd H (by simp)
           ·rw [if_neg c19] at H
            exact absurd H (by simp)
          ·rw [if_neg c18] at H
           exact absurd H (by simp)
         ·rw [if_neg c17] at H
          exact absurd H (by simp)
        ·rw [if_neg c16] at H
         exact absurd H (by simp)
 ·replace c4:=Bool.eq_false_iff.mpr c4
  subst c4
  have H1 : (none) = some r:=by rw [if_neg (show ¬ (false = true) by decide)] at H;exact H
  clear H
  have H:=H1
  clear H1
  exact absurd H (by simp)

/-- THE ONE PURE STATEMENT of madrigallaw12_LevinFirst. -/
def madrigallaw12_LevinFirst.Pure : Prop:=∀ (a0 : Int) (a1 : Int),(Lit.int .i64 a0).wf = true → (Lit.int .i64 a1).wf = true → ∃ k,madrigallaw12_LevinFirst.f k a0 a1 = some true
theorem madrigallaw12_LevinFirst.walk (P : madrigallaw12_LevinFirst.Pure) (a0 : Int) (a1 : Int) (w : World) (w0 : (Lit.int .i64 a0).wf = true) (w1 : (Lit.int .i64 a1).wf = true) :
  Calls Try.prog 6 #[.int .i64 a0,.int .i64 a1] w fun e w' => e = .returned (.bool true) ∧ Below w.heap.size w w':=by
 obtain ⟨k,h⟩:=P a0 a1 w0 w1
 refine (madrigallaw12_LevinFirst.calls k a0 a1 true w h).mono ?_
 rintro e w' ⟨rfl,hd⟩
 exact ⟨rfl,hd⟩

end Go.Proofs.Ytllglpcpjeggcaa.P
