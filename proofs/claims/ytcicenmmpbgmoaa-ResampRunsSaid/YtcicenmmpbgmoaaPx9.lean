/- The machine side of the laws of one chapter, without conditions: each call of a Go function comes to what the Lean function of its name answers. Written for this claim by a program of the prover. -/
import Derived.Test.YtcicenmmpbgmoaaPx0
import Derived.Test.YtcicenmmpbgmoaaPx1
import Derived.Test.YtcicenmmpbgmoaaPx3
import Derived.Test.YtcicenmmpbgmoaaPx5
import Derived.Test.YtcicenmmpbgmoaaPx7
import Derived.Test.YtcicenmmpbgmoaaPx8
namespace Go.Proofs.Ytcicenmmpbgmoaa.P
open Go.RowKit Go.Proofs.YtcicenmmpbgmoaaW.PrintWords Go.Proofs.YtcicenmmpbgmoaaW.PrintLast Go.Proofs.YtcicenmmpbgmoaaW.PrintMore
attribute [local go_sem] max2_int min2_int max_two min_two max_three min_three max_four min_four   -- for this text's walks alone
set_option linter.unusedVariables false
set_option linter.unusedSimpArgs false

/-! ### resamp_Filter: function 14 -/
mutual
def resamp_Filter.j0 : Nat → Int → Int → Int → Int → Bool → Option (List Int)
 | 0,_,_,_,_,_ => none
 | k + 1,x0,x1,x2,x7,x33 => if x33 = true then (some ([] : List Int)) else (if 16 ≤ 35184372088832 then ((some (List.replicate 16 0 : List Int)).bind fun y132 => (resamp_Filter.l0 k x0 x2 x7 (mn x0 x1) y132 0 (y132.length : Int) 0)) else (none))
def resamp_Filter.l0 : Nat → Int → Int → Int → Int → List Int → Int → Int → Int → Option (List Int)
 | 0,_,_,_,_,_,_,_,_ => none
 | k + 1,x0,x2,x7,x9,x10,x11,x39,x40 => if x40 < x39 then ((resamp_down.f (wrap64 (32768 * x9)) x0).bind fun t137 => (if (wrap64 ((wrap64 ((wrap64 (x40 - 7)) * x7)) - x2)) = 0 then (resamp_Filter.j2 k x0 x2 x7 x9 x10 x11 x40 (wrap64 ((wrap64 ((wrap64 (x40 - 7)) * x7)) - x2)) t137 x39 x40) else ((resamp_down.f (wrap64 ((wrap64 (32768 * x9)) * (wrap64 ((wrap64 ((wrap64 (x40 - 7)) * x7)) - x2)))) (wrap64 (x0 * x7))).bind fun t138 => ((fix_Sin.f k t138).bind fun t139 => ((resamp_down.f (wrap64 ((wrap64 (t139 * x7)) * 32768)) (wrap64 (102944 * (wrap64 ((wrap64 ((wrap64 (x40 - 7)) * x7)) - x2))))).bind fun t140 => (resamp_Filter.j2 k x0 x2 x7 x9 x10 x11 x40 (wrap64 ((wrap64 ((wrap64 (x40 - 7)) * x7)) - x2)) t140 x39 x40)))))) else (if 7 < (x10.length : Int) then (some (x10.set (7 : Int).toNat (wrap64 ((rd x10 7) + (wrap64 (32768 - x11)))))) else (none))
def resamp_Filter.j2 : Nat → Int → Int → Int → Int → List Int → Int → Int → Int → Int → Int → Int → Option (List Int)
 | 0,_,_,_,_,_,_,_,_,_,_,_ => none
 | k + 1,x0,x2,x7,x9,x10,x11,x12,x13,x14,x39,x40 => (resamp_down.f (wrap64 (4096 * x13)) x7).bind fun t141 => ((fix_Cos.f k t141).bind fun t142 => ((fix_Mul.f k t142 1 1).bind fun t143 => ((fix_Mul.f k x14 (wrap64 (16384 + t143)) 15).bind fun t144 => (if 0 ≤ x12 then (if x12 < (x10.length : Int) then ((some (x10.set (x12 : Int).toNat t144 : List Int)).bind fun y145 => (resamp_Filter.l0 k x0 x2 x7 x9 y145 (wrap64 (x11 + (rd y145 x12))) x39 (wrap64 (x40 + 1)))) else (none)) else (none)))))
end
def resamp_Filter.f (k : Nat) (a0 : Int) (a1 : Int) (a2 : Int) : Option (List Int):=(resamp_Good.f a0 a1).bind fun t129 => (if t129 = true then ((resamp_parts.f k a0 a1).bind fun bt130 => (if a2 < 0 then (resamp_Filter.j0 k a0 a1 a2 bt130.1 true) else (resamp_Filter.j0 k a0 a1 a2 bt130.1 (decide (a2 ≥ bt130.1))))) else (some ([] : List Int)))
theorem resamp_Filter.mono_l : ∀ k,(∀ y0 y1 y2 y3 y4,LeO (resamp_Filter.j0 k y0 y1 y2 y3 y4) (resamp_Filter.j0 (k + 1) y0 y1 y2 y3 y4)) ∧ (∀ y0 y1 y2 y3 y4 y5 y6 y7,LeO (resamp_Filter.l0 k y0 y1 y2 y3 y4 y5 y6 y7) (resamp_Filter.l0 (k + 1) y0 y1 y2 y3 y4 y5 y6 y7)) ∧ (∀ y0 y1 y2 y3 y4 y5 y6 y7 y8 y9 y10,LeO (resamp_Filter.j2 k y0 y1 y2 y3 y4 y5 y6 y7 y8 y9 y10) (resamp_Filter.j2 (k + 1) y0 y1 y2 y3 y4 y5 y6 y7 y8 y9 y10))
 | 0 => ⟨fun _ _ _ _ _ r h => by simp [resamp_Filter.j0] at h,fun _ _ _ _ _ _ _ _ r h => by simp [resamp_Filter.l0] at h,fun _ _ _ _ _ _ _ _ _ _ _ r h => by simp [resamp_Filter.j2] at h⟩
 | k + 1 => by
  obtain ⟨ih0,ih1,ih2⟩:=resamp_Filter.mono_l k
  refine ⟨?_,?_,?_⟩
  all_goals (intros;first|unfold resamp_Filter.j0|unfold resamp_Filter.l0|unfold resamp_Filter.j2)
  all_goals (repeat' first|(with_reducible first|exact ih0 _ _ _ _ _|exact ih1 _ _ _ _ _ _ _ _|exact ih2 _ _ _ _ _ _ _ _ _ _ _|exact fix_Cos.mono _ _|exact fix_Mul.mono _ _ _ _|exact fix_Sin.mono _ _|exact resamp_parts.mono _ _ _|exact LeO.refl _|exact LeO.none _|refine LeO.ite ?_ ?_|refine LeO.bind ?_ (fun _ => ?_))|exact ih0 _ _ _ _ _|exact ih1 _ _ _ _ _ _ _ _|exact ih2 _ _ _ _ _ _ _ _ _ _ _|exact fix_Cos.mono _ _|exact fix_Mul.mono _ _ _ _|exact fix_Sin.mono _ _|exact resamp_parts.mono _ _ _|exact LeO.none _|refine LeO.ite ?_ ?_|refine LeO.bind ?_ (fun _ => ?_))
theorem resamp_Filter.mono : ∀ a0 a1 a2 k,LeO (resamp_Filter.f k a0 a1 a2) (resamp_Filter.f (k + 1) a0 a1 a2):=by
 intro a0 a1 a2 k
 obtain ⟨ih0,ih1,ih2⟩:=resamp_Filter.mono_l k
 unfold resamp_Filter.f
 repeat' first|(with_reducible first|exact ih0 _ _ _ _ _|exact ih1 _ _ _ _ _ _ _ _|exact ih2 _ _ _ _ _ _ _ _ _ _ _|exact fix_Cos.mono _ _|exact fix_Mul.mono _ _ _ _|exact fix_Sin.mono _ _|exact resamp_parts.mono _ _ _|exact LeO.refl _|exact LeO.none _|refine LeO.ite ?_ ?_|refine LeO.bind ?_ (fun _ => ?_))|exact ih0 _ _ _ _ _|exact ih1 _ _ _ _ _ _ _ _|exact ih2 _ _ _ _ _ _ _ _ _ _ _|exact fix_Cos.mono _ _|exact fix_Mul.mono _ _ _ _|exact fix_Sin.mono _ _|exact resamp_parts.mono _ _ _|exact LeO.none _|refine LeO.ite ?_ ?_|refine LeO.bind ?_ (fun _ => ?_)
set_option maxHeartbeats 8000000 in
set_option maxRecDepth 100000 in
theorem resamp_Filter.calls (k : Nat) (a0 : Int) (a1 : Int) (a2 : Int) (r : List Int) (w : World) (h : resamp_Filter.f k a0 a1 a2 = some r) :
  Calls Try.prog 14 #[.int .i64 a0,.int .i64 a1,.int .i64 a2] w fun e w' => ∃ v0_ : Value,e = .returned (v0_) ∧ Kd.R (Kd.int .i64) 2 w' w.heap.size (fun _ => True) v0_ r ∧ Below w.heap.size w w':=by
 have HB:=ak_ (Below.refl w.heap.size w)
 have H : ((resamp_Good.f a0 a1).bind fun t129 => (if t129 = true then ((resamp_parts.f k a0 a1).bind fun bt130 => (if a2 < 0 then (resamp_Filter.j0 k a0 a1 a2 bt130.1 true) else (resamp_Filter.j0 k a0 a1 a2 bt130.1 (decide (a2 ≥ bt130.1))))) else (some ([] : List Int)))) = some r:=h
 clear h
 replace H:=Option.bind_eq_some_iff.mp H
 obtain ⟨t129,A40,H⟩:=H
 (try dsimp only at H)
 have A4:=ak_ A40
 clear A40
 by_cases c5 : t129 = true
 ·subst c5
  have H1 : ((resamp_parts.f k a0 a1).bind fun bt130 => (if a2 < 0 then (resamp_Filter.j0 k a0 a1 a2 bt130.1 true) else (resamp_Filter.j0 k a0 a1 a2 bt130.1 (decide (a2 ≥ bt130.1))))) = some r:=by rw [if_pos rfl] at H;exact H
  clear H
  have H:=H1
  clear H1
  replace H:=Option.bind_eq_some_iff.mp H
  obtain ⟨⟨t130,t131⟩,A60,H⟩:=H
  (try dsimp only at H)
  have A6:=ak_ A60
  clear A60
  have HC7:=ak_ H
  clear H
  go_enter Try.func14,Try.ntmps14
  go_upto_region 4 with (first|((with_reducible refine gate_callee (f:=16) rfl ?_);refine goesL_ (some 19) rfl rfl Try.func16 (by kernel_rfl) rfl #[.int .i64 a0,.int .i64 a1] rfl (by (try simp only [List.map_toArray,List.map_cons,List.map_nil]);first|done|rfl|(simp only [List.length_drop,List.length_take];rfl)) ?_;(with_reducible refine (resamp_Good.calls a0 a1 true _ A4.out).mono ?_);rintro e w' ⟨rfl,⟨nd,rfl⟩⟩;refine ⟨_,rfl,?_⟩)|((with_reducible refine gate_callee (f:=27) rfl ?_);refine goesL_ (some 24) rfl rfl Try.func27 (by kernel_rfl) rfl #[.int .i64 a0,.int .i64 a1] rfl (by (try simp only [List.map_toArray,List.map_cons,List.map_nil]);first|done|rfl|(simp only [List.length_drop,List.length_take];rfl)) ?_;(with_reducible refine (resamp_parts.calls k a0 a1 t130 t131 _ A6.out).mono ?_);rintro e w' ⟨rfl,⟨nd,rfl⟩⟩;refine ⟨_,rfl,?_⟩))
  (try simp only [Act.put,List.setIfInBounds_toArray,List.set_cons_zero,List.set_cons_succ])
  go_cut [33] (fun v33 wc => ∃ (kq : Nat) (x33_6 : Bool),v33 = .bool x33_6 ∧ Aside0 (resamp_Filter.j0 kq a0 a1 a2 t130 x33_6 = some r) ∧ Aside0 (kq ≤ k) ∧ Aside0 (Below w.heap.size w wc))
  case first =>
   have H:=HC7.out
   clear HC7
   by_cases c8 : a2 < 0
   ·rw [if_pos c8] at H
    have c8b0:=decide_eq_true c8
    clear c8
    (first|rw [c8b0]|(simp only [i64_w,i32_w];rw [c8b0])|skip)
    have H':=ak_ H
    clear H
    go_wp2
    refine Met.intro ?_
    go_step
    (repeat apply Exists.intro)
    first|refine ⟨?rel65,rfl⟩|(refine ⟨?rel65,?st65⟩;case' st65 => (first|rw [c8b0]|simp only [c8b0]))
    case rel65 => exact ⟨_,(true),(by first|rfl|(simp;done)|(simp [*];done)),H',⟨by first|omega|exact Nat.le_refl _⟩,⟨by repeat (first|(with_reducible first|exact HB.out|apply ba_|apply bb_|apply bc_)|exact HB.out)⟩⟩
   ·rw [if_neg c8] at H
    have c8b0:=decide_eq_false c8
    clear c8
    (first|rw [c8b0]|(simp only [i64_w,i32_w];rw [c8b0])|skip)
    have H':=ak_ H
    clear H
    go_wp2
    refine Met.intro ?_
    go_step
    (repeat apply Exists.intro)
    first|refine ⟨?rel74,rfl⟩|(refine ⟨?rel74,?st74⟩;case' st74 => (first|rw [c8b0]|simp only [c8b0]))
    case rel74 => exact ⟨_,(decide (a2 ≥ t130)),(by first|rfl|(simp;done)|(simp [*];done)),H',⟨by first|omega|exact Nat.le_refl _⟩,⟨by repeat (first|(with_reducible first|exact HB.out|apply ba_|apply bb_|apply bc_)|exact HB.out)⟩⟩
  case rest =>
   clear HC7
   try clear c1
   try clear c2
   try clear p2
   try clear c5
   try clear c8
   try clear c8b0
   obtain ⟨kq,x33_6,rfl,HA,HJ6,HB⟩:=hcut
   (try simp only [i64_w,i32_w])
   cases kq with
   | zero => exact absurd HA.out (by simp [resamp_Filter.j0])
   | succ kj6 =>
    have H:=HA.out
    clear HA
    simp only [resamp_Filter.j0] at H
    by_cases c9 : x33_6 = true
    ·subst c9
     have H1 : (some ([] : List Int)) = some r:=by rw [if_pos rfl] at H;exact H
     clear H
     have H:=H1
     clear H1
     obtain rfl:=Option.some.inj H
     go_wp2
     go_ret
     exact ⟨_,by first|rfl|(simp [errW_none,errW_some] <;> rfl)|(simp [*,errW_none,errW_some] <;> rfl),by first|exact Kd.R_nil _ _ _ _ _|exact Kd.N_nil _ _ _ _ _|exact Kd.V_nil _ _ _ _ _|exact Kd.Q_nil _ _ _ _ _|exact Kd.S_nil _ _ _ _ _,by repeat (first|(with_reducible first|exact HB.out|apply ba_|apply bb_|apply bc_)|exact HB.out)⟩
    ·replace c9:=Bool.eq_false_iff.mpr c9
     subst c9
     have H1 : (if 16 ≤ 35184372088832 then ((some (List.replicate 16 0 : List Int)).bind fun y132 => (resamp_Filter.l0 kj6 a0 a2 t130 (mn a0 a1) y132 0 (y132.length : Int) 0)) else (none)) = some r:=by rw [if_neg (show ¬ (false = true) by decide)] at H;exact H
     clear H
     have H:=H1
     clear H1
     obtain ⟨ji10,hji10⟩ : ∃ j_ : Int,(mn a0 a1) = j_:=⟨_,rfl⟩
     replace H : (if 16 ≤ 35184372088832 then ((some (List.replicate 16 0 : List Int)).bind fun y132 => (resamp_Filter.l0 kj6 a0 a2 t130 ji10 y132 0 (y132.length : Int) 0)) else (none)) = some r:=by first|(rw [hji10] at H;exact H)|(simp only [hji10] at H ⊢;exact H)
     have hji10_ : (if a1 < a0 then a1 else a0) = ji10:=hji10
     by_cases c11 : 16 ≤ 35184372088832
     ·rw [if_pos c11] at H
      have c11b0:=eq_true c11
      have c11b1 : decide (16 ≤ 35184372088832) = true:=decide_eq_true c11
      clear c11
      obtain ⟨y132,hy132⟩ : ∃ y_ : List Int,y_ = (List.replicate 16 0):=⟨_,rfl⟩
      replace H : (resamp_Filter.l0 kj6 a0 a2 t130 ji10 y132 0 (y132.length : Int) 0) = some r:=by first|(rw [hy132];with_reducible exact H)|(have H2_:=(Option.bind_some _ _).symm.trans H;rw [hy132];with_reducible exact H2_)|(have H2_:=(Option.bind_some _ _).symm.trans H;with_reducible exact H2_)|with_reducible exact H|(rw [hy132];exact H)|exact H
      have Ny132:=ak_ hy132
      clear hy132
      have H':=ak_ H
      clear H
      go_wp2_with (first|((with_reducible refine gate_dst (N:=37) rfl ?_);refine Kd.R_make (Kd.int .i64) _ 2 rfl (N:=37) rfl 27 _ _ rfl 16 rfl rfl Try.underlying27 (.int .i64 0) 8 info2 rfl (by decide) (by omega) 0 (ok:=fun _ => True) (okp:=fun _ => True) rfl (fun _ hk => hk) trivial (by omega) (by omega) (Below.refl _ _) (Nat.le_refl _) ?_;intro v133 w12 ho13 hb hg_ hnew_;clear hg_ hnew_;(first|rw [← Ny132.out] at ho13|(simp only [Int.reduceToNat] at ho13;rw [← Ny132.out] at ho13));have n0_:=ak_ (Kd.R_lower ho13 (below_size (by repeat (first|(with_reducible first|exact HB.out|apply ba_|apply bb_|apply bc_)|exact HB.out))));have n1_:=ak_ (below_step (by repeat (first|(with_reducible first|exact HB.out|apply ba_|apply bb_|apply bc_)|exact HB.out)) hb);clear HB;have HO134:=n0_;have HB:=n1_;clear n0_ n1_;clear hb ho13;obtain ⟨Ao14,co14,eo14⟩:=Kd.R_slice HO134.out;subst eo14))
      go_loopg [11,40] kj6 (fun kq v11 v40 w' => ∃ (x10_2 : List Int) (x11_2 : Int) (x40_2 : Int),v11 = .int .i64 x11_2 ∧ v40 = .int .i64 x40_2 ∧ Aside0 (resamp_Filter.l0 kq a0 a2 t130 ji10 x10_2 x11_2 (y132.length : Int) x40_2 = some r) ∧ Aside0 (kq ≤ kj6) ∧ Aside0 (Kd.R (Kd.int .i64) 2 w' w.heap.size (fun _ => True) (.slice Ao14 y132.length co14) x10_2) ∧ Aside0 (Below w.heap.size w w'))
      case atStart => exact ⟨(y132),(0),(0),(by first|rfl|(simp;done)|(simp [*];done)),(by first|rfl|(simp;done)|(simp [*];done)),H',⟨Nat.le_refl _⟩,⟨by (with_reducible repeat (first|apply ra_|apply rb_|apply rc_));exact HO134.out⟩,⟨by repeat (first|(with_reducible first|exact HB.out|apply ba_|apply bb_|apply bc_)|exact HB.out)⟩⟩
      case round =>
       clear H'
       try clear c1
       try clear c2
       try clear p2
       try clear c5
       try clear c8
       try clear c8b0
       try clear c9
       try clear c11
       try clear c11b0
       try clear c11b1
       try clear c14
       try clear p2
       obtain ⟨x10_2,x11_2,x40_2,rfl,rfl,HA,HK2,HO_10,HB⟩:=hrel
       (try simp only [i64_w,i32_w])
       have hl10_2:=(Kd.R_reads' HO_10.out).1
       rw [hl10_2] at HO_10
       (try simp only [hl10_2])
       cases gk with
       | zero => exact absurd HA.out (by simp [resamp_Filter.l0])
       | succ k2 =>
        have H:=HA.out
        clear HA
        simp only [resamp_Filter.l0] at H
        by_cases c15 : x40_2 < (y132.length : Int)
        ·rw [if_pos c15] at H
         have c15b0:=decide_eq_true c15
         (try (have c15h0:=c15b0;simp only [hl10_2] at c15h0))
         clear c15
         replace H:=Option.bind_eq_some_iff.mp H
         obtain ⟨t137,A160,H⟩:=H
         (try dsimp only at H)
         have A16:=ak_ A160
         clear A160
         have HC17:=ak_ H
         clear H
         go_upto_if 54 with (first|((with_reducible refine gate_callee (f:=29) rfl ?_);refine goesL_ (some 52) rfl rfl Try.func29 (by kernel_rfl) rfl #[.int .i64 (wrap64 (32768 * ji10)),.int .i64 a0] rfl (by (try simp only [List.map_toArray,List.map_cons,List.map_nil]);first|done|(simp only [hji10];rfl)|rfl|(simp only [List.length_drop,List.length_take];rfl)) ?_;(with_reducible refine (resamp_down.calls (wrap64 (32768 * ji10)) a0 t137 _ A16.out).mono ?_);rintro e w' ⟨rfl,⟨nd,rfl⟩⟩;refine ⟨_,rfl,?_⟩))
         (try simp only [Act.put,List.setIfInBounds_toArray,List.set_cons_zero,List.set_cons_succ])
         go_cut [14] (fun v14 wc => ∃ (kq : Nat) (x14_16 : Int),v14 = .int .i64 x14_16 ∧ Aside0 (resamp_Filter.j2 kq a0 a2 t130 ji10 x10_2 x11_2 x40_2 (wrap64 ((wrap64 ((wrap64 (x40_2 - 7)) * t130)) - a2)) x14_16 (y132.length : Int) x40_2 = some r) ∧ Aside0 (kq ≤ k2) ∧ Aside0 (Kd.R (Kd.int .i64) 2 wc w.heap.size (fun _ => True) (.slice Ao14 x10_2.length co14) x10_2) ∧ Aside0 (Below w.heap.size w wc))
         case first =>
          have H:=HC17.out
          clear HC17
          by_cases c18 : (wrap64 ((wrap64 ((wrap64 (x40_2 - 7)) * t130)) - a2)) = 0
          ·rw [if_pos c18] at H
           have c18b0 : ((wrap64 ((wrap64 ((wrap64 (x40_2 - 7)) * t130)) - a2)) == 0) = true:=beq_iff_eq.mpr c18
           have c18b1 : ((wrap64 ((wrap64 ((wrap64 (x40_2 - 7)) * t130)) - a2)) != 0) = false:=bne_eq_false_iff_eq.mpr c18
           (try (have c18h0:=c18b0;simp only [hl10_2] at c18h0))
           (try (have c18h1:=c18b1;simp only [hl10_2] at c18h1))
           clear c18
           (first|rw [c18b0]|(simp only [i64_w,i32_w];rw [c18b0])|skip)
           have H':=ak_ H
           clear H
           go_wp2
           go_meet
           case rel => exact ⟨_,(t137),(by first|rfl|(simp;done)|(simp [*];done)),H',⟨by have:=HJ6.out;have:=HK2.out;first|omega|exact Nat.le_refl _⟩,⟨by (try simp only [hl10_2]);(with_reducible repeat (first|apply ra_|apply rb_|apply rc_));exact HO_10.out⟩,⟨by repeat (first|(with_reducible first|exact HB.out|apply ba_|apply bb_|apply bc_)|exact HB.out)⟩⟩
          ·rw [if_neg c18] at H
           have c18b0 : ((wrap64 ((wrap64 ((wrap64 (x40_2 - 7)) * t130)) - a2)) == 0) = false:=beq_eq_false_iff_ne.mpr c18
           have c18b1 : ((wrap64 ((wrap64 ((wrap64 (x40_2 - 7)) * t130)) - a2)) != 0) = true:=bne_iff_ne.mpr c18
           (try (have c18h0:=c18b0;simp only [hl10_2] at c18h0))
           (try (have c18h1:=c18b1;simp only [hl10_2] at c18h1))
           (first|rw [c18b0]|(simp only [i64_w,i32_w];rw [c18b0])|skip)
           replace H:=Option.bind_eq_some_iff.mp H
           obtain ⟨t138,A190,H⟩:=H
           (try dsimp only at H)
           have A19:=ak_ A190
           clear A190
           replace H:=Option.bind_eq_some_iff.mp H
           obtain ⟨t139,A200,H⟩:=H
           (try dsimp only at H)
           have A20:=ak_ A200
           clear A200
           replace H:=Option.bind_eq_some_iff.mp H
           obtain ⟨t140,A210,H⟩:=H
           (try dsimp only at H)
           have A21:=ak_ A210
           clear A210
           have H':=ak_ H
           clear H
           go_wp2_with (first|((with_reducible refine gate_callee (f:=29) rfl ?_);refine goesL_ (some 62) rfl rfl Try.func29 (by kernel_rfl) rfl #[.int .i64 (wrap64 ((wrap64 (32768 * ji10)) * (wrap64 ((wrap64 ((wrap64 (x40_2 - 7)) * t130)) - a2)))),.int .i64 (wrap64 (a0 * t130))] rfl (by (try simp only [List.map_toArray,List.map_cons,List.map_nil]);first|done|(simp only [hji10];rfl)|rfl|(simp only [List.length_drop,List.length_take];rfl)) ?_;(with_reducible refine (resamp_down.calls (wrap64 ((wrap64 (32768 * ji10)) * (wrap64 ((wrap64 ((wrap64 (x40_2 - 7)) * t130)) - a2)))) (wrap64 (a0 * t130)) t138 _ A19.out).mono ?_);rintro e w' ⟨rfl,⟨nd,rfl⟩⟩;refine ⟨_,rfl,?_⟩)|((with_reducible refine gate_callee (f:=30) rfl ?_);refine goesL_ (some 63) rfl rfl Try.func30 (by kernel_rfl) rfl #[.int .i64 t138] rfl (by (try simp only [List.map_toArray,List.map_cons,List.map_nil]);first|done|rfl|(simp only [List.length_drop,List.length_take];rfl)) ?_;(with_reducible refine (fix_Sin.calls k2 t138 t139 _ A20.out).mono ?_);rintro e w22 ⟨rfl,hb⟩;refine ⟨_,rfl,?_⟩;have n0_:=ak_ (Kd.R_below (by (with_reducible repeat (first|apply ra_|apply rb_|apply rc_));exact HO_10.out) hb);have n1_:=ak_ (below_step (by repeat (first|(with_reducible first|exact HB.out|apply ba_|apply bb_|apply bc_)|exact HB.out)) hb);clear HO_10;clear HB;have HO_10:=n0_;have HB:=n1_;clear n0_ n1_;(try clear hb))|((with_reducible refine gate_callee (f:=29) rfl ?_);refine goesL_ (some 70) rfl rfl Try.func29 (by kernel_rfl) rfl #[.int .i64 (wrap64 ((wrap64 (t139 * t130)) * 32768)),.int .i64 (wrap64 (102944 * (wrap64 ((wrap64 ((wrap64 (x40_2 - 7)) * t130)) - a2))))] rfl (by (try simp only [List.map_toArray,List.map_cons,List.map_nil]);first|done|rfl|(simp only [List.length_drop,List.length_take];rfl)) ?_;(with_reducible refine (resamp_down.calls (wrap64 ((wrap64 (t139 * t130)) * 32768)) (wrap64 (102944 * (wrap64 ((wrap64 ((wrap64 (x40_2 - 7)) * t130)) - a2)))) t140 _ A21.out).mono ?_);rintro e w' ⟨rfl,⟨nd,rfl⟩⟩;refine ⟨_,rfl,?_⟩))
           go_meet
           case rel => exact ⟨_,(t140),(by first|rfl|(simp;done)|(simp [*];done)),H',⟨by have:=HJ6.out;have:=HK2.out;first|omega|exact Nat.le_refl _⟩,⟨by (try simp only [hl10_2]);(with_reducible repeat (first|apply ra_|apply rb_|apply rc_));exact HO_10.out⟩,⟨by repeat (first|(with_reducible first|exact HB.out|apply ba_|apply bb_|apply bc_)|exact HB.out)⟩⟩
         case rest =>
          clear HC17
          try clear c1
          try clear c2
          try clear p2
          try clear c3
          try clear c5
          try clear p6
          try clear c8
          try clear c8b0
          try clear c9
          try clear c11
          try clear c11b0
          try clear c11b1
          try clear c14
          try clear c15
          try clear c15b0
          try clear c15h0
          try clear c16
          try clear c18
          try clear c18b0
          try clear c18b1
          try clear c18h0
          try clear c18h1
          try clear p2
          obtain ⟨kq,x14_16,rfl,HA,HJ16,HO_10,HB⟩:=hcut
          (try simp only [i64_w,i32_w])
          cases kq with
          | zero => exact absurd HA.out (by simp [resamp_Filter.j2])
          | succ kj16 =>
           have H:=HA.out
           clear HA
           simp only [resamp_Filter.j2] at H
           replace H:=Option.bind_eq_some_iff.mp H
           obtain ⟨t141,A230,H⟩:=H
           (try dsimp only at H)
           have A23:=ak_ A230
           clear A230
           replace H:=Option.bind_eq_some_iff.mp H
           obtain ⟨t142,A240,H⟩:=H
           (try dsimp only at H)
           have A24:=ak_ A240
           clear A240
           replace H:=Option.bind_eq_some_iff.mp H
           obtain ⟨t143,A250,H⟩:=H
           (try dsimp only at H)
           have A25:=ak_ A250
           clear A250
           replace H:=Option.bind_eq_some_iff.mp H
           obtain ⟨t144,A260,H⟩:=H
           (try dsimp only at H)
           have A26:=ak_ A260
           clear A260
           by_cases c27 : 0 ≤ x40_2
           ·rw [if_pos c27] at H
            have c27b0:=decide_eq_true c27
            (try (have c27h0:=c27b0;simp only [hl10_2] at c27h0))
            clear c27
            by_cases c28 : x40_2 < (x10_2.length : Int)
            ·rw [if_pos c28] at H
             have c28b0:=decide_eq_true c28
             (try (have c28h0:=c28b0;simp only [hl10_2] at c28h0))
             clear c28
             obtain ⟨y145,hy145⟩ : ∃ y_ : List Int,y_ = (x10_2.set (x40_2 : Int).toNat t144):=⟨_,rfl⟩
             replace H : (resamp_Filter.l0 kj16 a0 a2 t130 ji10 y145 (wrap64 (x11_2 + (rd y145 x40_2))) (y132.length : Int) (wrap64 (x40_2 + 1))) = some r:=by first|(rw [hy145];with_reducible exact H)|(have H2_:=(Option.bind_some _ _).symm.trans H;rw [hy145];with_reducible exact H2_)|(have H2_:=(Option.bind_some _ _).symm.trans H;with_reducible exact H2_)|with_reducible exact H|(rw [hy145];exact H)|exact H
             have Ny145:=ak_ hy145
             clear hy145
             have H':=ak_ H
             clear H
             go_wp2_with (first|((with_reducible refine gate_callee (f:=29) rfl ?_);refine goesL_ (some 74) rfl rfl Try.func29 (by kernel_rfl) rfl #[.int .i64 (wrap64 (4096 * (wrap64 ((wrap64 ((wrap64 (x40_2 - 7)) * t130)) - a2)))),.int .i64 t130] rfl (by (try simp only [List.map_toArray,List.map_cons,List.map_nil]);first|done|rfl|(simp only [List.length_drop,List.length_take];rfl)) ?_;(with_reducible refine (resamp_down.calls (wrap64 (4096 * (wrap64 ((wrap64 ((wrap64 (x40_2 - 7)) * t130)) - a2)))) t130 t141 _ A23.out).mono ?_);rintro e w' ⟨rfl,⟨nd,rfl⟩⟩;refine ⟨_,rfl,?_⟩;(try (rw [drewN_self wc];generalize hq_ : World.drewN wc _ = wc;have n0_ : Aside0 (Kd.R (Kd.int .i64) 2 wc w.heap.size (fun _ => True) (.slice Ao14 x10_2.length co14) x10_2):=⟨by rw [← hq_];exact (by (with_reducible repeat (first|apply ra_|apply rb_|apply rc_));exact HO_10.out)⟩;have n1_ : Aside0 (Below w.heap.size w wc):=⟨by rw [← hq_];exact (by repeat (first|(with_reducible first|exact HB.out|apply ba_|apply bb_|apply bc_)|exact HB.out))⟩;clear HO_10 HB hq_;have HO_10:=n0_;have HB:=n1_;clear n0_ n1_)))|((with_reducible refine gate_callee (f:=32) rfl ?_);refine goesL_ (some 75) rfl rfl Try.func32 (by kernel_rfl) rfl #[.int .i64 t141] rfl (by (try simp only [List.map_toArray,List.map_cons,List.map_nil]);first|done|rfl|(simp only [List.length_drop,List.length_take];rfl)) ?_;(with_reducible refine (fix_Cos.calls kj16 t141 t142 _ A24.out).mono ?_);rintro e w30 ⟨rfl,hb⟩;refine ⟨_,rfl,?_⟩;have n0_:=ak_ (Kd.R_below (by (with_reducible repeat (first|apply ra_|apply rb_|apply rc_));exact HO_10.out) hb);have n1_:=ak_ (below_step (by repeat (first|(with_reducible first|exact HB.out|apply ba_|apply bb_|apply bc_)|exact HB.out)) hb);clear HO_10;clear HB;have HO_10:=n0_;have HB:=n1_;clear n0_ n1_;(try clear hb))|((with_reducible refine gate_callee (f:=31) rfl ?_);refine goesL_ (some 76) rfl rfl Try.func31 (by kernel_rfl) rfl #[.int .i64 t142,.int .i64 1,.int .i64 1] rfl (by (try simp only [List.map_toArray,List.map_cons,List.map_nil]);first|done|rfl|(simp only [List.length_drop,List.length_take];rfl)) ?_;(with_reducible refine (fix_Mul.calls kj16 t142 1 1 t143 _ A25.out).mono ?_);rintro e w' ⟨rfl,⟨nd,rfl⟩⟩;refine ⟨_,rfl,?_⟩;(try (rw [drewN_self w30];generalize hq_ : World.drewN w30 _ = w30;have n0_ : Aside0 (Kd.R (Kd.int .i64) 2 w30 w.heap.size (fun _ => True) (.slice Ao14 x10_2.length co14) x10_2):=⟨by rw [← hq_];exact (by (with_reducible repeat (first|apply ra_|apply rb_|apply rc_));exact HO_10.out)⟩;have n1_ : Aside0 (Below w.heap.size w w30):=⟨by rw [← hq_];exact (by repeat (first|(with_reducible first|exact HB.out|apply ba_|apply bb_|apply bc_)|exact HB.out))⟩;clear HO_10 HB hq_;have HO_10:=n0_;have HB:=n1_;clear n0_ n1_)))|((with_reducible refine gate_callee (f:=31) rfl ?_);refine goesL_ (some 82) rfl rfl Try.func31 (by kernel_rfl) rfl #[.int .i64 x14_16,.int .i64 (wrap64 (16384 + t143)),.int .i64 15] rfl (by (try simp only [List.map_toArray,List.map_cons,List.map_nil]);first|done|rfl|(simp only [List.length_drop,List.length_take];rfl)) ?_;(with_reducible refine (fix_Mul.calls kj16 x14_16 (wrap64 (16384 + t143)) 15 t144 _ A26.out).mono ?_);rintro e w' ⟨rfl,⟨nd,rfl⟩⟩;refine ⟨_,rfl,?_⟩;(try (rw [drewN_self w30];generalize hq_ : World.drewN w30 _ = w30;have n0_ : Aside0 (Kd.R (Kd.int .i64) 2 w30 w.heap.size (fun _ => True) (.slice Ao14 x10_2.length co14) x10_2):=⟨by rw [← hq_];exact (by (with_reducible repeat (first|apply ra_|apply rb_|apply rc_));exact HO_10.out)⟩;have n1_ : Aside0 (Below w.heap.size w w30):=⟨by rw [← hq_];exact (by repeat (first|(with_reducible first|exact HB.out|apply ba_|apply bb_|apply bc_)|exact HB.out))⟩;clear HO_10 HB hq_;have HO_10:=n0_;have HB:=n1_;clear n0_ n1_));have p29 : 0 ≤ (x40_2 : Int):=of_decide_eq_true (by first|(with_reducible assumption)|assumption);have q29 : (x40_2 : Int) < ((x10_2.length : Int) : Int):=of_decide_eq_true (by first|(with_reducible assumption)|assumption);obtain ⟨go29,co29,eo29,gb29,gl29,cl29,HG29⟩:=Kd.R_form HO_10.out (by omega);(first|cases eo29|(injection eo29 with ea_ en_ ec_;(first|subst ea_|(injection ea_ with ea_;subst ea_));subst ec_;clear en_));have GB29:=ak_ gb29;have GG29:=ak_ HG29;clear gb29 gl29 HG29;obtain ⟨hx29_0,hf29_0⟩:=Kd.R_celln 0 HO_10.out (x40_2 : Int) p29 q29;replace p29:=eq_true p29;replace q29:=eq_true q29;obtain ⟨hy31_,hz31_⟩:=Kd.R_celln 0 HO_10.out (x40_2 : Int) (of_decide_eq_true (by first|(with_reducible assumption)|assumption)) (of_decide_eq_true (by first|(with_reducible assumption)|assumption));have HP31:=Kd.R_putg HO_10.out (x40_2 : Int) t144)|((with_reducible refine gate_store (t:=2) (p:=83) rfl ?_);refine store_event (t:=2) (p:=83) (v:=?vo_w32) (w1:=(w30.setCell ⟨go29,(x40_2 : Int).toNat,none⟩ (.int .i64 t144))) ?hg ?ho ?hn ?hr ?_;(case ho => rfl);(case hg => rfl);(case hn => rfl);(case hr => first|(go_simp;done)|(go_simp;rfl));intro w32 hw;have hg : w30.grownBy w32 (some go29):=(by rw [hw];exact HP31.2);have hp_ : Kd.R (Kd.int .i64) 2 w32 w.heap.size (fun _ => True) (.slice (some ⟨go29,0,none⟩) x10_2.length co14) y145:=(by rw [hw,Ny145.out];exact HP31.1);clear HP31;have n0_:=ak_ (hp_);have n1_:=ak_ ((by rw [hw];exact below_set (HB.out) GB29.out : Below w.heap.size w w32));clear HO_10;clear HB;have HO_10:=n0_;have HB:=n1_;clear n0_ n1_;clear hg hw hp_;have p146 : 0 ≤ (x40_2 : Int):=of_decide_eq_true (by first|(with_reducible assumption)|assumption);have q146 : x40_2 < (y145.length : Int):=(by have h_ : (x40_2 : Int) < ((x10_2.length : Int) : Int):=of_decide_eq_true (by first|(with_reducible assumption)|assumption);first|(have e_:=(Kd.R_reads' HO_10.out).1;omega)|simpa only [Ny145.out,List.length_set] using h_);have ql146 : ((x40_2 : Int) < ((x10_2.length : Int) : Int)) = True:=eq_true (of_decide_eq_true (by first|(with_reducible assumption)|assumption));obtain ⟨ad146,e146,hx146_0⟩:=Kd.at_int (Kd.R_reads' HO_10.out).2.2 x40_2 p146 q146;obtain rfl : (⟨go29,0,none⟩ : Addr) = ad146:=(by injection e146);(first|simp only [add_plain] at hx146_0|simp only [add_at] at hx146_0|simp only [Addr.add,Nat.zero_add] at hx146_0|skip);replace p146:=eq_true p146;replace q146:=eq_true q146))
             (try simp only [← hl10_2])
             go_roundg kj16
             case measure => have:=HJ6.out;have:=HK2.out;have:=HJ16.out;omega
             case rel => exact ⟨(y145),(wrap64 (x11_2 + (rd y145 x40_2))),(wrap64 (x40_2 + 1)),(by first|rfl|(simp;done)|(simp [*];done)),(by first|rfl|(simp;done)|(simp [*];done)),H',⟨by have:=HJ6.out;have:=HK2.out;have:=HJ16.out;omega⟩,⟨by (try simp only [hl10_2]);(with_reducible repeat (first|apply ra_|apply rb_|apply rc_));exact HO_10.out⟩,⟨by repeat (first|(with_reducible first|exact HB.out|apply ba_|apply bb_|apply bc_)|exact HB.out)⟩⟩
            ·rw [if_neg c28] at H
             exact absurd H (by simp)
           ·rw [if_neg c27] at H
            exact absurd H (by simp)
        ·rw [if_neg c15] at H
         have c15b0:=decide_eq_false c15
         (try (have c15h0:=c15b0;simp only [hl10_2] at c15h0))
         clear c15
         by_cases c33 : 7 < (x10_2.length : Int)
         ·rw [if_pos c33] at H
          have c33b0:=decide_eq_true c33
          have c33b1 : decide (7 < x10_2.length) = true:=decide_eq_true (by omega)
          (try (have c33h0:=c33b0;simp only [hl10_2] at c33h0))
          (try (have c33h1:=c33b1;simp only [hl10_2] at c33h1))
          clear c33
          obtain ⟨y136,hy136⟩ : ∃ y_ : List Int,y_ = (x10_2.set (7 : Int).toNat (wrap64 ((rd x10_2 7) + (wrap64 (32768 - x11_2))))):=⟨_,rfl⟩
          replace H : (some y136) = some r:=by first|(rw [hy136];with_reducible exact H)|(have H2_:=(Option.bind_some _ _).symm.trans H;rw [hy136];with_reducible exact H2_)|(have H2_:=(Option.bind_some _ _).symm.trans H;with_reducible exact H2_)|with_reducible exact H|(rw [hy136];exact H)|exact H
          have Ny136:=ak_ hy136
          clear hy136
          obtain rfl:=Option.some.inj H
          have p135 : 0 ≤ (7 : Int):=(by omega)
          have q135 : 7 < (x10_2.length : Int):=of_decide_eq_true (by first|(with_reducible assumption)|assumption)
          obtain ⟨ad135,e135,hx135_0⟩:=Kd.at_int (Kd.R_reads' HO_10.out).2.2 7 p135 q135
          cases e135
          (try simp only [show (7 : Int).toNat = 7 from rfl,Nat.reduceMul,Nat.reduceEqDiff,Go.Addr.add,↓reduceIte] at hx135_0)
          have qi135 : (7 < x10_2.length) = True:=eq_true (by omega)
          (try rw [show ((7 : Int)).toNat = 7 from rfl] at hx135_0)
          replace p135:=eq_true p135
          replace q135:=eq_true q135
          have p34 : 0 ≤ (7 : Int):=(by omega)
          have q34 : (7 : Int) < ((x10_2.length : Int) : Int):=of_decide_eq_true (by first|(with_reducible assumption)|assumption)
          have qi34 : (7 < x10_2.length) = True:=eq_true (by omega)
          obtain ⟨go34,co34,eo34,gb34,gl34,cl34,HG34⟩:=Kd.R_form HO_10.out (by omega)
          (first|cases eo34|(injection eo34 with ea_ en_ ec_;(first|subst ea_|(injection ea_ with ea_;subst ea_));subst ec_;clear en_))
          have GB34:=ak_ gb34
          have GG34:=ak_ HG34
          clear gb34 gl34 HG34
          (first|simp only [add_plain] at hx135_0|skip)
          obtain ⟨hx34_0,hf34_0⟩:=Kd.R_celln 0 HO_10.out (7 : Int) p34 q34
          (try rw [show ((7 : Int)).toNat = 7 from rfl] at hx34_0)
          (try simp only [Nat.reduceMul,Nat.zero_mul,Nat.zero_add,Nat.reduceAdd] at hx34_0)
          (try rw [show ((7 : Int)).toNat = 7 from rfl] at hf34_0)
          (try simp only [Nat.reduceMul,Nat.zero_mul,Nat.zero_add,Nat.reduceAdd] at hf34_0)
          replace p34:=eq_true p34
          replace q34:=eq_true q34
          have HP35:=Kd.R_putg HO_10.out (7 : Int) (wrap64 ((rd x10_2 7) + (wrap64 (32768 - x11_2))))
          go_wp2_with (first|((with_reducible refine gate_store (t:=2) (p:=97) rfl ?_);refine store_event (t:=2) (p:=97) (v:=?vo_w36) (w1:=(wr.setCell ⟨go34,(7 : Int).toNat,none⟩ (.int .i64 (wrap64 ((rd x10_2 7) + (wrap64 (32768 - x11_2))))))) ?hg ?ho ?hn ?hr ?_;(case ho => rfl);(case hg => rfl);(case hn => rfl);(case hr => first|(go_simp;done)|(go_simp;rfl));intro w36 hw;have hg : wr.grownBy w36 (some go34):=(by rw [hw];exact HP35.2);have hp_ : Kd.R (Kd.int .i64) 2 w36 w.heap.size (fun _ => True) (.slice (some ⟨go34,0,none⟩) x10_2.length co14) y136:=(by rw [hw,Ny136.out];exact HP35.1);clear HP35;have n0_:=ak_ (hp_);have n1_:=ak_ ((by rw [hw];exact below_set (HB.out) GB34.out : Below w.heap.size w w36));clear HO_10;clear HB;have HO_10:=n0_;have HB:=n1_;clear n0_ n1_;clear hg hw hp_))
          go_ret
          exact ⟨_,by first|rfl|(simp [errW_none,errW_some] <;> rfl)|(simp only [← hji10];first|rfl|(simp [errW_none,errW_some] <;> rfl))|(simp [*,errW_none,errW_some] <;> rfl),by (with_reducible repeat (first|apply ra_|apply rb_|apply rc_));exact HO_10.out,by repeat (first|(with_reducible first|exact HB.out|apply ba_|apply bb_|apply bc_)|exact HB.out)⟩
         ·rw [if_neg c33] at H
          exact absurd H (by simp)
     ·rw [if_neg c11] at H
      exact absurd H (by simp)
 ·replace c5:=Bool.eq_false_iff.mpr c5
  subst c5
  have H1 : (some ([] : List Int)) = some r:=by rw [if_neg (show ¬ (false = true) by decide)] at H;exact H
  clear H
  have H:=H1
  clear H1
  obtain rfl:=Option.some.inj H
  go_enter Try.func14,Try.ntmps14
  go_wp2_with (first|((with_reducible refine gate_callee (f:=16) rfl ?_);refine goesL_ (some 19) rfl rfl Try.func16 (by kernel_rfl) rfl #[.int .i64 a0,.int .i64 a1] rfl (by (try simp only [List.map_toArray,List.map_cons,List.map_nil]);first|done|rfl|(simp only [List.length_drop,List.length_take];rfl)) ?_;(with_reducible refine (resamp_Good.calls a0 a1 false _ A4.out).mono ?_);rintro e w' ⟨rfl,⟨nd,rfl⟩⟩;refine ⟨_,rfl,?_⟩))
  go_ret
  exact ⟨_,by first|rfl|(simp [errW_none,errW_some] <;> rfl)|(simp [*,errW_none,errW_some] <;> rfl),by first|exact Kd.R_nil _ _ _ _ _|exact Kd.N_nil _ _ _ _ _|exact Kd.V_nil _ _ _ _ _|exact Kd.Q_nil _ _ _ _ _|exact Kd.S_nil _ _ _ _ _,by repeat (first|(with_reducible first|exact HB.out|apply ba_|apply bb_|apply bc_)|exact HB.out)⟩

end Go.Proofs.Ytcicenmmpbgmoaa.P
