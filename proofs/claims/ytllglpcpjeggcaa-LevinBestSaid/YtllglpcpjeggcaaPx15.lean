/- The machine side of the laws of one chapter, without conditions: each call of a Go function comes to what the Lean function of its name answers. Written for this claim by a program of the prover. -/
import Derived.Test.YtllglpcpjeggcaaPx0
namespace Go.Proofs.Ytllglpcpjeggcaa.P
open Go.RowKit Go.Proofs.YtllglpcpjeggcaaW.PrintWords Go.Proofs.YtllglpcpjeggcaaW.PrintLast Go.Proofs.YtllglpcpjeggcaaW.PrintMore
attribute [local go_sem] max2_int min2_int max_two min_two max_three min_three max_four min_four   -- for this text's walks alone
set_option linter.unusedVariables false
set_option linter.unusedSimpArgs false

/-! ### tabs_Lsf: function 43 -/
mutual
def tabs_Lsf.j0 : Nat → Int → Int → Bool → Option (List Int)
 | 0,_,_,_ => none
 | k + 1,x0,x1,x21 => if x21 = true then (some ([] : List Int)) else (if x0 = 16 then (tabs_Lsf.j1 k x0 x1 14) else (tabs_Lsf.j1 k x0 x1 24))
def tabs_Lsf.j1 : Nat → Int → Int → Int → Option (List Int)
 | 0,_,_,_ => none
 | k + 1,x0,x1,x5 => if 0 ≤ x0 then (if (x0 : Int).toNat ≤ 35184372088832 then ((some (List.replicate (x0 : Int).toNat 0 : List Int)).bind fun y243 => (tabs_Lsf.l0 k x0 x1 x5 y243 (y243.length : Int) 0)) else (none)) else (none)
def tabs_Lsf.l0 : Nat → Int → Int → Int → List Int → Int → Int → Option (List Int)
 | 0,_,_,_,_,_,_ => none
 | k + 1,x0,x1,x5,x6,x27,x28 => if x28 < x27 then (if (wrap64 (x0 + 1)) = 0 then (none) else (if 0 ≤ x28 then (if x28 < (x6.length : Int) then (tabs_Lsf.l0 k x0 x1 x5 (x6.set (x28 : Int).toNat (wrap64 ((wrap64 (Int.tdiv (wrap64 (32768 * (wrap64 (x28 + 1)))) (wrap64 (x0 + 1)))) + (wrap64 (x5 * (wrap64 ((Int.tmod (wrap64 ((wrap64 (37 * x1)) + (wrap64 (53 * x28)))) 64) - 32))))))) x27 (wrap64 (x28 + 1))) else (none)) else (none))) else (some x6)
end
def tabs_Lsf.f (k : Nat) (a0 : Int) (a1 : Int) : Option (List Int):=if a0 = 10 then (if a1 < 0 then (tabs_Lsf.j0 k a0 a1 true) else (tabs_Lsf.j0 k a0 a1 (decide (a1 ≥ 16)))) else (if a0 = 16 then (if a1 < 0 then (tabs_Lsf.j0 k a0 a1 true) else (tabs_Lsf.j0 k a0 a1 (decide (a1 ≥ 16)))) else (tabs_Lsf.j0 k a0 a1 true))
theorem tabs_Lsf.mono_l : ∀ k,(∀ y0 y1 y2,LeO (tabs_Lsf.j0 k y0 y1 y2) (tabs_Lsf.j0 (k + 1) y0 y1 y2)) ∧ (∀ y0 y1 y2,LeO (tabs_Lsf.j1 k y0 y1 y2) (tabs_Lsf.j1 (k + 1) y0 y1 y2)) ∧ (∀ y0 y1 y2 y3 y4 y5,LeO (tabs_Lsf.l0 k y0 y1 y2 y3 y4 y5) (tabs_Lsf.l0 (k + 1) y0 y1 y2 y3 y4 y5))
 | 0 => ⟨fun _ _ _ r h => by simp [tabs_Lsf.j0] at h,fun _ _ _ r h => by simp [tabs_Lsf.j1] at h,fun _ _ _ _ _ _ r h => by simp [tabs_Lsf.l0] at h⟩
 | k + 1 => by
  obtain ⟨ih0,ih1,ih2⟩:=tabs_Lsf.mono_l k
  refine ⟨?_,?_,?_⟩
  all_goals (intros;first|unfold tabs_Lsf.j0|unfold tabs_Lsf.j1|unfold tabs_Lsf.l0)
  all_goals (repeat' first|(with_reducible first|exact ih0 _ _ _|exact ih1 _ _ _|exact ih2 _ _ _ _ _ _|exact LeO.refl _|exact LeO.none _|refine LeO.ite ?_ ?_|refine LeO.bind ?_ (fun _ => ?_))|exact ih0 _ _ _|exact ih1 _ _ _|exact ih2 _ _ _ _ _ _|exact LeO.none _|refine LeO.ite ?_ ?_|refine LeO.bind ?_ (fun _ => ?_))
theorem tabs_Lsf.mono : ∀ a0 a1 k,LeO (tabs_Lsf.f k a0 a1) (tabs_Lsf.f (k + 1) a0 a1):=by
 intro a0 a1 k
 obtain ⟨ih0,ih1,ih2⟩:=tabs_Lsf.mono_l k
 unfold tabs_Lsf.f
 repeat' first|(with_reducible first|exact ih0 _ _ _|exact ih1 _ _ _|exact ih2 _ _ _ _ _ _|exact LeO.refl _|exact LeO.none _|refine LeO.ite ?_ ?_|refine LeO.bind ?_ (fun _ => ?_))|exact ih0 _ _ _|exact ih1 _ _ _|exact ih2 _ _ _ _ _ _|exact LeO.none _|refine LeO.ite ?_ ?_|refine LeO.bind ?_ (fun _ => ?_)
set_option maxHeartbeats 8000000 in
set_option maxRecDepth 100000 in
theorem tabs_Lsf.calls (k : Nat) (a0 : Int) (a1 : Int) (r : List Int) (w : World) (h : tabs_Lsf.f k a0 a1 = some r) :
  Calls Try.prog 43 #[.int .i64 a0,.int .i64 a1] w fun e w' => ∃ v0_ : Value,e = .returned (v0_) ∧ Kd.R (Kd.int .i64) 2 w' w.heap.size (fun _ => True) v0_ r ∧ Below w.heap.size w w':=by
 have HB:=ak_ (Below.refl w.heap.size w)
 have H : (if a0 = 10 then (if a1 < 0 then (tabs_Lsf.j0 k a0 a1 true) else (tabs_Lsf.j0 k a0 a1 (decide (a1 ≥ 16)))) else (if a0 = 16 then (if a1 < 0 then (tabs_Lsf.j0 k a0 a1 true) else (tabs_Lsf.j0 k a0 a1 (decide (a1 ≥ 16)))) else (tabs_Lsf.j0 k a0 a1 true))) = some r:=h
 clear h
 have HC3:=ak_ H
 clear H
 go_enter Try.func43,Try.ntmps43
 go_upto_region 1 with (fail)
 go_cut [21] (fun v21 wc => ∃ (kq : Nat) (x21_2 : Bool),v21 = .bool x21_2 ∧ Aside0 (tabs_Lsf.j0 kq a0 a1 x21_2 = some r) ∧ Aside0 (kq ≤ k) ∧ Aside0 (Below w.heap.size w wc))
 case first =>
  have H:=HC3.out
  clear HC3
  by_cases c4 : a0 = 10
  ·rw [if_pos c4] at H
   have c4b0 : (a0 == 10) = true:=beq_iff_eq.mpr c4
   have c4b1 : (a0 != 10) = false:=bne_eq_false_iff_eq.mpr c4
   clear c4
   (first|rw [c4b0]|(simp only [i64_w,i32_w];rw [c4b0])|skip)
   by_cases c5 : a1 < 0
   ·rw [if_pos c5] at H
    have c5b0:=decide_eq_true c5
    clear c5
    have H':=ak_ H
    clear H
    go_wp2
    refine Met.intro ?_
    go_step
    (repeat apply Exists.intro)
    first|refine ⟨?rel53,rfl⟩|(refine ⟨?rel53,?st53⟩;case' st53 => (first|rw [c5b0]|simp only [c5b0]))
    case rel53 => exact ⟨_,(true),(by first|rfl|(simp;done)|(simp [*];done)),H',⟨by first|omega|exact Nat.le_refl _⟩,⟨by repeat (first|(with_reducible first|exact HB.out|apply ba_|apply bb_|apply bc_)|exact HB.out)⟩⟩
   ·rw [if_neg c5] at H
    have c5b0:=decide_eq_false c5
    clear c5
    have H':=ak_ H
    clear H
    go_wp2
    refine Met.intro ?_
    go_step
    (repeat apply Exists.intro)
    first|refine ⟨?rel61,rfl⟩|(refine ⟨?rel61,?st61⟩;case' st61 => (first|rw [c5b0]|simp only [c5b0]))
    case rel61 => exact ⟨_,(decide (a1 ≥ 16)),(by first|rfl|(simp;done)|(simp [*];done)),H',⟨by first|omega|exact Nat.le_refl _⟩,⟨by repeat (first|(with_reducible first|exact HB.out|apply ba_|apply bb_|apply bc_)|exact HB.out)⟩⟩
  ·rw [if_neg c4] at H
   have c4b0 : (a0 == 10) = false:=beq_eq_false_iff_ne.mpr c4
   have c4b1 : (a0 != 10) = true:=bne_iff_ne.mpr c4
   (first|rw [c4b0]|(simp only [i64_w,i32_w];rw [c4b0])|skip)
   by_cases c6 : a0 = 16
   ·rw [if_pos c6] at H
    have c6b0 : (a0 == 16) = true:=beq_iff_eq.mpr c6
    have c6b1 : (a0 != 16) = false:=bne_eq_false_iff_eq.mpr c6
    clear c6
    by_cases c7 : a1 < 0
    ·rw [if_pos c7] at H
     have c7b0:=decide_eq_true c7
     clear c7
     have H':=ak_ H
     clear H
     go_wp2
     refine Met.intro ?_
     go_step
     (repeat apply Exists.intro)
     first|refine ⟨?rel79,rfl⟩|(refine ⟨?rel79,?st79⟩;case' st79 => (first|rw [c7b0]|simp only [c7b0]))
     case rel79 => exact ⟨_,(true),(by first|rfl|(simp;done)|(simp [*];done)),H',⟨by first|omega|exact Nat.le_refl _⟩,⟨by repeat (first|(with_reducible first|exact HB.out|apply ba_|apply bb_|apply bc_)|exact HB.out)⟩⟩
    ·rw [if_neg c7] at H
     have c7b0:=decide_eq_false c7
     clear c7
     have H':=ak_ H
     clear H
     go_wp2
     refine Met.intro ?_
     go_step
     (repeat apply Exists.intro)
     first|refine ⟨?rel87,rfl⟩|(refine ⟨?rel87,?st87⟩;case' st87 => (first|rw [c7b0]|simp only [c7b0]))
     case rel87 => exact ⟨_,(decide (a1 ≥ 16)),(by first|rfl|(simp;done)|(simp [*];done)),H',⟨by first|omega|exact Nat.le_refl _⟩,⟨by repeat (first|(with_reducible first|exact HB.out|apply ba_|apply bb_|apply bc_)|exact HB.out)⟩⟩
   ·rw [if_neg c6] at H
    have c6b0 : (a0 == 16) = false:=beq_eq_false_iff_ne.mpr c6
    have c6b1 : (a0 != 16) = true:=bne_iff_ne.mpr c6
    have H':=ak_ H
    clear H
    go_wp2
    go_meet
    case rel => exact ⟨_,(true),(by first|rfl|(simp;done)|(simp [*];done)),H',⟨by first|omega|exact Nat.le_refl _⟩,⟨by repeat (first|(with_reducible first|exact HB.out|apply ba_|apply bb_|apply bc_)|exact HB.out)⟩⟩
 case rest =>
  clear HC3
  try clear p2
  try clear c4
  try clear c4b0
  try clear c4b1
  try clear c5
  try clear c5b0
  try clear c6
  try clear c6b0
  try clear c6b1
  try clear c7
  try clear c7b0
  obtain ⟨kq,x21_2,rfl,HA,HJ2,HB⟩:=hcut
  (try simp only [i64_w,i32_w])
  cases kq with
  | zero => exact absurd HA.out (by simp [tabs_Lsf.j0])
  | succ kj2 =>
   have H:=HA.out
   clear HA
   simp only [tabs_Lsf.j0] at H
   by_cases c8 : x21_2 = true
   ·subst c8
    have H1 : (some ([] : List Int)) = some r:=by rw [if_pos rfl] at H;exact H
    clear H
    have H:=H1
    clear H1
    obtain rfl:=Option.some.inj H
    go_wp2
    go_ret
    exact ⟨_,by first|rfl|(simp [errW_none,errW_some] <;> rfl)|(simp [*,errW_none,errW_some] <;> rfl),by first|exact Kd.R_nil _ _ _ _ _|exact Kd.N_nil _ _ _ _ _|exact Kd.V_nil _ _ _ _ _|exact Kd.Q_nil _ _ _ _ _|exact Kd.S_nil _ _ _ _ _,by repeat (first|(with_reducible first|exact HB.out|apply ba_|apply bb_|apply bc_)|exact HB.out)⟩
   ·replace c8:=Bool.eq_false_iff.mpr c8
    subst c8
    have H1 : (if a0 = 16 then (tabs_Lsf.j1 kj2 a0 a1 14) else (tabs_Lsf.j1 kj2 a0 a1 24)) = some r:=by rw [if_neg (show ¬ (false = true) by decide)] at H;exact H
    clear H
    have H:=H1
    clear H1
    have HC9:=ak_ H
    clear H
    go_upto_if 23 with (fail)
    go_cut [5] (fun v5 wc => ∃ (kq : Nat) (x5_8 : Int),v5 = .int .i64 x5_8 ∧ Aside0 (tabs_Lsf.j1 kq a0 a1 x5_8 = some r) ∧ Aside0 (kq ≤ kj2) ∧ Aside0 (Below w.heap.size w wc))
    case first =>
     have H:=HC9.out
     clear HC9
     by_cases c10 : a0 = 16
     ·rw [if_pos c10] at H
      have c10b0 : (a0 == 16) = true:=beq_iff_eq.mpr c10
      have c10b1 : (a0 != 16) = false:=bne_eq_false_iff_eq.mpr c10
      clear c10
      (first|rw [c10b0]|(simp only [i64_w,i32_w];rw [c10b0])|skip)
      have H':=ak_ H
      clear H
      go_wp2
      go_meet
      case rel => exact ⟨_,(14),(by first|rfl|(simp;done)|(simp [*];done)),H',⟨by have:=HJ2.out;first|omega|exact Nat.le_refl _⟩,⟨by repeat (first|(with_reducible first|exact HB.out|apply ba_|apply bb_|apply bc_)|exact HB.out)⟩⟩
     ·rw [if_neg c10] at H
      have c10b0 : (a0 == 16) = false:=beq_eq_false_iff_ne.mpr c10
      have c10b1 : (a0 != 16) = true:=bne_iff_ne.mpr c10
      (first|rw [c10b0]|(simp only [i64_w,i32_w];rw [c10b0])|skip)
      have H':=ak_ H
      clear H
      go_wp2
      go_meet
      case rel => exact ⟨_,(24),(by first|rfl|(simp;done)|(simp [*];done)),H',⟨by have:=HJ2.out;first|omega|exact Nat.le_refl _⟩,⟨by repeat (first|(with_reducible first|exact HB.out|apply ba_|apply bb_|apply bc_)|exact HB.out)⟩⟩
    case rest =>
     clear HC9
     try clear c1
     try clear p2
     try clear c4
     try clear c4b0
     try clear c4b1
     try clear c5
     try clear c5b0
     try clear c6
     try clear c6b0
     try clear c6b1
     try clear c7
     try clear c7b0
     try clear c8
     try clear c10
     try clear c10b0
     try clear c10b1
     try clear p2
     obtain ⟨kq,x5_8,rfl,HA,HJ8,HB⟩:=hcut
     (try simp only [i64_w,i32_w])
     cases kq with
     | zero => exact absurd HA.out (by simp [tabs_Lsf.j1])
     | succ kj8 =>
      have H:=HA.out
      clear HA
      simp only [tabs_Lsf.j1] at H
      by_cases c11 : 0 ≤ a0
      ·rw [if_pos c11] at H
       have c11b0:=eq_true c11
       have c11b1 : decide (0 ≤ a0) = true:=decide_eq_true c11
       clear c11
       by_cases c12 : (a0 : Int).toNat ≤ 35184372088832
       ·rw [if_pos c12] at H
        have c12b0:=eq_true c12
        have c12b1 : decide ((a0 : Int).toNat ≤ 35184372088832) = true:=decide_eq_true c12
        clear c12
        obtain ⟨y243,hy243⟩ : ∃ y_ : List Int,y_ = (List.replicate (a0 : Int).toNat 0):=⟨_,rfl⟩
        replace H : (tabs_Lsf.l0 kj8 a0 a1 x5_8 y243 (y243.length : Int) 0) = some r:=by first|(rw [hy243];with_reducible exact H)|(have H2_:=(Option.bind_some _ _).symm.trans H;rw [hy243];with_reducible exact H2_)|(have H2_:=(Option.bind_some _ _).symm.trans H;with_reducible exact H2_)|with_reducible exact H|(rw [hy243];exact H)|exact H
        have Ny243:=ak_ hy243
        clear hy243
        have H':=ak_ H
        clear H
        go_wp2_with (first|((with_reducible refine gate_dst (N:=25) rfl ?_);refine Kd.R_make (Kd.int .i64) _ 2 rfl (N:=25) rfl 23 _ _ rfl a0 rfl rfl Try.underlying23 (.int .i64 0) 8 info2 rfl (by decide) (by omega) 0 (ok:=fun _ => True) (okp:=fun _ => True) rfl (fun _ hk => hk) trivial (of_decide_eq_true (by first|(with_reducible assumption)|assumption)) (Nat.le_trans (Nat.mul_le_mul_right _ (of_decide_eq_true (by first|(with_reducible assumption)|assumption) : a0.toNat ≤ 35184372088832)) (by omega)) (Below.refl _ _) (Nat.le_refl _) ?_;intro v244 w13 ho14 hb hg_ hnew_;clear hg_ hnew_;(first|rw [← Ny243.out] at ho14|(simp only [Int.reduceToNat] at ho14;rw [← Ny243.out] at ho14));have n0_:=ak_ (Kd.R_lower ho14 (below_size (by repeat (first|(with_reducible first|exact HB.out|apply ba_|apply bb_|apply bc_)|exact HB.out))));have n1_:=ak_ (below_step (by repeat (first|(with_reducible first|exact HB.out|apply ba_|apply bb_|apply bc_)|exact HB.out)) hb);clear HB;have HO245:=n0_;have HB:=n1_;clear n0_ n1_;clear hb ho14;obtain ⟨Ao15,co15,eo15⟩:=Kd.R_slice HO245.out;subst eo15))
        go_loopg [28] kj8 (fun kq v28 w' => ∃ (x6_3 : List Int) (x28_3 : Int),v28 = .int .i64 x28_3 ∧ Aside0 (tabs_Lsf.l0 kq a0 a1 x5_8 x6_3 (y243.length : Int) x28_3 = some r) ∧ Aside0 (kq ≤ kj8) ∧ Aside0 (Kd.R (Kd.int .i64) 2 w' w.heap.size (fun _ => True) (.slice Ao15 y243.length co15) x6_3) ∧ Aside0 (Below w.heap.size w w'))
        case atStart => exact ⟨(y243),(0),(by first|rfl|(simp;done)|(simp [*];done)),H',⟨Nat.le_refl _⟩,⟨by (with_reducible repeat (first|apply ra_|apply rb_|apply rc_));exact HO245.out⟩,⟨by repeat (first|(with_reducible first|exact HB.out|apply ba_|apply bb_|apply bc_)|exact HB.out)⟩⟩
        case round =>
         clear H'
         try clear c1
         try clear p2
         try clear c4
         try clear c4b0
         try clear c4b1
         try clear c5
         try clear c5b0
         try clear c6
         try clear c6b0
         try clear c6b1
         try clear c7
         try clear c7b0
         try clear c8
         try clear c10
         try clear c10b0
         try clear c10b1
         try clear c11
         try clear c11b0
         try clear c11b1
         try clear c12
         try clear c12b0
         try clear c12b1
         try clear p2
         obtain ⟨x6_3,x28_3,rfl,HA,HK3,HO_6,HB⟩:=hrel
         (try simp only [i64_w,i32_w])
         have hl6_3:=(Kd.R_reads' HO_6.out).1
         rw [hl6_3] at HO_6
         (try simp only [hl6_3])
         cases gk with
         | zero => exact absurd HA.out (by simp [tabs_Lsf.l0])
         | succ k3 =>
          have H:=HA.out
          clear HA
          simp only [tabs_Lsf.l0] at H
          by_cases c16 : x28_3 < (y243.length : Int)
          ·rw [if_pos c16] at H
           have c16b0:=decide_eq_true c16
           (try (have c16h0:=c16b0;simp only [hl6_3] at c16h0))
           clear c16
           by_cases c17 : (wrap64 (a0 + 1)) = 0
           ·rw [if_pos c17] at H
            exact absurd H (by simp)
           ·rw [if_neg c17] at H
            have c17b0 : ((wrap64 (a0 + 1)) == 0) = false:=beq_eq_false_iff_ne.mpr c17
            have c17b1 : ((wrap64 (a0 + 1)) != 0) = true:=bne_iff_ne.mpr c17
            (try (have c17h0:=c17b0;simp only [hl6_3] at c17h0))
            (try (have c17h1:=c17b1;simp only [hl6_3] at c17h1))
            by_cases c18 : 0 ≤ x28_3
            ·rw [if_pos c18] at H
             have c18b0:=decide_eq_true c18
             (try (have c18h0:=c18b0;simp only [hl6_3] at c18h0))
             clear c18
             by_cases c19 : x28_3 < (x6_3.length : Int)
             ·rw [if_pos c19] at H
              have c19b0:=decide_eq_true c19
              (try (have c19h0:=c19b0;simp only [hl6_3] at c19h0))
              clear c19
              obtain ⟨y246,hy246⟩ : ∃ y_ : List Int,y_ = (x6_3.set (x28_3 : Int).toNat (wrap64 ((wrap64 (Int.tdiv (wrap64 (32768 * (wrap64 (x28_3 + 1)))) (wrap64 (a0 + 1)))) + (wrap64 (x5_8 * (wrap64 ((Int.tmod (wrap64 ((wrap64 (37 * a1)) + (wrap64 (53 * x28_3)))) 64) - 32))))))):=⟨_,rfl⟩
              replace H : (tabs_Lsf.l0 k3 a0 a1 x5_8 y246 (y243.length : Int) (wrap64 (x28_3 + 1))) = some r:=by first|(rw [hy246];with_reducible exact H)|(have H2_:=(Option.bind_some _ _).symm.trans H;rw [hy246];with_reducible exact H2_)|(have H2_:=(Option.bind_some _ _).symm.trans H;with_reducible exact H2_)|with_reducible exact H|(rw [hy246];exact H)|exact H
              have Ny246:=ak_ hy246
              clear hy246
              have H':=ak_ H
              clear H
              have p20 : 0 ≤ (x28_3 : Int):=of_decide_eq_true (by first|(with_reducible assumption)|assumption)
              have q20 : (x28_3 : Int) < ((x6_3.length : Int) : Int):=of_decide_eq_true (by first|(with_reducible assumption)|assumption)
              obtain ⟨go20,co20,eo20,gb20,gl20,cl20,HG20⟩:=Kd.R_form HO_6.out (by omega)
              (first|cases eo20|(injection eo20 with ea_ en_ ec_;(first|subst ea_|(injection ea_ with ea_;subst ea_));subst ec_;clear en_))
              have GB20:=ak_ gb20
              have GG20:=ak_ HG20
              clear gb20 gl20 HG20
              obtain ⟨hx20_0,hf20_0⟩:=Kd.R_celln 0 HO_6.out (x28_3 : Int) p20 q20
              replace p20:=eq_true p20
              replace q20:=eq_true q20
              have HP21:=Kd.R_putg HO_6.out (x28_3 : Int) (wrap64 ((wrap64 (Int.tdiv (wrap64 (32768 * (wrap64 (x28_3 + 1)))) (wrap64 (a0 + 1)))) + (wrap64 (x5_8 * (wrap64 ((Int.tmod (wrap64 ((wrap64 (37 * a1)) + (wrap64 (53 * x28_3)))) 64) - 32))))))
              go_wp2_with (first|((with_reducible refine gate_store (t:=2) (p:=49) rfl ?_);refine store_event (t:=2) (p:=49) (v:=?vo_w22) (w1:=(wr.setCell ⟨go20,(x28_3 : Int).toNat,none⟩ (.int .i64 (wrap64 ((wrap64 (Int.tdiv (wrap64 (32768 * (wrap64 (x28_3 + 1)))) (wrap64 (a0 + 1)))) + (wrap64 (x5_8 * (wrap64 ((Int.tmod (wrap64 ((wrap64 (37 * a1)) + (wrap64 (53 * x28_3)))) 64) - 32))))))))) ?hg ?ho ?hn ?hr ?_;(case ho => rfl);(case hg => rfl);(case hn => rfl);(case hr => first|(go_simp;done)|(go_simp;rfl));intro w22 hw;have hg : wr.grownBy w22 (some go20):=(by rw [hw];exact HP21.2);have hp_ : Kd.R (Kd.int .i64) 2 w22 w.heap.size (fun _ => True) (.slice (some ⟨go20,0,none⟩) x6_3.length co15) y246:=(by rw [hw,Ny246.out];exact HP21.1);clear HP21;have n0_:=ak_ (hp_);have n1_:=ak_ ((by rw [hw];exact below_set (HB.out) GB20.out : Below w.heap.size w w22));clear HO_6;clear HB;have HO_6:=n0_;have HB:=n1_;clear n0_ n1_;clear hg hw hp_))
              (try simp only [← hl6_3])
              go_roundg k3
              case measure => have:=HJ2.out;have:=HJ8.out;have:=HK3.out;omega
              case rel => exact ⟨(y246),(wrap64 (x28_3 + 1)),(by first|rfl|(simp;done)|(simp [*];done)),H',⟨by have:=HJ2.out;have:=HJ8.out;have:=HK3.out;omega⟩,⟨by (try simp only [hl6_3]);(with_reducible repeat (first|apply ra_|apply rb_|apply rc_));exact HO_6.out⟩,⟨by repeat (first|(with_reducible first|exact HB.out|apply ba_|apply bb_|apply bc_)|exact HB.out)⟩⟩
             ·rw [if_neg c19] at H
              exact absurd H (by simp)
            ·rw [if_neg c18] at H
             exact absurd H (by simp)
          ·rw [if_neg c16] at H
           have c16b0:=decide_eq_false c16
           (try (have c16h0:=c16b0;simp only [hl6_3] at c16h0))
           clear c16
           obtain rfl:=Option.some.inj H
           go_wp2
           go_ret
           exact ⟨_,by first|rfl|(simp [errW_none,errW_some] <;> rfl)|(simp [*,errW_none,errW_some] <;> rfl),by (with_reducible repeat (first|apply ra_|apply rb_|apply rc_));exact HO_6.out,by repeat (first|(with_reducible first|exact HB.out|apply ba_|apply bb_|apply bc_)|exact HB.out)⟩
       ·rw [if_neg c12] at H
        exact absurd H (by simp)
      ·rw [if_neg c11] at H
       exact absurd H (by simp)

end Go.Proofs.Ytllglpcpjeggcaa.P
