/- The machine side of the laws of one chapter, without conditions: each call of a Go function comes to what the Lean function of its name answers. Written for this claim by a program of the prover. -/
import Derived.Test.YtllglpcpjeggcaaPx0
import Derived.Test.YtllglpcpjeggcaaPx2
namespace Go.Proofs.Ytllglpcpjeggcaa.P
open Go.RowKit Go.Proofs.YtllglpcpjeggcaaW.PrintWords Go.Proofs.YtllglpcpjeggcaaW.PrintLast Go.Proofs.YtllglpcpjeggcaaW.PrintMore
attribute [local go_sem] max2_int min2_int max_two min_two max_three min_three max_four min_four   -- for this text's walks alone
set_option linter.unusedVariables false
set_option linter.unusedSimpArgs false

/-! ### levin_Auto: function 11 -/
mutual
def levin_Auto.j0 : Nat → List Int → Int → Bool → Option (List Int × Int)
 | 0,_,_,_ => none
 | k + 1,x0,x1,x19 => if x19 = true then (some (([] : List Int),1)) else ((levin_sound.f k x0).bind fun t108 => (if 0 ≤ (wrap64 (x1 + 1)) then (if (wrap64 (x1 + 1) : Int).toNat ≤ 35184372088832 then ((some (List.replicate (wrap64 (x1 + 1) : Int).toNat 0 : List Int)).bind fun y111 => (levin_Auto.l0 k t108 y111 (y111.length : Int) 0)) else (none)) else (none)))
def levin_Auto.l0 : Nat → List Int → List Int → Int → Int → Option (List Int × Int)
 | 0,_,_,_,_ => none
 | k + 1,x0,x6,x26,x27 => if x27 < x26 then (levin_Auto.l1 k x0 x6 x27 x27 x26 x27) else (some (x6,0))
def levin_Auto.l1 : Nat → List Int → List Int → Int → Int → Int → Int → Option (List Int × Int)
 | 0,_,_,_,_,_,_ => none
 | k + 1,x0,x6,x7,x8,x26,x27 => if x8 < (x0.length : Int) then (if 0 ≤ x7 then (if x7 < (x6.length : Int) then (if 0 ≤ x8 then (if 0 ≤ (wrap64 (x8 - x7)) then (if (wrap64 (x8 - x7)) < (x0.length : Int) then (levin_Auto.l1 k x0 (x6.set (x7 : Int).toNat (wrap64 ((rd x6 x7) + (wrap64 ((rd x0 x8) * (rd x0 (wrap64 (x8 - x7)))))))) x7 (wrap64 (x8 + 1)) x26 x27) else (none)) else (none)) else (none)) else (none)) else (none)) else (levin_Auto.l0 k x0 x6 x26 (wrap64 (x27 + 1)))
end
def levin_Auto.f (k : Nat) (l0 : List Int) (a1 : Int) : Option (List Int × Int):=if (l0.length : Int) > 960 then (levin_Auto.j0 k l0 a1 true) else (if a1 < 1 then (levin_Auto.j0 k l0 a1 true) else (levin_Auto.j0 k l0 a1 (decide (a1 > 32))))
theorem levin_Auto.mono_l : ∀ k,(∀ y0 y1 y2,LeO (levin_Auto.j0 k y0 y1 y2) (levin_Auto.j0 (k + 1) y0 y1 y2)) ∧ (∀ y0 y1 y2 y3,LeO (levin_Auto.l0 k y0 y1 y2 y3) (levin_Auto.l0 (k + 1) y0 y1 y2 y3)) ∧ (∀ y0 y1 y2 y3 y4 y5,LeO (levin_Auto.l1 k y0 y1 y2 y3 y4 y5) (levin_Auto.l1 (k + 1) y0 y1 y2 y3 y4 y5))
 | 0 => ⟨fun _ _ _ r h => by simp [levin_Auto.j0] at h,fun _ _ _ _ r h => by simp [levin_Auto.l0] at h,fun _ _ _ _ _ _ r h => by simp [levin_Auto.l1] at h⟩
 | k + 1 => by
  obtain ⟨ih0,ih1,ih2⟩:=levin_Auto.mono_l k
  refine ⟨?_,?_,?_⟩
  all_goals (intros;first|unfold levin_Auto.j0|unfold levin_Auto.l0|unfold levin_Auto.l1)
  all_goals (repeat' first|(with_reducible first|exact ih0 _ _ _|exact ih1 _ _ _ _|exact ih2 _ _ _ _ _ _|exact levin_sound.mono _ _|exact LeO.refl _|exact LeO.none _|refine LeO.ite ?_ ?_|refine LeO.bind ?_ (fun _ => ?_))|exact ih0 _ _ _|exact ih1 _ _ _ _|exact ih2 _ _ _ _ _ _|exact levin_sound.mono _ _|exact LeO.none _|refine LeO.ite ?_ ?_|refine LeO.bind ?_ (fun _ => ?_))
theorem levin_Auto.mono : ∀ a0 a1 k,LeO (levin_Auto.f k a0 a1) (levin_Auto.f (k + 1) a0 a1):=by
 intro a0 a1 k
 obtain ⟨ih0,ih1,ih2⟩:=levin_Auto.mono_l k
 unfold levin_Auto.f
 repeat' first|(with_reducible first|exact ih0 _ _ _|exact ih1 _ _ _ _|exact ih2 _ _ _ _ _ _|exact levin_sound.mono _ _|exact LeO.refl _|exact LeO.none _|refine LeO.ite ?_ ?_|refine LeO.bind ?_ (fun _ => ?_))|exact ih0 _ _ _|exact ih1 _ _ _ _|exact ih2 _ _ _ _ _ _|exact levin_sound.mono _ _|exact LeO.none _|refine LeO.ite ?_ ?_|refine LeO.bind ?_ (fun _ => ?_)
def levin_Auto.T11 : Bool × List (List Nat × List Nat):=(true,[([],[]),([],[]),([0,1],[0,1]),([2],[2]),([],[]),([],[]),([4,5],[4,5]),([6],[6]),([],[]),([],[]),([],[]),([9,10],[9,10]),([8,11],[8,11]),([12],[12]),([7,13],[7,13]),([3,14],[3,14]),([0,1,0,1,2,3,4,5,6,7,8,9,10,11,12,13,14,15],[0,1]),([16,15,0,1,2,3,4,5,6,7,8,9,10,11,12,13,14,15],[15,16])])
def levin_Auto.B11 : List Nat:=[0,0,3,7,0,0,48,112,0,0,0,1536,3840,7936,16368,32767,65535,131071]
theorem levin_Auto.tab11 : rtab .any (opsOf Try.f11 11) = levin_Auto.T11:=by kernel_rfl
theorem levin_Auto.bits11 : waitsOk levin_Auto.T11.2 levin_Auto.B11 = true:=by kernel_rfl
set_option maxHeartbeats 8000000 in
set_option maxRecDepth 100000 in
theorem levin_Auto.calls (k : Nat) (A0 : Option Addr) (c0 : Nat) (l0 : List Int) (a1 : Int) (r1 : List Int) (r2 : Int) (w : World) (hr0 : Kd.C (Kd.int .i64) w A0 l0.length l0) (hc0 : l0.length ≤ c0) (h : levin_Auto.f k l0 a1 = some (r1,r2)) :
  Calls Try.prog 11 #[.slice A0 l0.length c0,.int .i64 a1] w fun e w' => ∃ v0_ : Value,e = .returned (.tuple #[v0_,.int .i64 r2]) ∧ Kd.R (Kd.int .i64) 2 w' w.heap.size (fun _ => True) v0_ r1 ∧ Below w.heap.size w w':=by
 have HR0:=ak_ hr0
 have HC0:=ak_ hc0
 clear hr0 hc0
 have HB:=ak_ (Below.refl w.heap.size w)
 have H : (if (l0.length : Int) > 960 then (levin_Auto.j0 k l0 a1 true) else (if a1 < 1 then (levin_Auto.j0 k l0 a1 true) else (levin_Auto.j0 k l0 a1 (decide (a1 > 32))))) = some (r1,r2):=h
 clear h
 have HC3:=ak_ H
 clear H
 go_enter Try.func11,Try.ntmps11
 go_upto_region 1 with (fail)
 go_cut [19] (fun v19 wc => ∃ (kq : Nat) (x19_2 : Bool),v19 = .bool x19_2 ∧ Aside0 (levin_Auto.j0 kq l0 a1 x19_2 = some (r1,r2)) ∧ Aside0 (kq ≤ k) ∧ Aside0 (Below w.heap.size w wc))
 case first =>
  have H:=HC3.out
  clear HC3
  by_cases c4 : (l0.length : Int) > 960
  ·rw [if_pos c4] at H
   have c4b0 : decide (960 < (l0.length : Int)) = true:=decide_eq_true c4
   have c4b1 : decide (960 < l0.length) = true:=decide_eq_true (by omega)
   clear c4
   (first|rw [c4b0]|(simp only [i64_w,i32_w];rw [c4b0])|skip)
   have H':=ak_ H
   clear H
   go_wp2
   refine Met.intro ?_
   go_step
   (repeat apply Exists.intro)
   first|refine ⟨?rel56,rfl⟩|(refine ⟨?rel56,?st56⟩;case' st56 => (first|rw [c4b0]|simp only [c4b0]))
   case rel56 => exact ⟨_,(true),(by first|rfl|(simp;done)|(simp [*];done)),H',⟨by first|omega|exact Nat.le_refl _⟩,⟨by repeat (first|(with_reducible first|exact HB.out|apply ba_|apply bb_|apply bc_)|exact HB.out)⟩⟩
  ·rw [if_neg c4] at H
   have c4b0 : decide (960 < (l0.length : Int)) = false:=decide_eq_false c4
   have c4b1 : decide (960 < l0.length) = false:=decide_eq_false (by omega)
   clear c4
   (first|rw [c4b0]|(simp only [i64_w,i32_w];rw [c4b0])|skip)
   by_cases c5 : a1 < 1
   ·rw [if_pos c5] at H
    have c5b0:=decide_eq_true c5
    clear c5
    have H':=ak_ H
    clear H
    go_wp2
    refine Met.intro ?_
    go_step
    (repeat apply Exists.intro)
    first|refine ⟨?rel70,rfl⟩|(refine ⟨?rel70,?st70⟩;case' st70 => (first|rw [c5b0]|simp only [c5b0]))
    case rel70 => exact ⟨_,(true),(by first|rfl|(simp;done)|(simp [*];done)),H',⟨by first|omega|exact Nat.le_refl _⟩,⟨by repeat (first|(with_reducible first|exact HB.out|apply ba_|apply bb_|apply bc_)|exact HB.out)⟩⟩
   ·rw [if_neg c5] at H
    have c5b0:=decide_eq_false c5
    clear c5
    have H':=ak_ H
    clear H
    go_wp2
    refine Met.intro ?_
    go_step
    (repeat apply Exists.intro)
    first|refine ⟨?rel78,rfl⟩|(refine ⟨?rel78,?st78⟩;case' st78 => (first|rw [c5b0]|simp only [c5b0]))
    case rel78 => exact ⟨_,(decide (a1 > 32)),(by first|rfl|(simp;done)|(simp [*];done)),H',⟨by first|omega|exact Nat.le_refl _⟩,⟨by repeat (first|(with_reducible first|exact HB.out|apply ba_|apply bb_|apply bc_)|exact HB.out)⟩⟩
 case rest =>
  clear HC3
  try clear c1
  try clear p2
  try clear c4
  try clear c4b0
  try clear c4b1
  try clear c5
  try clear c5b0
  obtain ⟨kq,x19_2,rfl,HA,HJ2,HB⟩:=hcut
  (try simp only [i64_w,i32_w])
  cases kq with
  | zero => exact absurd HA.out (by simp [levin_Auto.j0])
  | succ kj2 =>
   have H:=HA.out
   clear HA
   simp only [levin_Auto.j0] at H
   by_cases c6 : x19_2 = true
   ·subst c6
    have H1 : (some (([] : List Int),1)) = some (r1,r2):=by rw [if_pos rfl] at H;exact H
    clear H
    have H:=H1
    clear H1
    simp only [Option.some.injEq,Prod.mk.injEq] at H
    obtain ⟨rfl,rfl⟩:=H
    go_wp2
    go_ret2
    exact ⟨_,by first|rfl|(simp [errW_none,errW_some] <;> rfl)|(simp [*,errW_none,errW_some] <;> rfl),by first|exact Kd.R_nil _ _ _ _ _|exact Kd.N_nil _ _ _ _ _|exact Kd.V_nil _ _ _ _ _|exact Kd.Q_nil _ _ _ _ _|exact Kd.S_nil _ _ _ _ _,by repeat (first|(with_reducible first|exact HB.out|apply ba_|apply bb_|apply bc_)|exact HB.out)⟩
   ·replace c6:=Bool.eq_false_iff.mpr c6
    subst c6
    have H1 : ((levin_sound.f kj2 l0).bind fun t108 => (if 0 ≤ (wrap64 (a1 + 1)) then (if (wrap64 (a1 + 1) : Int).toNat ≤ 35184372088832 then ((some (List.replicate (wrap64 (a1 + 1) : Int).toNat 0 : List Int)).bind fun y111 => (levin_Auto.l0 kj2 t108 y111 (y111.length : Int) 0)) else (none)) else (none))) = some (r1,r2):=by rw [if_neg (show ¬ (false = true) by decide)] at H;exact H
    clear H
    have H:=H1
    clear H1
    replace H:=Option.bind_eq_some_iff.mp H
    obtain ⟨t108,A70,H⟩:=H
    (try dsimp only at H)
    have A7:=ak_ A70
    clear A70
    obtain ⟨ji8,hji8⟩ : ∃ j_ : Int,(wrap64 (a1 + 1)) = j_:=⟨_,rfl⟩
    replace H : (if 0 ≤ (ji8) then (if (ji8 : Int).toNat ≤ 35184372088832 then ((some (List.replicate (ji8 : Int).toNat 0 : List Int)).bind fun y111 => (levin_Auto.l0 kj2 t108 y111 (y111.length : Int) 0)) else (none)) else (none)) = some (r1,r2):=by first|(rw [hji8] at H;exact H)|(simp only [hji8] at H ⊢;exact H)
    (try rw [hji8] at A7)
    have hji8w : (IntKind.i64.wrap (a1 + 1)) = ji8:=(i64_w _).trans hji8
    by_cases c9 : 0 ≤ (ji8)
    ·rw [if_pos c9] at H
     have c9b0:=eq_true c9
     have c9b1 : decide (0 ≤ (ji8)) = true:=decide_eq_true c9
     clear c9
     by_cases c10 : (ji8 : Int).toNat ≤ 35184372088832
     ·rw [if_pos c10] at H
      have c10b0:=eq_true c10
      have c10b1 : decide ((ji8 : Int).toNat ≤ 35184372088832) = true:=decide_eq_true c10
      clear c10
      obtain ⟨y111,hy111⟩ : ∃ y_ : List Int,y_ = (List.replicate (ji8 : Int).toNat 0):=⟨_,rfl⟩
      replace H : (levin_Auto.l0 kj2 t108 y111 (y111.length : Int) 0) = some (r1,r2):=by first|(rw [hy111];with_reducible exact H)|(have H2_:=(Option.bind_some _ _).symm.trans H;rw [hy111];with_reducible exact H2_)|(have H2_:=(Option.bind_some _ _).symm.trans H;with_reducible exact H2_)|with_reducible exact H|(rw [hy111];exact H)|exact H
      have Ny111:=ak_ hy111
      clear hy111
      have H':=ak_ H
      clear H
      go_wp2_with (first|((with_reducible refine gate_callee (f:=23) rfl ?_);refine goesL_ (some 21) rfl rfl Try.func23 (by kernel_rfl) rfl #[.slice A0 l0.length c0] rfl (by (try simp only [List.map_toArray,List.map_cons,List.map_nil]);first|done|rfl|(simp only [List.length_drop,List.length_take];rfl)) ?_;(with_reducible refine (levin_sound.calls kj2 _ _ l0 t108 _ ?side1 ?side2 A7.out).mono ?_);(case side1 => repeat (first|exact (Kd.C_below HR0.out HB.out)|(with_reducible refine Kd.C_alloc ?_ _)|(with_reducible refine Kd.C_drewN ?_ _)|(with_reducible refine Kd.C_drew ?_)));(case side2 => exact HC0.out);rintro e w11 ⟨v109,rfl,ho0,hb⟩;refine ⟨_,rfl,?_⟩;have n0_:=ak_ (Kd.R_lower ho0 (below_size (by repeat (first|(with_reducible first|exact HB.out|apply ba_|apply bb_|apply bc_)|exact HB.out))));have n1_:=ak_ (below_step (by repeat (first|(with_reducible first|exact HB.out|apply ba_|apply bb_|apply bc_)|exact HB.out)) hb);clear HB;have HO110:=n0_;have HB:=n1_;clear n0_ n1_;(try clear hb);(try clear ho0))|((with_reducible refine gate_dst (N:=24) rfl ?_);refine Kd.R_make (Kd.int .i64) _ 2 rfl (N:=24) rfl 23 _ _ rfl ji8 rfl rfl Try.underlying23 (.int .i64 0) 8 info2 rfl (by decide) (by omega) 0 (ok:=fun _ => True) (okp:=fun _ => True) rfl (fun _ hk => hk) trivial (of_decide_eq_true (by first|(with_reducible assumption)|assumption)) (Nat.le_trans (Nat.mul_le_mul_right _ (of_decide_eq_true (by first|(with_reducible assumption)|assumption) : ji8.toNat ≤ 35184372088832)) (by omega)) (Below.refl _ _) (Nat.le_refl _) ?_;intro v112 w12 ho13 hb hg_ hnew_;clear hg_ hnew_;(first|rw [← Ny111.out] at ho13|(simp only [Int.reduceToNat] at ho13;rw [← Ny111.out] at ho13));have n0_:=ak_ (Kd.R_elder' (by (with_reducible repeat (first|apply ra_|apply rb_|apply rc_));exact HO110.out) (Kd.R_base ho13) hb);have n1_:=ak_ (Kd.R_lower (Kd.R_new' ho13 (Kd.R_lt (by (with_reducible repeat (first|apply ra_|apply rb_|apply rc_));exact HO110.out))) (below_size (by repeat (first|(with_reducible first|exact HB.out|apply ba_|apply bb_|apply bc_)|exact HB.out))));have n2_:=ak_ (below_step (by repeat (first|(with_reducible first|exact HB.out|apply ba_|apply bb_|apply bc_)|exact HB.out)) hb);clear HO110;clear HB;have HO110:=n0_;have HO113:=n1_;have HB:=n2_;clear n0_ n1_ n2_;clear hb ho13;obtain ⟨Ao14,co14,eo14⟩:=Kd.R_slice HO113.out;subst eo14))
      go_loopg [27] kj2 (fun kq v27 w' => ∃ (x6_2 : List Int) (x27_2 : Int),v27 = .int .i64 x27_2 ∧ Aside0 (levin_Auto.l0 kq t108 x6_2 (y111.length : Int) x27_2 = some (r1,r2)) ∧ Aside0 (kq ≤ kj2) ∧ Aside0 (Kd.R (Kd.int .i64) 2 w' w.heap.size (fun k_ => some k_ ≠ ((.slice Ao14 y111.length co14) : Value).ownBlock) v109 t108) ∧ Aside0 (Kd.R (Kd.int .i64) 2 w' w.heap.size (fun k_ => some k_ ≠ (v109 : Value).ownBlock) (.slice Ao14 y111.length co14) x6_2) ∧ Aside0 (Below w.heap.size w w'))
      case atStart => exact ⟨(y111),(0),(by first|rfl|(simp;done)|(simp [*];done)),H',⟨Nat.le_refl _⟩,⟨by (with_reducible repeat (first|apply ra_|apply rb_|apply rc_));exact Kd.R_mono HO110.out (fun _ hk => hk.2)⟩,⟨by (with_reducible repeat (first|apply ra_|apply rb_|apply rc_));exact Kd.R_mono HO113.out (fun _ hk => hk.2)⟩,⟨by repeat (first|(with_reducible first|exact HB.out|apply ba_|apply bb_|apply bc_)|exact HB.out)⟩⟩
      case round =>
       clear H'
       try clear c1
       try clear c2
       try clear p2
       try clear c4
       try clear c4b0
       try clear c4b1
       try clear c5
       try clear c5b0
       try clear c6
       try clear p6
       try clear c9
       try clear c9b0
       try clear c9b1
       try clear c10
       try clear c10b0
       try clear c10b1
       try clear c11
       try clear p2
       obtain ⟨x6_2,x27_2,rfl,HA,HK2,HO_0,HO_6,HB⟩:=hrel
       (try simp only [i64_w,i32_w])
       have hl6_2:=(Kd.R_reads' HO_6.out).1
       rw [hl6_2] at HO_6
       (try simp only [hl6_2])
       (try simp only [hl6_2] at HO_0)
       cases gk with
       | zero => exact absurd HA.out (by simp [levin_Auto.l0])
       | succ k2 =>
        have H:=HA.out
        clear HA
        simp only [levin_Auto.l0] at H
        by_cases c15 : x27_2 < (y111.length : Int)
        ·rw [if_pos c15] at H
         have c15b0:=decide_eq_true c15
         (try (have c15h0:=c15b0;simp only [hl6_2] at c15h0))
         clear c15
         have H':=ak_ H
         clear H
         go_wp2
         go_loopg [8] k2 (fun kq v8 w' => ∃ (x6_3 : List Int) (x8_3 : Int),v8 = .int .i64 x8_3 ∧ Aside0 (levin_Auto.l1 kq t108 x6_3 x27_2 x8_3 (y111.length : Int) x27_2 = some (r1,r2)) ∧ Aside0 (kq ≤ k2) ∧ Aside0 (Kd.R (Kd.int .i64) 2 w' w.heap.size (fun k_ => some k_ ≠ ((.slice Ao14 x6_2.length co14) : Value).ownBlock) v109 t108) ∧ Aside0 (Kd.R (Kd.int .i64) 2 w' w.heap.size (fun k_ => some k_ ≠ (v109 : Value).ownBlock) (.slice Ao14 x6_2.length co14) x6_3) ∧ Aside0 (Below w.heap.size w w'))
         case atStart => exact ⟨(x6_2),(x27_2),(by first|rfl|(simp;done)|(simp [*];done)),H',⟨Nat.le_refl _⟩,⟨by (try simp only [hl6_2]);(with_reducible repeat (first|apply ra_|apply rb_|apply rc_));exact HO_0.out⟩,⟨by (try simp only [hl6_2]);(with_reducible repeat (first|apply ra_|apply rb_|apply rc_));exact HO_6.out⟩,⟨by repeat (first|(with_reducible first|exact HB.out|apply ba_|apply bb_|apply bc_)|exact HB.out)⟩⟩
         case round =>
          clear H'
          try clear c1
          try clear c2
          try clear p2
          try clear c4
          try clear c4b0
          try clear c4b1
          try clear c5
          try clear c5b0
          try clear c6
          try clear p6
          try clear c9
          try clear c9b0
          try clear c9b1
          try clear c10
          try clear c10b0
          try clear c10b1
          try clear c11
          try clear c15
          try clear c15b0
          try clear c15h0
          try clear p2
          try clear p6
          obtain ⟨x6_3,x8_3,rfl,HA,HK3,HO_0,HO_6,HB⟩:=hrel
          (try simp only [i64_w,i32_w])
          have hl6_3:=(Kd.R_reads' HO_6.out).1
          rw [hl6_3] at HO_6
          (try simp only [hl6_3])
          (try simp only [hl6_3] at HO_0)
          cases gk with
          | zero => exact absurd HA.out (by simp [levin_Auto.l1])
          | succ k3 =>
           have H:=HA.out
           clear HA
           simp only [levin_Auto.l1] at H
           by_cases c16 : x8_3 < (t108.length : Int)
           ·rw [if_pos c16] at H
            have c16b0:=decide_eq_true c16
            (try (have c16h0:=c16b0;simp only [hl6_2,hl6_3] at c16h0))
            clear c16
            by_cases c17 : 0 ≤ x27_2
            ·rw [if_pos c17] at H
             have c17b0:=decide_eq_true c17
             (try (have c17h0:=c17b0;simp only [hl6_2,hl6_3] at c17h0))
             clear c17
             by_cases c18 : x27_2 < (x6_3.length : Int)
             ·rw [if_pos c18] at H
              have c18b0:=decide_eq_true c18
              (try (have c18h0:=c18b0;simp only [hl6_2,hl6_3] at c18h0))
              clear c18
              by_cases c19 : 0 ≤ x8_3
              ·rw [if_pos c19] at H
               have c19b0:=decide_eq_true c19
               (try (have c19h0:=c19b0;simp only [hl6_2,hl6_3] at c19h0))
               clear c19
               obtain ⟨ji20,hji20⟩ : ∃ j_ : Int,(wrap64 (x8_3 - x27_2)) = j_:=⟨_,rfl⟩
               replace H : (if 0 ≤ (ji20) then (if (ji20) < (t108.length : Int) then (levin_Auto.l1 k3 t108 (x6_3.set (x27_2 : Int).toNat (wrap64 ((rd x6_3 x27_2) + (wrap64 ((rd t108 x8_3) * (rd t108 (ji20))))))) x27_2 (wrap64 (x8_3 + 1)) (y111.length : Int) x27_2) else (none)) else (none)) = some (r1,r2):=by first|(rw [hji20] at H;exact H)|(simp only [hji20] at H ⊢;exact H)
               have hji20w : (IntKind.i64.wrap (x8_3 - x27_2)) = ji20:=(i64_w _).trans hji20
               by_cases c21 : 0 ≤ (ji20)
               ·rw [if_pos c21] at H
                have c21b0:=decide_eq_true c21
                (try (have c21h0:=c21b0;simp only [hl6_2,hl6_3] at c21h0))
                clear c21
                by_cases c22 : (ji20) < (t108.length : Int)
                ·rw [if_pos c22] at H
                 have c22b0:=decide_eq_true c22
                 (try (have c22h0:=c22b0;simp only [hl6_2,hl6_3] at c22h0))
                 clear c22
                 obtain ⟨y117,hy117⟩ : ∃ y_ : List Int,y_ = (x6_3.set (x27_2 : Int).toNat (wrap64 ((rd x6_3 x27_2) + (wrap64 ((rd t108 x8_3) * (rd t108 (ji20))))))):=⟨_,rfl⟩
                 replace H : (levin_Auto.l1 k3 t108 y117 x27_2 (wrap64 (x8_3 + 1)) (y111.length : Int) x27_2) = some (r1,r2):=by first|(rw [hy117];with_reducible exact H)|(have H2_:=(Option.bind_some _ _).symm.trans H;rw [hy117];with_reducible exact H2_)|(have H2_:=(Option.bind_some _ _).symm.trans H;with_reducible exact H2_)|with_reducible exact H|(rw [hy117];exact H)|exact H
                 have Ny117:=ak_ hy117
                 clear hy117
                 have H':=ak_ H
                 clear H
                 obtain ⟨Ao24,co24,eo24⟩:=Kd.R_slice HO_0.out
                 subst eo24
                 try go_wp2
                 have n0_:=ak_ (Kd.R_drew HO_0.out)
                 have n1_:=ak_ (Kd.R_drew HO_6.out)
                 have n2_:=ak_ (below_drew1 HB.out)
                 clear HO_0
                 clear HO_6
                 clear HB
                 have HO_0:=n0_
                 have HO_6:=n1_
                 have HB:=n2_
                 clear n0_ n1_ n2_
                 have p114 : 0 ≤ (x27_2 : Int):=of_decide_eq_true (by first|(with_reducible assumption)|assumption)
                 have q114 : x27_2 < (x6_3.length : Int):=of_decide_eq_true (by first|(with_reducible assumption)|assumption)
                 obtain ⟨ad114,e114,hx114_0⟩:=Kd.at_int (Kd.R_reads' HO_6.out).2.2 x27_2 p114 q114
                 cases e114
                 replace p114:=eq_true p114
                 replace q114:=eq_true q114
                 have p115 : 0 ≤ (x8_3 : Int):=of_decide_eq_true (by first|(with_reducible assumption)|assumption)
                 have q115 : x8_3 < (t108.length : Int):=of_decide_eq_true (by first|(with_reducible assumption)|assumption)
                 obtain ⟨ad115,e115,hx115_0⟩:=Kd.at_int (Kd.R_reads' HO_0.out).2.2 x8_3 p115 q115
                 cases e115
                 replace p115:=eq_true p115
                 replace q115:=eq_true q115
                 have p116 : 0 ≤ ((ji20) : Int):=of_decide_eq_true (by first|(with_reducible assumption)|assumption)
                 have q116 : (ji20) < (t108.length : Int):=of_decide_eq_true (by first|(with_reducible assumption)|assumption)
                 obtain ⟨ad116,e116,hx116_0⟩:=Kd.at_int (Kd.R_reads' HO_0.out).2.2 (ji20) p116 q116
                 obtain rfl : ad115 = ad116:=(by injection e116)
                 replace p116:=eq_true p116
                 replace q116:=eq_true q116
                 have p23 : 0 ≤ (x27_2 : Int):=of_decide_eq_true (by first|(with_reducible assumption)|assumption)
                 have q23 : (x27_2 : Int) < ((x6_3.length : Int) : Int):=of_decide_eq_true (by first|(with_reducible assumption)|assumption)
                 obtain ⟨go23,co23,eo23,gb23,gl23,cl23,HG23⟩:=Kd.R_form HO_6.out (by omega)
                 (first|cases eo23|(injection eo23 with ea_ en_ ec_;(first|subst ea_|(injection ea_ with ea_;subst ea_));subst ec_;clear en_))
                 have GB23:=ak_ gb23
                 have GG23:=ak_ HG23
                 clear gb23 gl23 HG23
                 (first|simp only [add_plain] at hx114_0|skip)
                 obtain ⟨hx23_0,hf23_0⟩:=Kd.R_celln 0 HO_6.out (x27_2 : Int) p23 q23
                 replace p23:=eq_true p23
                 replace q23:=eq_true q23
                 have HP26:=Kd.R_putn HO_6.out (x27_2 : Int) (wrap64 ((rd x6_3 x27_2) + (wrap64 ((rd t108 x8_3) * (rd t108 (ji20))))))
                 rw [← Ny117.out] at HP26
                 have HQ26:=ak_ HP26
                 clear HP26
                 refine start_ (n:=18) (S:=fun w' => w'.cell? ⟨go23,(x27_2).toNat,none⟩ = some (.int .i64 (rd x6_3 x27_2)) ∧ w'.cell? (ad115.add (x8_3).toNat) = some (.int .i64 (rd t108 x8_3)) ∧ w'.cell? (ad115.add ((ji20)).toNat) = some (.int .i64 (rd t108 (ji20)))) (ds:=[17]) #[false,false,false,false,false,false,false,false,false,false,false,false,false,false,false,false,false,false] (by kernel_rfl) rfl rfl ⟨hx114_0,hx115_0,hx116_0⟩ (fun hHeld => ?_);refine with_tabW levin_Auto.tab11 levin_Auto.bits11 (fun HT_ HW_ => ?_)
                 generalize wr.drew = w25 at HO_0 HO_6 HB GG23 HQ26 hf23_0 hx114_0 hx115_0 hx116_0 hx23_0 hHeld ⊢
                 refine pure_ (i:=0) (N:=some 37) (v:=?_) (a':=?_) #[true,false,false,false,false,false,false,false,false,false,false,false,false,false,false,false,false,false] rfl rfl (any_of HT_.out (by kernel_rfl)) (fun _ _ _ h => h) (Or.inl ⟨by rfl,?_⟩) ?_ ?_
                 rotate_left
                 ·intro w'
                  go_simp
                  with_reducible rfl
                 rotate_left
                 ·simp only [Act.put,List.setIfInBounds_toArray,List.set_cons_zero,List.set_cons_succ,i64_w,i32_w]
                  rfl
                 refine pure_ (i:=1) (N:=some 38) (v:=?_) (a':=?_) #[true,true,false,false,false,false,false,false,false,false,false,false,false,false,false,false,false,false] rfl rfl (any_of HT_.out (by kernel_rfl)) (fun _ _ _ h => h) (Or.inl ⟨by rfl,?_⟩) ?_ ?_
                 rotate_left
                 ·intro w'
                  go_simp
                  with_reducible rfl
                 rotate_left
                 ·simp only [Act.put,List.setIfInBounds_toArray,List.set_cons_zero,List.set_cons_succ,i64_w,i32_w]
                  rfl
                 refine pure_ (i:=2) (N:=some 39) (v:=?_) (a':=?_) #[true,true,true,false,false,false,false,false,false,false,false,false,false,false,false,false,false,false] rfl rfl (any_of HT_.out (by kernel_rfl)) (fun _ _ _ h => h) (Or.inl ⟨by rfl,?_⟩) ?_ ?_
                 rotate_left
                 ·intro w'
                  go_simp
                  with_reducible rfl
                 rotate_left
                 ·simp only [Act.put,List.setIfInBounds_toArray,List.set_cons_zero,List.set_cons_succ,i64_w,i32_w]
                  rfl
                 refine pure_ (i:=4) (N:=some 41) (v:=?_) (a':=?_) #[true,true,true,false,true,false,false,false,false,false,false,false,false,false,false,false,false,false] rfl rfl (any_of HT_.out (by kernel_rfl)) (fun _ _ _ h => h) (Or.inl ⟨by rfl,?_⟩) ?_ ?_
                 rotate_left
                 ·intro w'
                  go_simp
                  with_reducible rfl
                 rotate_left
                 ·simp only [Act.put,List.setIfInBounds_toArray,List.set_cons_zero,List.set_cons_succ,i64_w,i32_w]
                  rfl
                 refine pure_ (i:=5) (N:=some 42) (v:=?_) (a':=?_) #[true,true,true,false,true,true,false,false,false,false,false,false,false,false,false,false,false,false] rfl rfl (any_of HT_.out (by kernel_rfl)) (fun _ _ _ h => h) (Or.inl ⟨by rfl,?_⟩) ?_ ?_
                 rotate_left
                 ·intro w'
                  go_simp
                  with_reducible rfl
                 rotate_left
                 ·simp only [Act.put,List.setIfInBounds_toArray,List.set_cons_zero,List.set_cons_succ,i64_w,i32_w]
                  rfl
                 refine pure_ (i:=6) (N:=some 43) (v:=?_) (a':=?_) #[true,true,true,false,true,true,true,false,false,false,false,false,false,false,false,false,false,false] rfl rfl (any_of HT_.out (by kernel_rfl)) (fun _ _ _ h => h) (Or.inl ⟨by rfl,?_⟩) ?_ ?_
                 rotate_left
                 ·intro w'
                  go_simp
                  with_reducible rfl
                 rotate_left
                 ·simp only [Act.put,List.setIfInBounds_toArray,List.set_cons_zero,List.set_cons_succ,i64_w,i32_w]
                  rfl
                 refine pure_ (i:=8) (N:=some 45) (v:=?_) (a':=?_) #[true,true,true,false,true,true,true,false,true,false,false,false,false,false,false,false,false,false] rfl rfl (any_of HT_.out (by kernel_rfl)) (fun _ _ _ h => h) (Or.inl ⟨by rfl,?_⟩) ?_ ?_
                 rotate_left
                 ·intro w'
                  go_simp
                  with_reducible rfl
                 rotate_left
                 ·simp only [Act.put,List.setIfInBounds_toArray,List.set_cons_zero,List.set_cons_succ,i64_w,i32_w]
                  rfl
                 refine pure_ (i:=9) (N:=some 46) (v:=?_) (a':=?_) #[true,true,true,false,true,true,true,false,true,true,false,false,false,false,false,false,false,false] rfl rfl (any_of HT_.out (by kernel_rfl)) (fun _ _ _ h => h) (Or.inl ⟨by rfl,?_⟩) ?_ ?_
                 rotate_left
                 ·intro w'
                  go_simp
                  with_reducible rfl
                 rotate_left
                 ·simp only [Act.put,List.setIfInBounds_toArray,List.set_cons_zero,List.set_cons_succ,i64_w,i32_w]
                  rfl
                 refine pure_ (i:=10) (N:=some 47) (v:=?_) (a':=?_) #[true,true,true,false,true,true,true,false,true,true,true,false,false,false,false,false,false,false] rfl rfl (any_of HT_.out (by kernel_rfl)) (fun _ _ _ h => h) (Or.inl ⟨by rfl,?_⟩) ?_ ?_
                 rotate_left
                 ·intro w'
                  go_simp
                  with_reducible rfl
                 rotate_left
                 ·simp only [Act.put,List.setIfInBounds_toArray,List.set_cons_zero,List.set_cons_succ,i64_w,i32_w]
                  rfl
                 refine pure_ (i:=11) (N:=some 48) (v:=?_) (a':=?_) #[true,true,true,false,true,true,true,false,true,true,true,true,false,false,false,false,false,false] rfl rfl (any_of HT_.out (by kernel_rfl)) (fun _ _ _ h => h) (Or.inl ⟨by rfl,?_⟩) ?_ ?_
                 rotate_left
                 ·intro w'
                  go_simp
                  with_reducible rfl
                 rotate_left
                 ·simp only [Act.put,List.setIfInBounds_toArray,List.set_cons_zero,List.set_cons_succ,i64_w,i32_w]
                  rfl
                 refine pure_ (i:=12) (N:=some 49) (v:=?_) (a':=?_) #[true,true,true,false,true,true,true,false,true,true,true,true,true,false,false,false,false,false] rfl rfl (any_of HT_.out (by kernel_rfl)) (fun _ _ _ h => h) (Or.inl ⟨by rfl,?_⟩) ?_ ?_
                 rotate_left
                 ·intro w'
                  go_simp
                  with_reducible rfl
                 rotate_left
                 ·simp only [Act.put,List.setIfInBounds_toArray,List.set_cons_zero,List.set_cons_succ,i64_w,i32_w]
                  rfl
                 refine take_ (i:=3) (N:=some 40) (v:=?_) (a':=?_) #[true,true,true,true,true,true,true,false,true,true,true,true,true,false,false,false,false,false] rfl rfl (take_ofW HT_.out HW_.out (by kernel_rfl)) (fun _ _ _ h => h) (Or.inl ⟨by rfl,?_⟩) hHeld ?_ ?_
                 rotate_left
                 ·rintro w' ⟨s0,s1,s2⟩
                  go_simp
                  with_reducible rfl
                 rotate_left
                 ·simp only [Act.put,List.setIfInBounds_toArray,List.set_cons_zero,List.set_cons_succ,i64_w,i32_w]
                  rfl
                 refine take_ (i:=7) (N:=some 44) (v:=?_) (a':=?_) #[true,true,true,true,true,true,true,true,true,true,true,true,true,false,false,false,false,false] rfl rfl (take_ofW HT_.out HW_.out (by kernel_rfl)) (fun _ _ _ h => h) (Or.inl ⟨by rfl,?_⟩) hHeld ?_ ?_
                 rotate_left
                 ·rintro w' ⟨s0,s1,s2⟩
                  go_simp
                  with_reducible rfl
                 rotate_left
                 ·simp only [Act.put,List.setIfInBounds_toArray,List.set_cons_zero,List.set_cons_succ,i64_w,i32_w]
                  rfl
                 refine take_ (i:=13) (N:=some 50) (v:=?_) (a':=?_) #[true,true,true,true,true,true,true,true,true,true,true,true,true,true,false,false,false,false] rfl rfl (take_ofW HT_.out HW_.out (by kernel_rfl)) (fun _ _ _ h => h) (Or.inl ⟨by rfl,?_⟩) hHeld ?_ ?_
                 rotate_left
                 ·rintro w' ⟨s0,s1,s2⟩
                  go_simp
                  with_reducible rfl
                 rotate_left
                 ·simp only [Act.put,List.setIfInBounds_toArray,List.set_cons_zero,List.set_cons_succ,i64_w,i32_w]
                  rfl
                 refine pure_ (i:=14) (N:=some 51) (v:=?_) (a':=?_) #[true,true,true,true,true,true,true,true,true,true,true,true,true,true,true,false,false,false] rfl rfl (any_of HT_.out (by kernel_rfl)) (fun _ _ _ h => h) (Or.inl ⟨by rfl,?_⟩) ?_ ?_
                 rotate_left
                 ·intro w'
                  go_simp
                  with_reducible rfl
                 rotate_left
                 ·simp only [Act.put,List.setIfInBounds_toArray,List.set_cons_zero,List.set_cons_succ,i64_w,i32_w]
                  rfl
                 refine pure_ (i:=15) (N:=some 52) (v:=?_) (a':=?_) #[true,true,true,true,true,true,true,true,true,true,true,true,true,true,true,true,false,false] rfl rfl (any_of HT_.out (by kernel_rfl)) (fun _ _ _ h => h) (Or.inl ⟨by rfl,?_⟩) ?_ ?_
                 rotate_left
                 ·intro w'
                  go_simp
                  with_reducible rfl
                 rotate_left
                 ·simp only [Act.put,List.setIfInBounds_toArray,List.set_cons_zero,List.set_cons_succ,i64_w,i32_w]
                  rfl
                 refine pure_ (i:=16) (N:=some 53) (v:=?_) (a':=?_) #[true,true,true,true,true,true,true,true,true,true,true,true,true,true,true,true,true,false] rfl rfl (any_of HT_.out (by kernel_rfl)) (fun _ _ _ h => h) (Or.inl ⟨by rfl,?_⟩) ?_ ?_
                 rotate_left
                 ·intro w'
                  go_simp
                  with_reducible rfl
                 rotate_left
                 ·simp only [Act.put,List.setIfInBounds_toArray,List.set_cons_zero,List.set_cons_succ,i64_w,i32_w]
                  rfl
                 refine last_ (i:=17) (N:=none) #[true,true,true,true,true,true,true,true,true,true,true,true,true,true,true,true,true,true] rfl rfl (one_of HT_.out (by kernel_rfl)) (by decide) (fun K hK => ?_)
                 refine skip_ (w1:=?_) (by rfl) rfl ?_ ?_
                 rotate_left
                 ·go_simp
                  rfl
                 refine hK.out _ _ ?_
                 clear hK K
                 refine done_ (done_of HT_.out (by kernel_rfl)) ?_
                 try go_wp2
                 (try simp only [← hl6_3])
                 go_roundg k3
                 case measure => have:=HJ2.out;have:=HK2.out;have:=HK3.out;omega
                 case rel => exact ⟨(y117),(wrap64 (x8_3 + 1)),(by first|rfl|(simp;done)|(simp [*];done)),H',⟨by have:=HJ2.out;have:=HK2.out;have:=HK3.out;omega⟩,⟨by (try simp only [hl6_2]);(try simp only [hl6_3]);(with_reducible repeat (first|apply ra_|apply rb_|apply rc_));exact Kd.R_mono (Kd.R_far (p:=⟨go23,(x27_2 : Int).toNat,none⟩) (Kd.R_mono HO_0.out (fun k_ hk => (⟨hk,fun e_ => hk (by rw [e_];rfl)⟩ : _ ∧ k_ ≠ go23))) (fun _ hk => hk.2) (.int .i64 (wrap64 ((rd x6_3 x27_2) + (wrap64 ((rd t108 x8_3) * (rd t108 (ji20)))))))) (fun _ hk => hk.1)⟩,⟨by (try simp only [hl6_2]);(try simp only [hl6_3]);(with_reducible repeat (first|apply ra_|apply rb_|apply rc_));exact HQ26.out⟩,⟨by repeat (first|(with_reducible first|exact HB.out|apply ba_|apply bb_|apply bc_|refine below_set ?_ GB23.out)|exact HB.out)⟩⟩
                ·rw [if_neg c22] at H
                 exact absurd H (by simp)
               ·rw [if_neg c21] at H
                exact absurd H (by simp)
              ·rw [if_neg c19] at H
               exact absurd H (by simp)
             ·rw [if_neg c18] at H
              exact absurd H (by simp)
            ·rw [if_neg c17] at H
             exact absurd H (by simp)
           ·rw [if_neg c16] at H
            have c16b0:=decide_eq_false c16
            (try (have c16h0:=c16b0;simp only [hl6_2,hl6_3] at c16h0))
            clear c16
            have H':=ak_ H
            clear H
            obtain ⟨Ao27,co27,eo27⟩:=Kd.R_slice HO_0.out
            subst eo27
            go_wp2
            (try simp only [← hl6_2,← hl6_3])
            go_roundg k3
            case measure => have:=HJ2.out;have:=HK2.out;have:=HK3.out;omega
            case rel => exact ⟨(x6_3),(wrap64 (x27_2 + 1)),(by first|rfl|(simp;done)|(simp [*];done)),H',⟨by have:=HJ2.out;have:=HK2.out;have:=HK3.out;omega⟩,⟨by (try simp only [hl6_2]);(try simp only [hl6_3]);(with_reducible repeat (first|apply ra_|apply rb_|apply rc_));exact HO_0.out⟩,⟨by (try simp only [hl6_2]);(try simp only [hl6_3]);(with_reducible repeat (first|apply ra_|apply rb_|apply rc_));exact HO_6.out⟩,⟨by repeat (first|(with_reducible first|exact HB.out|apply ba_|apply bb_|apply bc_)|exact HB.out)⟩⟩
        ·rw [if_neg c15] at H
         have c15b0:=decide_eq_false c15
         (try (have c15h0:=c15b0;simp only [hl6_2] at c15h0))
         clear c15
         simp only [Option.some.injEq,Prod.mk.injEq] at H
         obtain ⟨rfl,rfl⟩:=H
         go_wp2
         go_ret2
         exact ⟨_,by first|rfl|(simp [errW_none,errW_some] <;> rfl)|(simp only [← hji8];first|rfl|(simp [errW_none,errW_some] <;> rfl))|(simp [*,errW_none,errW_some] <;> rfl),by (with_reducible repeat (first|apply ra_|apply rb_|apply rc_));exact Kd.R_mono HO_6.out (fun _ hk => trivial),by repeat (first|(with_reducible first|exact HB.out|apply ba_|apply bb_|apply bc_)|exact HB.out)⟩
     ·rw [if_neg c10] at H
      exact absurd H (by simp)
    ·rw [if_neg c9] at H
     exact absurd H (by simp)

end Go.Proofs.Ytllglpcpjeggcaa.P
