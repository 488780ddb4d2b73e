/- The machine side of the laws of one chapter, without conditions: each call of a Go function comes to what the Lean function of its name answers. Written for this claim by a program of the prover. -/
import Derived.Test.YtllglpcpjeggcaaPx0
import Derived.Test.YtllglpcpjeggcaaPx11
import Derived.Test.YtllglpcpjeggcaaPx12
import Derived.Test.YtllglpcpjeggcaaPx18
import Derived.Test.YtllglpcpjeggcaaPx22
namespace Go.Proofs.Ytllglpcpjeggcaa.P
open Go.RowKit Go.Proofs.YtllglpcpjeggcaaW.PrintWords Go.Proofs.YtllglpcpjeggcaaW.PrintLast Go.Proofs.YtllglpcpjeggcaaW.PrintMore
attribute [local go_sem] max2_int min2_int max_two min_two max_three min_three max_four min_four   -- for this text's walks alone
set_option linter.unusedVariables false
set_option linter.unusedSimpArgs false

/-! ### levin_Best: function 14 -/
mutual
def levin_Best.j0 : Nat → List Int → Int → Bool → Option (Int × Int)
 | 0,_,_,_ => none
 | k + 1,x0,x1,x26 => if x26 = true then (some (0,1)) else (levin_Best.l0 k x0 x1 0 (-1) 0)
def levin_Best.l0 : Nat → List Int → Int → Int → Int → Int → Option (Int × Int)
 | 0,_,_,_,_,_ => none
 | k + 1,x0,x1,x6,x7,x27 => if x27 < 16 then (if 0 ≤ x1 then (if (x1 : Int).toNat ≤ 35184372088832 then ((lsf_Decode.f k x1 x27 (List.replicate (x1 : Int).toNat 0)).bind fun bt348 => ((lpc_From.f k bt348.1).bind fun bt352 => ((levin_Rest.f k x0 bt352.1).bind fun bt356 => ((levin_Power.f k bt356.1).bind fun t360 => (if x7 < 0 then (levin_Best.l0 k x0 x1 x27 t360 (wrap64 (x27 + 1))) else (if t360 < x7 then (levin_Best.l0 k x0 x1 x27 t360 (wrap64 (x27 + 1))) else (levin_Best.l0 k x0 x1 x6 x7 (wrap64 (x27 + 1))))))))) else (none)) else (none)) else (some (x6,0))
end
def levin_Best.f (k : Nat) (l0 : List Int) (a1 : Int) : Option (Int × Int):=if a1 = 10 then (levin_Best.j0 k l0 a1 (decide ((l0.length : Int) > 960))) else (if a1 = 16 then (levin_Best.j0 k l0 a1 (decide ((l0.length : Int) > 960))) else (levin_Best.j0 k l0 a1 true))
theorem levin_Best.mono_l : ∀ k,(∀ y0 y1 y2,LeO (levin_Best.j0 k y0 y1 y2) (levin_Best.j0 (k + 1) y0 y1 y2)) ∧ (∀ y0 y1 y2 y3 y4,LeO (levin_Best.l0 k y0 y1 y2 y3 y4) (levin_Best.l0 (k + 1) y0 y1 y2 y3 y4))
 | 0 => ⟨fun _ _ _ r h => by simp [levin_Best.j0] at h,fun _ _ _ _ _ r h => by simp [levin_Best.l0] at h⟩
 | k + 1 => by
  obtain ⟨ih0,ih1⟩:=levin_Best.mono_l k
  refine ⟨?_,?_⟩
  all_goals (intros;first|unfold levin_Best.j0|unfold levin_Best.l0)
  all_goals (repeat' first|(with_reducible first|exact ih0 _ _ _|exact ih1 _ _ _ _ _|exact levin_Power.mono _ _|exact levin_Rest.mono _ _ _|exact lpc_From.mono _ _|exact lsf_Decode.mono _ _ _ _|exact LeO.refl _|exact LeO.none _|refine LeO.ite ?_ ?_|refine LeO.bind ?_ (fun _ => ?_))|exact ih0 _ _ _|exact ih1 _ _ _ _ _|exact levin_Power.mono _ _|exact levin_Rest.mono _ _ _|exact lpc_From.mono _ _|exact lsf_Decode.mono _ _ _ _|exact LeO.none _|refine LeO.ite ?_ ?_|refine LeO.bind ?_ (fun _ => ?_))
theorem levin_Best.mono : ∀ a0 a1 k,LeO (levin_Best.f k a0 a1) (levin_Best.f (k + 1) a0 a1):=by
 intro a0 a1 k
 obtain ⟨ih0,ih1⟩:=levin_Best.mono_l k
 unfold levin_Best.f
 repeat' first|(with_reducible first|exact ih0 _ _ _|exact ih1 _ _ _ _ _|exact levin_Power.mono _ _|exact levin_Rest.mono _ _ _|exact lpc_From.mono _ _|exact lsf_Decode.mono _ _ _ _|exact LeO.refl _|exact LeO.none _|refine LeO.ite ?_ ?_|refine LeO.bind ?_ (fun _ => ?_))|exact ih0 _ _ _|exact ih1 _ _ _ _ _|exact levin_Power.mono _ _|exact levin_Rest.mono _ _ _|exact lpc_From.mono _ _|exact lsf_Decode.mono _ _ _ _|exact LeO.none _|refine LeO.ite ?_ ?_|refine LeO.bind ?_ (fun _ => ?_)
set_option maxHeartbeats 8000000 in
set_option maxRecDepth 100000 in
theorem levin_Best.calls (k : Nat) (A0 : Option Addr) (c0 : Nat) (l0 : List Int) (a1 : Int) (r1 : Int) (r2 : Int) (w : World) (hr0 : Kd.C (Kd.int .i64) w A0 l0.length l0) (hc0 : l0.length ≤ c0) (h : levin_Best.f k l0 a1 = some (r1,r2)) :
  Calls Try.prog 14 #[.slice A0 l0.length c0,.int .i64 a1] w fun e w' => e = .returned (.tuple #[.int .i64 r1,.int .i64 r2]) ∧ Below w.heap.size w w':=by
 have hu46:=Try.underlying46
 have HR0:=ak_ hr0
 have HC0:=ak_ hc0
 clear hr0 hc0
 have HB:=ak_ (Below.refl w.heap.size w)
 have H : (if a1 = 10 then (levin_Best.j0 k l0 a1 (decide ((l0.length : Int) > 960))) else (if a1 = 16 then (levin_Best.j0 k l0 a1 (decide ((l0.length : Int) > 960))) else (levin_Best.j0 k l0 a1 true))) = some (r1,r2):=h
 clear h
 have HC3:=ak_ H
 clear H
 go_enter Try.func14,Try.ntmps14
 go_upto_region 1 with (fail)
 go_cut [26] (fun v26 wc => ∃ (kq : Nat) (x26_2 : Bool),v26 = .bool x26_2 ∧ Aside0 (levin_Best.j0 kq l0 a1 x26_2 = some (r1,r2)) ∧ Aside0 (kq ≤ k) ∧ Aside0 (Below w.heap.size w wc))
 case first =>
  have H:=HC3.out
  clear HC3
  by_cases c4 : a1 = 10
  ·rw [if_pos c4] at H
   have c4b0 : (a1 == 10) = true:=beq_iff_eq.mpr c4
   have c4b1 : (a1 != 10) = false:=bne_eq_false_iff_eq.mpr c4
   clear c4
   (first|rw [c4b0]|(simp only [i64_w,i32_w];rw [c4b0])|skip)
   have H':=ak_ H
   clear H
   go_wp2
   go_meet
   case rel => exact ⟨_,(decide ((l0.length : Int) > 960)),(by first|rfl|(simp;done)|(simp [*];done)),H',⟨by first|omega|exact Nat.le_refl _⟩,⟨by repeat (first|(with_reducible first|exact HB.out|apply ba_|apply bb_|apply bc_)|exact HB.out)⟩⟩
  ·rw [if_neg c4] at H
   have c4b0 : (a1 == 10) = false:=beq_eq_false_iff_ne.mpr c4
   have c4b1 : (a1 != 10) = true:=bne_iff_ne.mpr c4
   (first|rw [c4b0]|(simp only [i64_w,i32_w];rw [c4b0])|skip)
   by_cases c5 : a1 = 16
   ·rw [if_pos c5] at H
    have c5b0 : (a1 == 16) = true:=beq_iff_eq.mpr c5
    have c5b1 : (a1 != 16) = false:=bne_eq_false_iff_eq.mpr c5
    clear c5
    have H':=ak_ H
    clear H
    go_wp2
    go_meet
    case rel => exact ⟨_,(decide ((l0.length : Int) > 960)),(by first|rfl|(simp;done)|(simp [*];done)),H',⟨by first|omega|exact Nat.le_refl _⟩,⟨by repeat (first|(with_reducible first|exact HB.out|apply ba_|apply bb_|apply bc_)|exact HB.out)⟩⟩
   ·rw [if_neg c5] at H
    have c5b0 : (a1 == 16) = false:=beq_eq_false_iff_ne.mpr c5
    have c5b1 : (a1 != 16) = true:=bne_iff_ne.mpr c5
    have H':=ak_ H
    clear H
    go_wp2
    go_meet
    case rel => exact ⟨_,(true),(by first|rfl|(simp;done)|(simp [*];done)),H',⟨by first|omega|exact Nat.le_refl _⟩,⟨by repeat (first|(with_reducible first|exact HB.out|apply ba_|apply bb_|apply bc_)|exact HB.out)⟩⟩
 case rest =>
  clear HC3
  try clear c1
  try clear p2
  try clear c4
  try clear c4b0
  try clear c4b1
  try clear c5
  try clear c5b0
  try clear c5b1
  obtain ⟨kq,x26_2,rfl,HA,HJ2,HB⟩:=hcut
  (try simp only [i64_w,i32_w])
  cases kq with
  | zero => exact absurd HA.out (by simp [levin_Best.j0])
  | succ kj2 =>
   have H:=HA.out
   clear HA
   simp only [levin_Best.j0] at H
   by_cases c6 : x26_2 = true
   ·subst c6
    have H1 : (some (0,1)) = some (r1,r2):=by rw [if_pos rfl] at H;exact H
    clear H
    have H:=H1
    clear H1
    simp only [Option.some.injEq,Prod.mk.injEq] at H
    obtain ⟨rfl,rfl⟩:=H
    go_wp2
    go_ret2
    exact ⟨by first|rfl|(simp [errW_none,errW_some] <;> rfl)|(simp [*,errW_none,errW_some] <;> rfl),by repeat (first|(with_reducible first|exact HB.out|apply ba_|apply bb_|apply bc_)|exact HB.out)⟩
   ·replace c6:=Bool.eq_false_iff.mpr c6
    subst c6
    have H1 : (levin_Best.l0 kj2 l0 a1 0 (-1) 0) = some (r1,r2):=by rw [if_neg (show ¬ (false = true) by decide)] at H;exact H
    clear H
    have H:=H1
    clear H1
    have H':=ak_ H
    clear H
    go_wp2
    go_loopg [6,7,27] kj2 (fun kq v6 v7 v27 w' => ∃ (x6_2 : Int) (x7_2 : Int) (x27_2 : Int),v6 = .int .i64 x6_2 ∧ v7 = .int .i64 x7_2 ∧ v27 = .int .i64 x27_2 ∧ Aside0 (levin_Best.l0 kq l0 a1 x6_2 x7_2 x27_2 = some (r1,r2)) ∧ Aside0 (kq ≤ kj2) ∧ Aside0 (Below w.heap.size w w'))
    case atStart => exact ⟨(0),((-1)),(0),(by first|rfl|(simp;done)|(simp [*];done)),(by first|rfl|(simp;done)|(simp [*];done)),(by first|rfl|(simp;done)|(simp [*];done)),H',⟨Nat.le_refl _⟩,⟨by repeat (first|(with_reducible first|exact HB.out|apply ba_|apply bb_|apply bc_)|exact HB.out)⟩⟩
    case round =>
     clear H'
     try clear c1
     try clear p2
     try clear c4
     try clear c4b0
     try clear c4b1
     try clear c5
     try clear c5b0
     try clear c5b1
     try clear c6
     try clear p2
     obtain ⟨x6_2,x7_2,x27_2,rfl,rfl,rfl,HA,HK2,HB⟩:=hrel
     (try simp only [i64_w,i32_w])
     cases gk with
     | zero => exact absurd HA.out (by simp [levin_Best.l0])
     | succ k2 =>
      have H:=HA.out
      clear HA
      simp only [levin_Best.l0] at H
      by_cases c7 : x27_2 < 16
      ·rw [if_pos c7] at H
       have c7b0:=decide_eq_true c7
       clear c7
       by_cases c8 : 0 ≤ a1
       ·rw [if_pos c8] at H
        have c8b0:=eq_true c8
        have c8b1 : decide (0 ≤ a1) = true:=decide_eq_true c8
        clear c8
        by_cases c9 : (a1 : Int).toNat ≤ 35184372088832
        ·rw [if_pos c9] at H
         have c9b0:=eq_true c9
         have c9b1 : decide ((a1 : Int).toNat ≤ 35184372088832) = true:=decide_eq_true c9
         clear c9
         obtain ⟨y345,hy345⟩ : ∃ y_ : List Int,y_ = (List.replicate (a1 : Int).toNat 0):=⟨_,rfl⟩
         replace H : ((lsf_Decode.f k2 a1 x27_2 y345).bind fun bt348 => ((lpc_From.f k2 bt348.1).bind fun bt352 => ((levin_Rest.f k2 l0 bt352.1).bind fun bt356 => ((levin_Power.f k2 bt356.1).bind fun t360 => (if x7_2 < 0 then (levin_Best.l0 k2 l0 a1 x27_2 t360 (wrap64 (x27_2 + 1))) else (if t360 < x7_2 then (levin_Best.l0 k2 l0 a1 x27_2 t360 (wrap64 (x27_2 + 1))) else (levin_Best.l0 k2 l0 a1 x6_2 x7_2 (wrap64 (x27_2 + 1))))))))) = some (r1,r2):=by first|(rw [hy345];with_reducible exact H)|(have H2_:=(Option.bind_some _ _).symm.trans H;rw [hy345];with_reducible exact H2_)|(have H2_:=(Option.bind_some _ _).symm.trans H;with_reducible exact H2_)|with_reducible exact H|(rw [hy345];exact H)|exact H
         have Ny345:=ak_ hy345
         clear hy345
         replace H:=Option.bind_eq_some_iff.mp H
         obtain ⟨⟨t348,t351⟩,A100,H⟩:=H
         (try dsimp only at H)
         have A10:=ak_ A100
         clear A100
         replace H:=Option.bind_eq_some_iff.mp H
         obtain ⟨⟨t352,t353⟩,A110,H⟩:=H
         (try dsimp only at H)
         have A11:=ak_ A110
         clear A110
         replace H:=Option.bind_eq_some_iff.mp H
         obtain ⟨⟨t356,t357⟩,A120,H⟩:=H
         (try dsimp only at H)
         have A12:=ak_ A120
         clear A120
         replace H:=Option.bind_eq_some_iff.mp H
         obtain ⟨t360,A130,H⟩:=H
         (try dsimp only at H)
         have A13:=ak_ A130
         clear A130
         by_cases c14 : x7_2 < 0
         ·rw [if_pos c14] at H
          have c14b0:=decide_eq_true c14
          clear c14
          have H':=ak_ H
          clear H
          go_wp2_with (first|((with_reducible refine gate_dst (N:=34) rfl ?_);(try (refine gate_guard (by rfl) ?_;dsimp only));refine Kd.R_make (Kd.int .i64) _ 3 rfl (N:=34) rfl 44 _ _ rfl a1 rfl rfl Try.underlying44 (.int .i64 0) 8 info3 rfl (by decide) (by omega) 0 (ok:=fun _ => True) (okp:=fun _ => True) rfl (fun _ hk => hk) trivial (of_decide_eq_true (by first|(with_reducible assumption)|assumption)) (Nat.le_trans (Nat.mul_le_mul_right _ (of_decide_eq_true (by first|(with_reducible assumption)|assumption) : a1.toNat ≤ 35184372088832)) (by omega)) (Below.refl _ _) (Nat.le_refl _) ?_;intro v346 w15 ho16 hb hg_ hnew_;clear hg_ hnew_;(first|rw [← Ny345.out] at ho16|(simp only [Int.reduceToNat] at ho16;rw [← Ny345.out] at ho16));have n0_:=ak_ (Kd.R_lower ho16 (below_size (by repeat (first|(with_reducible first|exact HB.out|apply ba_|apply bb_|apply bc_)|exact HB.out))));have n1_:=ak_ (below_step (by repeat (first|(with_reducible first|exact HB.out|apply ba_|apply bb_|apply bc_)|exact HB.out)) hb);clear HB;have HO347:=n0_;have HB:=n1_;clear n0_ n1_;clear hb ho16;obtain ⟨Ao17,co17,eo17⟩:=Kd.R_slice HO347.out;subst eo17)|((with_reducible refine gate_callee (f:=29) rfl ?_);refine goesL_ (some 36) rfl rfl Try.func29 (by kernel_rfl) rfl #[.int .i64 a1,.agg #[.int .i64 x27_2,.slice Ao17 y345.length co17]] rfl (by (try simp only [List.map_toArray,List.map_cons,List.map_nil]);first|done|rfl|(simp only [List.length_drop,List.length_take];rfl)) ?_;(with_reducible refine (lsf_Decode.calls k2 a1 x27_2 _ _ y345 t348 t351 _ ?side1 ?side2 A10.out).mono ?_);(case side1 => repeat (first|exact (Kd.R_reads' HO347.out).2.2|(with_reducible refine Kd.C_alloc ?_ _)|(with_reducible refine Kd.C_drewN ?_ _)|(with_reducible refine Kd.C_drew ?_)));(case side2 => exact (Kd.R_reads' HO347.out).2.1);rintro e w18 ⟨v349,rfl,ho0,hb⟩;refine ⟨_,rfl,?_⟩;have n0_:=ak_ (Kd.R_below (by (with_reducible repeat (first|apply ra_|apply rb_|apply rc_));exact HO347.out) hb);have n1_:=ak_ (Kd.R_lower ho0 (below_size (by repeat (first|(with_reducible first|exact HB.out|apply ba_|apply bb_|apply bc_)|exact HB.out))));have n2_:=ak_ (below_step (by repeat (first|(with_reducible first|exact HB.out|apply ba_|apply bb_|apply bc_)|exact HB.out)) hb);clear HO347;clear HB;have HO347:=n0_;have HO350:=n1_;have HB:=n2_;clear n0_ n1_ n2_;(try clear hb);(try clear ho0);obtain ⟨Ao19,co19,eo19⟩:=Kd.R_slice HO350.out;subst eo19)|((with_reducible refine gate_callee (f:=30) rfl ?_);refine goesL_ (some 41) rfl rfl Try.func30 (by kernel_rfl) rfl #[.slice Ao19 t348.length co19] rfl (by (try simp only [List.map_toArray,List.map_cons,List.map_nil]);first|done|rfl|(simp only [List.length_drop,List.length_take];rfl)) ?_;(with_reducible refine (lpc_From.calls k2 _ _ t348 t352 t353 _ ?side1 ?side2 A11.out).mono ?_);(case side1 => repeat (first|exact (Kd.R_reads' HO350.out).2.2|(with_reducible refine Kd.C_alloc ?_ _)|(with_reducible refine Kd.C_drewN ?_ _)|(with_reducible refine Kd.C_drew ?_)));(case side2 => exact (Kd.R_reads' HO350.out).2.1);rintro e w20 ⟨v354,rfl,ho0,hb⟩;refine ⟨_,rfl,?_⟩;have n0_:=ak_ (Kd.R_below (by (with_reducible repeat (first|apply ra_|apply rb_|apply rc_));exact HO347.out) hb);have n1_:=ak_ (Kd.R_elder' (by (with_reducible repeat (first|apply ra_|apply rb_|apply rc_));exact HO350.out) (Kd.R_base ho0) hb);have n2_:=ak_ (Kd.R_lower (Kd.R_new' ho0 (Kd.R_lt (by (with_reducible repeat (first|apply ra_|apply rb_|apply rc_));exact HO350.out))) (below_size (by repeat (first|(with_reducible first|exact HB.out|apply ba_|apply bb_|apply bc_)|exact HB.out))));have n3_:=ak_ (below_step (by repeat (first|(with_reducible first|exact HB.out|apply ba_|apply bb_|apply bc_)|exact HB.out)) hb);clear HO347;clear HO350;clear HB;have HO347:=n0_;have HO350:=n1_;have HO355:=n2_;have HB:=n3_;clear n0_ n1_ n2_ n3_;(try clear hb);(try clear ho0);obtain ⟨Ao21,co21,eo21⟩:=Kd.R_slice HO355.out;subst eo21)|((with_reducible refine gate_callee (f:=13) rfl ?_);refine goesL_ (some 47) rfl rfl Try.func13 (by kernel_rfl) rfl #[.slice A0 l0.length c0,.slice Ao21 t352.length co21] rfl (by (try simp only [List.map_toArray,List.map_cons,List.map_nil]);first|done|rfl|(simp only [List.length_drop,List.length_take];rfl)) ?_;(with_reducible refine (levin_Rest.calls k2 _ _ l0 _ _ t352 t356 t357 _ ?side1 ?side2 ?side3 ?side4 A12.out).mono ?_);(case side1 => repeat (first|exact (Kd.C_below HR0.out HB.out)|(with_reducible refine Kd.C_alloc ?_ _)|(with_reducible refine Kd.C_drewN ?_ _)|(with_reducible refine Kd.C_drew ?_)));(case side2 => exact HC0.out);(case side3 => repeat (first|exact (Kd.R_reads' HO355.out).2.2|(with_reducible refine Kd.C_alloc ?_ _)|(with_reducible refine Kd.C_drewN ?_ _)|(with_reducible refine Kd.C_drew ?_)));(case side4 => exact (Kd.R_reads' HO355.out).2.1);rintro e w22 ⟨v358,rfl,ho0,hb⟩;refine ⟨_,rfl,?_⟩;have n0_:=ak_ (Kd.R_below (by (with_reducible repeat (first|apply ra_|apply rb_|apply rc_));exact HO347.out) hb);have n1_:=ak_ (Kd.R_elder' (by (with_reducible repeat (first|apply ra_|apply rb_|apply rc_));exact HO350.out) (Kd.R_base ho0) hb);have n2_:=ak_ (Kd.R_elder' (by (with_reducible repeat (first|apply ra_|apply rb_|apply rc_));exact HO355.out) (Kd.R_base ho0) hb);have n3_:=ak_ (Kd.R_lower (Kd.R_new' (Kd.R_new' ho0 (Kd.R_lt (by (with_reducible repeat (first|apply ra_|apply rb_|apply rc_));exact HO350.out))) (Kd.R_lt (by (with_reducible repeat (first|apply ra_|apply rb_|apply rc_));exact HO355.out))) (below_size (by repeat (first|(with_reducible first|exact HB.out|apply ba_|apply bb_|apply bc_)|exact HB.out))));have n4_:=ak_ (below_step (by repeat (first|(with_reducible first|exact HB.out|apply ba_|apply bb_|apply bc_)|exact HB.out)) hb);clear HO347;clear HO350;clear HO355;clear HB;have HO347:=n0_;have HO350:=n1_;have HO355:=n2_;have HO359:=n3_;have HB:=n4_;clear n0_ n1_ n2_ n3_ n4_;(try clear hb);(try clear ho0);obtain ⟨Ao23,co23,eo23⟩:=Kd.R_slice HO359.out;subst eo23)|((with_reducible refine gate_callee (f:=16) rfl ?_);refine goesL_ (some 51) rfl rfl Try.func16 (by kernel_rfl) rfl #[.slice Ao23 t356.length co23] rfl (by (try simp only [List.map_toArray,List.map_cons,List.map_nil]);first|done|rfl|(simp only [List.length_drop,List.length_take];rfl)) ?_;(with_reducible refine (levin_Power.calls k2 _ _ t356 t360 _ ?side1 ?side2 A13.out).mono ?_);(case side1 => repeat (first|exact (Kd.R_reads' HO359.out).2.2|(with_reducible refine Kd.C_alloc ?_ _)|(with_reducible refine Kd.C_drewN ?_ _)|(with_reducible refine Kd.C_drew ?_)));(case side2 => exact (Kd.R_reads' HO359.out).2.1);rintro e w24 ⟨rfl,hb⟩;refine ⟨_,rfl,?_⟩;have n0_:=ak_ (Kd.R_below (by (with_reducible repeat (first|apply ra_|apply rb_|apply rc_));exact HO347.out) hb);have n1_:=ak_ (Kd.R_below (by (with_reducible repeat (first|apply ra_|apply rb_|apply rc_));exact HO350.out) hb);have n2_:=ak_ (Kd.R_below (by (with_reducible repeat (first|apply ra_|apply rb_|apply rc_));exact HO355.out) hb);have n3_:=ak_ (Kd.R_below (by (with_reducible repeat (first|apply ra_|apply rb_|apply rc_));exact HO359.out) hb);have n4_:=ak_ (below_step (by repeat (first|(with_reducible first|exact HB.out|apply ba_|apply bb_|apply bc_)|exact HB.out)) hb);clear HO347;clear HO350;clear HO355;clear HO359;clear HB;have HO347:=n0_;have HO350:=n1_;have HO355:=n2_;have HO359:=n3_;have HB:=n4_;clear n0_ n1_ n2_ n3_ n4_;(try clear hb)))
          go_roundg k2
          case measure => have:=HJ2.out;have:=HK2.out;omega
          case rel => exact ⟨(x27_2),(t360),(wrap64 (x27_2 + 1)),(by first|rfl|(simp;done)|(simp [*];done)),(by first|rfl|(simp;done)|(simp [*];done)),(by first|rfl|(simp;done)|(simp [*];done)),H',⟨by have:=HJ2.out;have:=HK2.out;omega⟩,⟨by repeat (first|(with_reducible first|exact HB.out|apply ba_|apply bb_|apply bc_)|exact HB.out)⟩⟩
         ·rw [if_neg c14] at H
          have c14b0:=decide_eq_false c14
          clear c14
          by_cases c25 : t360 < x7_2
          ·rw [if_pos c25] at H
           have c25b0:=decide_eq_true c25
           clear c25
           have H':=ak_ H
           clear H
           go_wp2_with (first|((with_reducible refine gate_dst (N:=34) rfl ?_);(try (refine gate_guard (by rfl) ?_;dsimp only));refine Kd.R_make (Kd.int .i64) _ 3 rfl (N:=34) rfl 44 _ _ rfl a1 rfl rfl Try.underlying44 (.int .i64 0) 8 info3 rfl (by decide) (by omega) 0 (ok:=fun _ => True) (okp:=fun _ => True) rfl (fun _ hk => hk) trivial (of_decide_eq_true (by first|(with_reducible assumption)|assumption)) (Nat.le_trans (Nat.mul_le_mul_right _ (of_decide_eq_true (by first|(with_reducible assumption)|assumption) : a1.toNat ≤ 35184372088832)) (by omega)) (Below.refl _ _) (Nat.le_refl _) ?_;intro v346 w26 ho27 hb hg_ hnew_;clear hg_ hnew_;(first|rw [← Ny345.out] at ho27|(simp only [Int.reduceToNat] at ho27;rw [← Ny345.out] at ho27));have n0_:=ak_ (Kd.R_lower ho27 (below_size (by repeat (first|(with_reducible first|exact HB.out|apply ba_|apply bb_|apply bc_)|exact HB.out))));have n1_:=ak_ (below_step (by repeat (first|(with_reducible first|exact HB.out|apply ba_|apply bb_|apply bc_)|exact HB.out)) hb);clear HB;have HO347:=n0_;have HB:=n1_;clear n0_ n1_;clear hb ho27;obtain ⟨Ao28,co28,eo28⟩:=Kd.R_slice HO347.out;subst eo28)|((with_reducible refine gate_callee (f:=29) rfl ?_);refine goesL_ (some 36) rfl rfl Try.func29 (by kernel_rfl) rfl #[.int .i64 a1,.agg #[.int .i64 x27_2,.slice Ao28 y345.length co28]] rfl (by (try simp only [List.map_toArray,List.map_cons,List.map_nil]);first|done|rfl|(simp only [List.length_drop,List.length_take];rfl)) ?_;(with_reducible refine (lsf_Decode.calls k2 a1 x27_2 _ _ y345 t348 t351 _ ?side1 ?side2 A10.out).mono ?_);(case side1 => repeat (first|exact (Kd.R_reads' HO347.out).2.2|(with_reducible refine Kd.C_alloc ?_ _)|(with_reducible refine Kd.C_drewN ?_ _)|(with_reducible refine Kd.C_drew ?_)));(case side2 => exact (Kd.R_reads' HO347.out).2.1);rintro e w29 ⟨v349,rfl,ho0,hb⟩;refine ⟨_,rfl,?_⟩;have n0_:=ak_ (Kd.R_below (by (with_reducible repeat (first|apply ra_|apply rb_|apply rc_));exact HO347.out) hb);have n1_:=ak_ (Kd.R_lower ho0 (below_size (by repeat (first|(with_reducible first|exact HB.out|apply ba_|apply bb_|apply bc_)|exact HB.out))));have n2_:=ak_ (below_step (by repeat (first|(with_reducible first|exact HB.out|apply ba_|apply bb_|apply bc_)|exact HB.out)) hb);clear HO347;clear HB;have HO347:=n0_;have HO350:=n1_;have HB:=n2_;clear n0_ n1_ n2_;(try clear hb);(try clear ho0);obtain ⟨Ao30,co30,eo30⟩:=Kd.R_slice HO350.out;subst eo30)|((with_reducible refine gate_callee (f:=30) rfl ?_);refine goesL_ (some 41) rfl rfl Try.func30 (by kernel_rfl) rfl #[.slice Ao30 t348.length co30] rfl (by (try simp only [List.map_toArray,List.map_cons,List.map_nil]);first|done|rfl|(simp only [List.length_drop,List.length_take];rfl)) ?_;(with_reducible refine (lpc_From.calls k2 _ _ t348 t352 t353 _ ?side1 ?side2 A11.out).mono ?_);(case side1 => repeat (first|exact (Kd.R_reads' HO350.out).2.2|(with_reducible refine Kd.C_alloc ?_ _)|(with_reducible refine Kd.C_drewN ?_ _)|(with_reducible refine Kd.C_drew ?_)));(case side2 => exact (Kd.R_reads' HO350.out).2.1);rintro e w31 ⟨v354,rfl,ho0,hb⟩;refine ⟨_,rfl,?_⟩;have n0_:=ak_ (Kd.R_below (by (with_reducible repeat (first|apply ra_|apply rb_|apply rc_));exact HO347.out) hb);have n1_:=ak_ (Kd.R_elder' (by (with_reducible repeat (first|apply ra_|apply rb_|apply rc_));exact HO350.out) (Kd.R_base ho0) hb);have n2_:=ak_ (Kd.R_lower (Kd.R_new' ho0 (Kd.R_lt (by (with_reducible repeat (first|apply ra_|apply rb_|apply rc_));exact HO350.out))) (below_size (by repeat (first|(with_reducible first|exact HB.out|apply ba_|apply bb_|apply bc_)|exact HB.out))));have n3_:=ak_ (below_step (by repeat (first|(with_reducible first|exact HB.out|apply ba_|apply bb_|apply bc_)|exact HB.out)) hb);clear HO347;clear HO350;clear HB;have HO347:=n0_;have HO350:=n1_;have HO355:=n2_;have HB:=n3_;clear n0_ n1_ n2_ n3_;(try clear hb);(try clear ho0);obtain ⟨Ao32,co32,eo32⟩:=Kd.R_slice HO355.out;subst eo32)|((with_reducible refine gate_callee (f:=13) rfl ?_);refine goesL_ (some 47) rfl rfl Try.func13 (by kernel_rfl) rfl #[.slice A0 l0.length c0,.slice Ao32 t352.length co32] rfl (by (try simp only [List.map_toArray,List.map_cons,List.map_nil]);first|done|rfl|(simp only [List.length_drop,List.length_take];rfl)) ?_;(with_reducible refine (levin_Rest.calls k2 _ _ l0 _ _ t352 t356 t357 _ ?side1 ?side2 ?side3 ?side4 A12.out).mono ?_);(case side1 => repeat (first|exact (Kd.C_below HR0.out HB.out)|(with_reducible refine Kd.C_alloc ?_ _)|(with_reducible refine Kd.C_drewN ?_ _)|(with_reducible refine Kd.C_drew ?_)));(case side2 => exact HC0.out);(case side3 => repeat (first|exact (Kd.R_reads' HO355.out).2.2|(with_reducible refine Kd.C_alloc ?_ _)|(with_reducible refine Kd.C_drewN ?_ _)|(with_reducible refine Kd.C_drew ?_)));(case side4 => exact (Kd.R_reads' HO355.out).2.1);rintro e w33 ⟨v358,rfl,ho0,hb⟩;refine ⟨_,rfl,?_⟩;have n0_:=ak_ (Kd.R_below (by (with_reducible repeat (first|apply ra_|apply rb_|apply rc_));exact HO347.out) hb);have n1_:=ak_ (Kd.R_elder' (by (with_reducible repeat (first|apply ra_|apply rb_|apply rc_));exact HO350.out) (Kd.R_base ho0) hb);have n2_:=ak_ (Kd.R_elder' (by (with_reducible repeat (first|apply ra_|apply rb_|apply rc_));exact HO355.out) (Kd.R_base ho0) hb);have n3_:=ak_ (Kd.R_lower (Kd.R_new' (Kd.R_new' ho0 (Kd.R_lt (by (with_reducible repeat (first|apply ra_|apply rb_|apply rc_));exact HO350.out))) (Kd.R_lt (by (with_reducible repeat (first|apply ra_|apply rb_|apply rc_));exact HO355.out))) (below_size (by repeat (first|(with_reducible first|exact HB.out|apply ba_|apply bb_|apply bc_)|exact HB.out))));have n4_:=ak_ (below_step (by repeat (first|(with_reducible first|exact HB.out|apply ba_|apply bb_|apply bc_)|exact HB.out)) hb);clear HO347;clear HO350;clear HO355;clear HB;have HO347:=n0_;have HO350:=n1_;have HO355:=n2_;have HO359:=n3_;have HB:=n4_;clear n0_ n1_ n2_ n3_ n4_;(try clear hb);(try clear ho0);obtain ⟨Ao34,co34,eo34⟩:=Kd.R_slice HO359.out;subst eo34)|((with_reducible refine gate_callee (f:=16) rfl ?_);refine goesL_ (some 51) rfl rfl Try.func16 (by kernel_rfl) rfl #[.slice Ao34 t356.length co34] rfl (by (try simp only [List.map_toArray,List.map_cons,List.map_nil]);first|done|rfl|(simp only [List.length_drop,List.length_take];rfl)) ?_;(with_reducible refine (levin_Power.calls k2 _ _ t356 t360 _ ?side1 ?side2 A13.out).mono ?_);(case side1 => repeat (first|exact (Kd.R_reads' HO359.out).2.2|(with_reducible refine Kd.C_alloc ?_ _)|(with_reducible refine Kd.C_drewN ?_ _)|(with_reducible refine Kd.C_drew ?_)));(case side2 => exact (Kd.R_reads' HO359.out).2.1);rintro e w35 ⟨rfl,hb⟩;refine ⟨_,rfl,?_⟩;have n0_:=ak_ (Kd.R_below (by (with_reducible repeat (first|apply ra_|apply rb_|apply rc_));exact HO347.out) hb);have n1_:=ak_ (Kd.R_below (by (with_reducible repeat (first|apply ra_|apply rb_|apply rc_));exact HO350.out) hb);have n2_:=ak_ (Kd.R_below (by (with_reducible repeat (first|apply ra_|apply rb_|apply rc_));exact HO355.out) hb);have n3_:=ak_ (Kd.R_below (by (with_reducible repeat (first|apply ra_|apply rb_|apply rc_));exact HO359.out) hb);have n4_:=ak_ (below_step (by repeat (first|(with_reducible first|exact HB.out|apply ba_|apply bb_|apply bc_)|exact HB.out)) hb);clear HO347;clear HO350;clear HO355;clear HO359;clear HB;have HO347:=n0_;have HO350:=n1_;have HO355:=n2_;have HO359:=n3_;have HB:=n4_;clear n0_ n1_ n2_ n3_ n4_;(try clear hb)))
           go_roundg k2
           case measure => have:=HJ2.out;have:=HK2.out;omega
           case rel => exact ⟨(x27_2),(t360),(wrap64 (x27_2 + 1)),(by first|rfl|(simp;done)|(simp [*];done)),(by first|rfl|(simp;done)|(simp [*];done)),(by first|rfl|(simp;done)|(simp [*];done)),H',⟨by have:=HJ2.out;have:=HK2.out;omega⟩,⟨by repeat (first|(with_reducible first|exact HB.out|apply ba_|apply bb_|apply bc_)|exact HB.out)⟩⟩
          ·rw [if_neg c25] at H
           have c25b0:=decide_eq_false c25
           clear c25
           have H':=ak_ H
           clear H
           go_wp2_with (first|((with_reducible refine gate_dst (N:=34) rfl ?_);(try (refine gate_guard (by rfl) ?_;dsimp only));refine Kd.R_make (Kd.int .i64) _ 3 rfl (N:=34) rfl 44 _ _ rfl a1 rfl rfl Try.underlying44 (.int .i64 0) 8 info3 rfl (by decide) (by omega) 0 (ok:=fun _ => True) (okp:=fun _ => True) rfl (fun _ hk => hk) trivial (of_decide_eq_true (by first|(with_reducible assumption)|assumption)) (Nat.le_trans (Nat.mul_le_mul_right _ (of_decide_eq_true (by first|(with_reducible assumption)|assumption) : a1.toNat ≤ 35184372088832)) (by omega)) (Below.refl _ _) (Nat.le_refl _) ?_;intro v346 w36 ho37 hb hg_ hnew_;clear hg_ hnew_;(first|rw [← Ny345.out] at ho37|(simp only [Int.reduceToNat] at ho37;rw [← Ny345.out] at ho37));have n0_:=ak_ (Kd.R_lower ho37 (below_size (by repeat (first|(with_reducible first|exact HB.out|apply ba_|apply bb_|apply bc_)|exact HB.out))));have n1_:=ak_ (below_step (by repeat (first|(with_reducible first|exact HB.out|apply ba_|apply bb_|apply bc_)|exact HB.out)) hb);clear HB;have HO347:=n0_;have HB:=n1_;clear n0_ n1_;clear hb ho37;obtain ⟨Ao38,co38,eo38⟩:=Kd.R_slice HO347.out;subst eo38)|((with_reducible refine gate_callee (f:=29) rfl ?_);refine goesL_ (some 36) rfl rfl Try.func29 (by kernel_rfl) rfl #[.int .i64 a1,.agg #[.int .i64 x27_2,.slice Ao38 y345.length co38]] rfl (by (try simp only [List.map_toArray,List.map_cons,List.map_nil]);first|done|rfl|(simp only [List.length_drop,List.length_take];rfl)) ?_;(with_reducible refine (lsf_Decode.calls k2 a1 x27_2 _ _ y345 t348 t351 _ ?side1 ?side2 A10.out).mono ?_);(case side1 => repeat (first|exact (Kd.R_reads' HO347.out).2.2|(with_reducible refine Kd.C_alloc ?_ _)|(with_reducible refine Kd.C_drewN ?_ _)|(with_reducible refine Kd.C_drew ?_)));(case side2 => exact (Kd.R_reads' HO347.out).2.1);rintro e w39 ⟨v349,rfl,ho0,hb⟩;refine ⟨_,rfl,?_⟩;have n0_:=ak_ (Kd.R_below (by (with_reducible repeat (first|apply ra_|apply rb_|apply rc_));exact HO347.out) hb);have n1_:=ak_ (Kd.R_lower ho0 (below_size (by repeat (first|(with_reducible first|exact HB.out|apply ba_|apply bb_|apply bc_)|exact HB.out))));have n2_:=ak_ (below_step (by repeat (first|(with_reducible first|exact HB.out|apply ba_|apply bb_|apply bc_)|exact HB.out)) hb);clear HO347;clear HB;have HO347:=n0_;have HO350:=n1_;have HB:=n2_;clear n0_ n1_ n2_;(try clear hb);(try clear ho0);obtain ⟨Ao40,co40,eo40⟩:=Kd.R_slice HO350.out;subst eo40)|((with_reducible refine gate_callee (f:=30) rfl ?_);refine goesL_ (some 41) rfl rfl Try.func30 (by kernel_rfl) rfl #[.slice Ao40 t348.length co40] rfl (by (try simp only [List.map_toArray,List.map_cons,List.map_nil]);first|done|rfl|(simp only [List.length_drop,List.length_take];rfl)) ?_;(with_reducible refine (lpc_From.calls k2 _ _ t348 t352 t353 _ ?side1 ?side2 A11.out).mono ?_);(case side1 => repeat (first|exact (Kd.R_reads' HO350.out).2.2|(with_reducible refine Kd.C_alloc ?_ _)|(with_reducible refine Kd.C_drewN ?_ _)|(with_reducible refine Kd.C_drew ?_)));(case side2 => exact (Kd.R_reads' HO350.out).2.1);rintro e w41 ⟨v354,rfl,ho0,hb⟩;refine ⟨_,rfl,?_⟩;have n0_:=ak_ (Kd.R_below (by (with_reducible repeat (first|apply ra_|apply rb_|apply rc_));exact HO347.out) hb);have n1_:=ak_ (Kd.R_elder' (by (with_reducible repeat (first|apply ra_|apply rb_|apply rc_));exact HO350.out) (Kd.R_base ho0) hb);have n2_:=ak_ (Kd.R_lower (Kd.R_new' ho0 (Kd.R_lt (by (with_reducible repeat (first|apply ra_|apply rb_|apply rc_));exact HO350.out))) (below_size (by repeat (first|(with_reducible first|exact HB.out|apply ba_|apply bb_|apply bc_)|exact HB.out))));have n3_:=ak_ (below_step (by repeat (first|(with_reducible first|exact HB.out|apply ba_|apply bb_|apply bc_)|exact HB.out)) hb);clear HO347;clear HO350;clear HB;have HO347:=n0_;have HO350:=n1_;have HO355:=n2_;have HB:=n3_;clear n0_ n1_ n2_ n3_;(try clear hb);(try clear ho0);obtain ⟨Ao42,co42,eo42⟩:=Kd.R_slice HO355.out;subst eo42)|((with_reducible refine gate_callee (f:=13) rfl ?_);refine goesL_ (some 47) rfl rfl Try.func13 (by kernel_rfl) rfl #[.slice A0 l0.length c0,.slice Ao42 t352.length co42] rfl (by (try simp only [List.map_toArray,List.map_cons,List.map_nil]);first|done|rfl|(simp only [List.length_drop,List.length_take];rfl)) ?_;(with_reducible refine (levin_Rest.calls k2 _ _ l0 _ _ t352 t356 t357 _ ?side1 ?side2 ?side3 ?side4 A12.out).mono ?_);(case side1 => repeat (first|exact (Kd.C_below HR0.out HB.out)|(with_reducible refine Kd.C_alloc ?_ _)|(with_reducible refine Kd.C_drewN ?_ _)|(with_reducible refine Kd.C_drew ?_)));(case side2 => exact HC0.out);(case side3 => repeat (first|exact (Kd.R_reads' HO355.out).2.2|(with_reducible refine Kd.C_alloc ?_ _)|(with_reducible refine Kd.C_drewN ?_ _)|(with_reducible refine Kd.C_drew ?_)));(case side4 => exact (Kd.R_reads' HO355.out).2.1);rintro e w43 ⟨v358,rfl,ho0,hb⟩;refine ⟨_,rfl,?_⟩;have n0_:=ak_ (Kd.R_below (by (with_reducible repeat (first|apply ra_|apply rb_|apply rc_));exact HO347.out) hb);have n1_:=ak_ (Kd.R_elder' (by (with_reducible repeat (first|apply ra_|apply rb_|apply rc_));exact HO350.out) (Kd.R_base ho0) hb);have n2_:=ak_ (Kd.R_elder' (by (with_reducible repeat (first|apply ra_|apply rb_|apply rc_));exact HO355.out) (Kd.R_base ho0) hb);have n3_:=ak_ (Kd.R_lower (Kd.R_new' (Kd.R_new' ho0 (Kd.R_lt (by (with_reducible repeat (first|apply ra_|apply rb_|apply rc_));exact HO350.out))) (Kd.R_lt (by (with_reducible repeat (first|apply ra_|apply rb_|apply rc_));exact HO355.out))) (below_size (by repeat (first|(with_reducible first|exact HB.out|apply ba_|apply bb_|apply bc_)|exact HB.out))));have n4_:=ak_ (below_step (by repeat (first|(with_reducible first|exact HB.out|apply ba_|apply bb_|apply bc_)|exact HB.out)) hb);clear HO347;clear HO350;clear HO355;clear HB;have HO347:=n0_;have HO350:=n1_;have HO355:=n2_;have HO359:=n3_;have HB:=n4_;clear n0_ n1_ n2_ n3_ n4_;(try clear hb);(try clear ho0);obtain ⟨Ao44,co44,eo44⟩:=Kd.R_slice HO359.out;subst eo44)|((with_reducible refine gate_callee (f:=16) rfl ?_);refine goesL_ (some 51) rfl rfl Try.func16 (by kernel_rfl) rfl #[.slice Ao44 t356.length co44] rfl (by (try simp only [List.map_toArray,List.map_cons,List.map_nil]);first|done|rfl|(simp only [List.length_drop,List.length_take];rfl)) ?_;(with_reducible refine (levin_Power.calls k2 _ _ t356 t360 _ ?side1 ?side2 A13.out).mono ?_);(case side1 => repeat (first|exact (Kd.R_reads' HO359.out).2.2|(with_reducible refine Kd.C_alloc ?_ _)|(with_reducible refine Kd.C_drewN ?_ _)|(with_reducible refine Kd.C_drew ?_)));(case side2 => exact (Kd.R_reads' HO359.out).2.1);rintro e w45 ⟨rfl,hb⟩;refine ⟨_,rfl,?_⟩;have n0_:=ak_ (Kd.R_below (by (with_reducible repeat (first|apply ra_|apply rb_|apply rc_));exact HO347.out) hb);have n1_:=ak_ (Kd.R_below (by (with_reducible repeat (first|apply ra_|apply rb_|apply rc_));exact HO350.out) hb);have n2_:=ak_ (Kd.R_below (by (with_reducible repeat (first|apply ra_|apply rb_|apply rc_));exact HO355.out) hb);have n3_:=ak_ (Kd.R_below (by (with_reducible repeat (first|apply ra_|apply rb_|apply rc_));exact HO359.out) hb);have n4_:=ak_ (below_step (by repeat (first|(with_reducible first|exact HB.out|apply ba_|apply bb_|apply bc_)|exact HB.out)) hb);clear HO347;clear HO350;clear HO355;clear HO359;clear HB;have HO347:=n0_;have HO350:=n1_;have HO355:=n2_;have HO359:=n3_;have HB:=n4_;clear n0_ n1_ n2_ n3_ n4_;(try clear hb)))
           go_roundg k2
           case measure => have:=HJ2.out;have:=HK2.out;omega
           case rel => exact ⟨(x6_2),(x7_2),(wrap64 (x27_2 + 1)),(by first|rfl|(simp;done)|(simp [*];done)),(by first|rfl|(simp;done)|(simp [*];done)),(by first|rfl|(simp;done)|(simp [*];done)),H',⟨by have:=HJ2.out;have:=HK2.out;omega⟩,⟨by repeat (first|(with_reducible first|exact HB.out|apply ba_|apply bb_|apply bc_)|exact HB.out)⟩⟩
        ·rw [if_neg c9] at H
         exact absurd H (by simp)
       ·rw [if_neg c8] at H
        exact absurd H (by simp)
      ·rw [if_neg c7] at H
       have c7b0:=decide_eq_false c7
       clear c7
       simp only [Option.some.injEq,Prod.mk.injEq] at H
       obtain ⟨rfl,rfl⟩:=H
       go_wp2
       go_ret2
       exact ⟨by first|rfl|(simp [errW_none,errW_some] <;> rfl)|(simp [*,errW_none,errW_some] <;> rfl),by repeat (first|(with_reducible first|exact HB.out|apply ba_|apply bb_|apply bc_)|exact HB.out)⟩

end Go.Proofs.Ytllglpcpjeggcaa.P
