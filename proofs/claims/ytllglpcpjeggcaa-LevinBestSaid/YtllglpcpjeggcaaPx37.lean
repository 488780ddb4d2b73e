/- The machine side of the laws of one chapter, without conditions: each call of a Go function comes to what the Lean function of its name answers. Written for this claim by a program of the prover. -/
import Derived.Test.YtllglpcpjeggcaaPx0
import Derived.Test.YtllglpcpjeggcaaPx28
import Derived.Test.YtllglpcpjeggcaaPx31
namespace Go.Proofs.Ytllglpcpjeggcaa.P
open Go.RowKit Go.Proofs.YtllglpcpjeggcaaW.PrintWords Go.Proofs.YtllglpcpjeggcaaW.PrintLast Go.Proofs.YtllglpcpjeggcaaW.PrintMore
attribute [local go_sem] max2_int min2_int max_two min_two max_three min_three max_four min_four   -- for this text's walks alone
set_option linter.unusedVariables false
set_option linter.unusedSimpArgs false

/-! ### madrigalref6_Rest: function 20 -/
mutual
def madrigalref6_Rest.l0 : Nat → List Int → List Int → List Int → Int → Option (List Int)
 | 0,_,_,_,_ => none
 | k + 1,x0,x1,x5,x6 => if x6 < (x0.length : Int) then (if 0 ≤ x6 then (madrigalref6_Rest.l1 k x0 x1 x5 x6 (rd x0 x6) 0) else (none)) else (some x5)
def madrigalref6_Rest.l1 : Nat → List Int → List Int → List Int → Int → Int → Int → Option (List Int)
 | 0,_,_,_,_,_,_ => none
 | k + 1,x0,x1,x5,x6,x7,x8 => if x8 < (x1.length : Int) then (if x8 < x6 then (if 0 ≤ x8 then (if 0 ≤ (wrap64 ((wrap64 (x6 - 1)) - x8)) then (if (wrap64 ((wrap64 (x6 - 1)) - x8)) < (x0.length : Int) then ((madrigalref1_Mul.f k (rd x1 x8) (rd x0 (wrap64 ((wrap64 (x6 - 1)) - x8))) 12).bind fun t548 => (madrigalref6_Rest.l1 k x0 x1 x5 x6 (wrap64 (x7 - t548)) (wrap64 (x8 + 1)))) else (none)) else (none)) else (none)) else (if x5.length < 17592186044416 then (madrigalref6_Rest.l0 k x0 x1 (x5 ++ [x7]) (wrap64 (x6 + 1))) else (none))) else (if x5.length < 17592186044416 then (madrigalref6_Rest.l0 k x0 x1 (x5 ++ [x7]) (wrap64 (x6 + 1))) else (none))
end
def madrigalref6_Rest.f (k : Nat) (l0 : List Int) (l1 : List Int) : Option (List Int):=(madrigalref6_clamped.f k l0 (-32768) 32767).bind fun t539 => ((madrigalref6_clamped.f k l1 (-131072) 131072).bind fun t542 => (madrigalref6_Rest.l0 k t539 t542 ([] : List Int) 0))
theorem madrigalref6_Rest.mono_l : ∀ k,(∀ y0 y1 y2 y3,LeO (madrigalref6_Rest.l0 k y0 y1 y2 y3) (madrigalref6_Rest.l0 (k + 1) y0 y1 y2 y3)) ∧ (∀ y0 y1 y2 y3 y4 y5,LeO (madrigalref6_Rest.l1 k y0 y1 y2 y3 y4 y5) (madrigalref6_Rest.l1 (k + 1) y0 y1 y2 y3 y4 y5))
 | 0 => ⟨fun _ _ _ _ r h => by simp [madrigalref6_Rest.l0] at h,fun _ _ _ _ _ _ r h => by simp [madrigalref6_Rest.l1] at h⟩
 | k + 1 => by
  obtain ⟨ih0,ih1⟩:=madrigalref6_Rest.mono_l k
  refine ⟨?_,?_⟩
  all_goals (intros;first|unfold madrigalref6_Rest.l0|unfold madrigalref6_Rest.l1)
  all_goals (repeat' first|(with_reducible first|exact ih0 _ _ _ _|exact ih1 _ _ _ _ _ _|exact madrigalref1_Mul.mono _ _ _ _|exact madrigalref6_clamped.mono _ _ _ _|exact LeO.refl _|exact LeO.none _|refine LeO.ite ?_ ?_|refine LeO.bind ?_ (fun _ => ?_))|exact ih0 _ _ _ _|exact ih1 _ _ _ _ _ _|exact madrigalref1_Mul.mono _ _ _ _|exact madrigalref6_clamped.mono _ _ _ _|exact LeO.none _|refine LeO.ite ?_ ?_|refine LeO.bind ?_ (fun _ => ?_))
theorem madrigalref6_Rest.mono : ∀ a0 a1 k,LeO (madrigalref6_Rest.f k a0 a1) (madrigalref6_Rest.f (k + 1) a0 a1):=by
 intro a0 a1 k
 obtain ⟨ih0,ih1⟩:=madrigalref6_Rest.mono_l k
 unfold madrigalref6_Rest.f
 repeat' first|(with_reducible first|exact ih0 _ _ _ _|exact ih1 _ _ _ _ _ _|exact madrigalref1_Mul.mono _ _ _ _|exact madrigalref6_clamped.mono _ _ _ _|exact LeO.refl _|exact LeO.none _|refine LeO.ite ?_ ?_|refine LeO.bind ?_ (fun _ => ?_))|exact ih0 _ _ _ _|exact ih1 _ _ _ _ _ _|exact madrigalref1_Mul.mono _ _ _ _|exact madrigalref6_clamped.mono _ _ _ _|exact LeO.none _|refine LeO.ite ?_ ?_|refine LeO.bind ?_ (fun _ => ?_)
set_option maxHeartbeats 8000000 in
set_option maxRecDepth 100000 in
theorem madrigalref6_Rest.calls (k : Nat) (A0 : Option Addr) (c0 : Nat) (l0 : List Int) (A1 : Option Addr) (c1 : Nat) (l1 : List Int) (r : List Int) (w : World) (hr0 : Kd.C (Kd.int .i64) w A0 l0.length l0) (hc0 : l0.length ≤ c0) (hr1 : Kd.C (Kd.int .i64) w A1 l1.length l1) (hc1 : l1.length ≤ c1) (h : madrigalref6_Rest.f k l0 l1 = some r) :
  Calls Try.prog 20 #[.slice A0 l0.length c0,.slice A1 l1.length c1] w fun e w' => ∃ v0_ : Value,e = .returned (v0_) ∧ Kd.R (Kd.int .i64) 2 w' w.heap.size (fun _ => True) v0_ r ∧ Below w.heap.size w w':=by
 have HR0:=ak_ hr0
 have HC0:=ak_ hc0
 clear hr0 hc0
 have HR1:=ak_ hr1
 have HC1:=ak_ hc1
 clear hr1 hc1
 have HB:=ak_ (Below.refl w.heap.size w)
 have H : ((madrigalref6_clamped.f k l0 (-32768) 32767).bind fun t539 => ((madrigalref6_clamped.f k l1 (-131072) 131072).bind fun t542 => (madrigalref6_Rest.l0 k t539 t542 ([] : List Int) 0))) = some r:=h
 clear h
 replace H:=Option.bind_eq_some_iff.mp H
 obtain ⟨t539,A30,H⟩:=H
 (try dsimp only at H)
 have A3:=ak_ A30
 clear A30
 replace H:=Option.bind_eq_some_iff.mp H
 obtain ⟨t542,A40,H⟩:=H
 (try dsimp only at H)
 have A4:=ak_ A40
 clear A40
 have H':=ak_ H
 clear H
 go_enter Try.func20,Try.ntmps20
 go_wp2_with (first|(go_at_call 31;(with_reducible refine (madrigalref6_clamped.calls k _ _ l0 (-32768) 32767 t539 _ ?side1 ?side2 A3.out).mono ?_);(case side1 => repeat (first|exact HR0.out|(with_reducible refine Kd.C_alloc ?_ _)|(with_reducible refine Kd.C_drewN ?_ _)|(with_reducible refine Kd.C_drew ?_)));(case side2 => exact HC0.out);rintro e w5 ⟨v540,rfl,ho0,hb⟩;have n0_:=ak_ (Kd.R_lower ho0 (below_size (by repeat (first|(with_reducible first|exact HB.out|apply ba_|apply bb_|apply bc_)|exact HB.out))));have n1_:=ak_ (below_step (by repeat (first|(with_reducible first|exact HB.out|apply ba_|apply bb_|apply bc_)|exact HB.out)) hb);clear HB;have HO541:=n0_;have HB:=n1_;clear n0_ n1_;(try clear hb);(try clear ho0))|(go_at_call 31;(with_reducible refine (madrigalref6_clamped.calls k _ _ l1 (-131072) 131072 t542 _ ?side1 ?side2 A4.out).mono ?_);(case side1 => repeat (first|exact (Kd.C_below HR1.out HB.out)|(with_reducible refine Kd.C_alloc ?_ _)|(with_reducible refine Kd.C_drewN ?_ _)|(with_reducible refine Kd.C_drew ?_)));(case side2 => exact HC1.out);rintro e w6 ⟨v543,rfl,ho0,hb⟩;have n0_:=ak_ (Kd.R_elder' (by (with_reducible repeat (first|apply ra_|apply rb_|apply rc_));exact HO541.out) (Kd.R_base ho0) hb);have n1_:=ak_ (Kd.R_lower (Kd.R_new' ho0 (Kd.R_lt (by (with_reducible repeat (first|apply ra_|apply rb_|apply rc_));exact HO541.out))) (below_size (by repeat (first|(with_reducible first|exact HB.out|apply ba_|apply bb_|apply bc_)|exact HB.out))));have n2_:=ak_ (below_step (by repeat (first|(with_reducible first|exact HB.out|apply ba_|apply bb_|apply bc_)|exact HB.out)) hb);clear HO541;clear HB;have HO541:=n0_;have HO544:=n1_;have HB:=n2_;clear n0_ n1_ n2_;(try clear hb);(try clear ho0)))
 repeat (go_quiet (first|(go_at_call 31;(with_reducible refine (madrigalref6_clamped.calls k _ _ l0 (-32768) 32767 t539 _ ?side1 ?side2 A3.out).mono ?_);(case side1 => repeat (first|exact HR0.out|(with_reducible refine Kd.C_alloc ?_ _)|(with_reducible refine Kd.C_drewN ?_ _)|(with_reducible refine Kd.C_drew ?_)));(case side2 => exact HC0.out);rintro e w5 ⟨v540,rfl,ho0,hb⟩;have n0_:=ak_ (Kd.R_lower ho0 (below_size (by repeat (first|(with_reducible first|exact HB.out|apply ba_|apply bb_|apply bc_)|exact HB.out))));have n1_:=ak_ (below_step (by repeat (first|(with_reducible first|exact HB.out|apply ba_|apply bb_|apply bc_)|exact HB.out)) hb);clear HB;have HO541:=n0_;have HB:=n1_;clear n0_ n1_;(try clear hb);(try clear ho0))|(go_at_call 31;(with_reducible refine (madrigalref6_clamped.calls k _ _ l1 (-131072) 131072 t542 _ ?side1 ?side2 A4.out).mono ?_);(case side1 => repeat (first|exact (Kd.C_below HR1.out HB.out)|(with_reducible refine Kd.C_alloc ?_ _)|(with_reducible refine Kd.C_drewN ?_ _)|(with_reducible refine Kd.C_drew ?_)));(case side2 => exact HC1.out);rintro e w6 ⟨v543,rfl,ho0,hb⟩;have n0_:=ak_ (Kd.R_elder' (by (with_reducible repeat (first|apply ra_|apply rb_|apply rc_));exact HO541.out) (Kd.R_base ho0) hb);have n1_:=ak_ (Kd.R_lower (Kd.R_new' ho0 (Kd.R_lt (by (with_reducible repeat (first|apply ra_|apply rb_|apply rc_));exact HO541.out))) (below_size (by repeat (first|(with_reducible first|exact HB.out|apply ba_|apply bb_|apply bc_)|exact HB.out))));have n2_:=ak_ (below_step (by repeat (first|(with_reducible first|exact HB.out|apply ba_|apply bb_|apply bc_)|exact HB.out)) hb);clear HO541;clear HB;have HO541:=n0_;have HO544:=n1_;have HB:=n2_;clear n0_ n1_ n2_;(try clear hb);(try clear ho0)));try go_wp2_with (first|(go_at_call 31;(with_reducible refine (madrigalref6_clamped.calls k _ _ l0 (-32768) 32767 t539 _ ?side1 ?side2 A3.out).mono ?_);(case side1 => repeat (first|exact HR0.out|(with_reducible refine Kd.C_alloc ?_ _)|(with_reducible refine Kd.C_drewN ?_ _)|(with_reducible refine Kd.C_drew ?_)));(case side2 => exact HC0.out);rintro e w5 ⟨v540,rfl,ho0,hb⟩;have n0_:=ak_ (Kd.R_lower ho0 (below_size (by repeat (first|(with_reducible first|exact HB.out|apply ba_|apply bb_|apply bc_)|exact HB.out))));have n1_:=ak_ (below_step (by repeat (first|(with_reducible first|exact HB.out|apply ba_|apply bb_|apply bc_)|exact HB.out)) hb);clear HB;have HO541:=n0_;have HB:=n1_;clear n0_ n1_;(try clear hb);(try clear ho0))|(go_at_call 31;(with_reducible refine (madrigalref6_clamped.calls k _ _ l1 (-131072) 131072 t542 _ ?side1 ?side2 A4.out).mono ?_);(case side1 => repeat (first|exact (Kd.C_below HR1.out HB.out)|(with_reducible refine Kd.C_alloc ?_ _)|(with_reducible refine Kd.C_drewN ?_ _)|(with_reducible refine Kd.C_drew ?_)));(case side2 => exact HC1.out);rintro e w6 ⟨v543,rfl,ho0,hb⟩;have n0_:=ak_ (Kd.R_elder' (by (with_reducible repeat (first|apply ra_|apply rb_|apply rc_));exact HO541.out) (Kd.R_base ho0) hb);have n1_:=ak_ (Kd.R_lower (Kd.R_new' ho0 (Kd.R_lt (by (with_reducible repeat (first|apply ra_|apply rb_|apply rc_));exact HO541.out))) (below_size (by repeat (first|(with_reducible first|exact HB.out|apply ba_|apply bb_|apply bc_)|exact HB.out))));have n2_:=ak_ (below_step (by repeat (first|(with_reducible first|exact HB.out|apply ba_|apply bb_|apply bc_)|exact HB.out)) hb);clear HO541;clear HB;have HO541:=n0_;have HO544:=n1_;have HB:=n2_;clear n0_ n1_ n2_;(try clear hb);(try clear ho0))))
 go_loopg [5,6] k (fun kq v5 v6 w' => ∃ (x5_1 : List Int) (x6_1 : Int),v6 = .int .i64 x6_1 ∧ Aside0 (madrigalref6_Rest.l0 kq t539 t542 x5_1 x6_1 = some r) ∧ Aside0 (kq ≤ k) ∧ Aside0 (Kd.R (Kd.int .i64) 2 w' w.heap.size (fun k_ => some k_ ≠ (v543 : Value).ownBlock ∧ some k_ ≠ (v5 : Value).ownBlock) v540 t539) ∧ Aside0 (Kd.R (Kd.int .i64) 2 w' w.heap.size (fun k_ => some k_ ≠ (v540 : Value).ownBlock ∧ some k_ ≠ (v5 : Value).ownBlock) v543 t542) ∧ Aside0 (Kd.R (Kd.int .i64) 2 w' w.heap.size (fun k_ => some k_ ≠ (v540 : Value).ownBlock ∧ some k_ ≠ (v543 : Value).ownBlock) v5 x5_1) ∧ Aside0 (Below w.heap.size w w'))
 case atStart => exact ⟨(([] : List Int)),(0),(by first|rfl|(simp;done)|(simp [*];done)),H',⟨Nat.le_refl _⟩,⟨by (with_reducible repeat (first|apply ra_|apply rb_|apply rc_));exact Kd.R_mono HO541.out (fun _ hk => ⟨hk.2,(by simp [Value.ownBlock])⟩)⟩,⟨by (with_reducible repeat (first|apply ra_|apply rb_|apply rc_));exact Kd.R_mono HO544.out (fun _ hk => ⟨hk.2,(by simp [Value.ownBlock])⟩)⟩,⟨by first|exact Kd.R_nil _ _ _ _ _|exact Kd.N_nil _ _ _ _ _|exact Kd.V_nil _ _ _ _ _|exact Kd.Q_nil _ _ _ _ _|exact Kd.S_nil _ _ _ _ _⟩,⟨by repeat (first|(with_reducible first|exact HB.out|apply ba_|apply bb_|apply bc_)|exact HB.out)⟩⟩
 case round =>
  clear H'
  try clear c1
  try clear c2
  try clear p2
  obtain ⟨x5_1,x6_1,rfl,HA,HK1,HO_0,HO_1,HO_5,HB⟩:=hrel
  (try simp only [i64_w,i32_w])
  cases gk with
  | zero => exact absurd HA.out (by simp [madrigalref6_Rest.l0])
  | succ k1 =>
   have H:=HA.out
   clear HA
   simp only [madrigalref6_Rest.l0] at H
   by_cases c7 : x6_1 < (t539.length : Int)
   ·rw [if_pos c7] at H
    have c7b0:=decide_eq_true c7
    clear c7
    by_cases c8 : 0 ≤ x6_1
    ·rw [if_pos c8] at H
     have c8b0:=decide_eq_true c8
     clear c8
     have H':=ak_ H
     clear H
     obtain ⟨Ao9,co9,eo9⟩:=Kd.R_slice HO_0.out
     subst eo9
     have p545 : 0 ≤ (x6_1 : Int):=of_decide_eq_true (by first|(with_reducible assumption)|assumption)
     have q545 : x6_1 < (t539.length : Int):=of_decide_eq_true (by first|(with_reducible assumption)|assumption)
     obtain ⟨ad545,e545,hx545_0⟩:=Kd.at_int (Kd.R_reads' HO_0.out).2.2 x6_1 p545 q545
     cases e545
     replace p545:=eq_true p545
     replace q545:=eq_true q545
     go_wp2
     repeat (go_quiet (fail);try go_wp2)
     go_loopg [7,8] k1 (fun kq v7 v8 w' => ∃ (x7_2 : Int) (x8_2 : Int),v7 = .int .i64 x7_2 ∧ v8 = .int .i64 x8_2 ∧ Aside0 (madrigalref6_Rest.l1 kq t539 t542 x5_1 x6_1 x7_2 x8_2 = some r) ∧ Aside0 (kq ≤ k1) ∧ Aside0 (Kd.R (Kd.int .i64) 2 w' w.heap.size (fun k_ => some k_ ≠ (v543 : Value).ownBlock ∧ some k_ ≠ (u5 : Value).ownBlock) (.slice (some ad545) t539.length co9) t539) ∧ Aside0 (Kd.R (Kd.int .i64) 2 w' w.heap.size (fun k_ => some k_ ≠ ((.slice (some ad545) t539.length co9) : Value).ownBlock ∧ some k_ ≠ (u5 : Value).ownBlock) v543 t542) ∧ Aside0 (Kd.R (Kd.int .i64) 2 w' w.heap.size (fun k_ => some k_ ≠ ((.slice (some ad545) t539.length co9) : Value).ownBlock ∧ some k_ ≠ (v543 : Value).ownBlock) u5 x5_1) ∧ Aside0 (Below w.heap.size w w'))
     case atStart => exact ⟨(rd t539 x6_1),(0),(by first|rfl|(simp;done)|(simp [*];done)),(by first|rfl|(simp;done)|(simp [*];done)),H',⟨Nat.le_refl _⟩,⟨by (with_reducible repeat (first|apply ra_|apply rb_|apply rc_));exact HO_0.out⟩,⟨by (with_reducible repeat (first|apply ra_|apply rb_|apply rc_));exact HO_1.out⟩,⟨by (with_reducible repeat (first|apply ra_|apply rb_|apply rc_));exact HO_5.out⟩,⟨by repeat (first|(with_reducible first|exact HB.out|apply ba_|apply bb_|apply bc_)|exact HB.out)⟩⟩
     case round =>
      clear H'
      try clear c1
      try clear c2
      try clear p2
      try clear p5
      try clear q5
      try clear hx5
      try clear c7
      try clear c7b0
      try clear c8
      try clear c8b0
      try clear hx545_0
      try clear p2
      try clear p545
      try clear q545
      obtain ⟨x7_2,x8_2,rfl,rfl,HA,HK2,HO_0,HO_1,HO_5,HB⟩:=hrel
      (try simp only [i64_w,i32_w])
      cases gk with
      | zero => exact absurd HA.out (by simp [madrigalref6_Rest.l1])
      | succ k2 =>
       have H:=HA.out
       clear HA
       simp only [madrigalref6_Rest.l1] at H
       by_cases c10 : x8_2 < (t542.length : Int)
       ·rw [if_pos c10] at H
        have c10b0:=decide_eq_true c10
        clear c10
        by_cases c11 : x8_2 < x6_1
        ·rw [if_pos c11] at H
         have c11b0:=decide_eq_true c11
         clear c11
         by_cases c12 : 0 ≤ x8_2
         ·rw [if_pos c12] at H
          have c12b0:=decide_eq_true c12
          clear c12
          obtain ⟨ji13,hji13⟩ : ∃ j_ : Int,(wrap64 ((wrap64 (x6_1 - 1)) - x8_2)) = j_:=⟨_,rfl⟩
          replace H : (if 0 ≤ (ji13) then (if (ji13) < (t539.length : Int) then ((madrigalref1_Mul.f k2 (rd t542 x8_2) (rd t539 (ji13)) 12).bind fun t548 => (madrigalref6_Rest.l1 k2 t539 t542 x5_1 x6_1 (wrap64 (x7_2 - t548)) (wrap64 (x8_2 + 1)))) else (none)) else (none)) = some r:=by first|(rw [hji13] at H;exact H)|(simp only [hji13] at H ⊢;exact H)
          have hji13w : (IntKind.i64.wrap ((wrap64 (x6_1 - 1)) - x8_2)) = ji13:=(i64_w _).trans hji13
          by_cases c14 : 0 ≤ (ji13)
          ·rw [if_pos c14] at H
           have c14b0:=decide_eq_true c14
           clear c14
           by_cases c15 : (ji13) < (t539.length : Int)
           ·rw [if_pos c15] at H
            have c15b0:=decide_eq_true c15
            clear c15
            replace H:=Option.bind_eq_some_iff.mp H
            obtain ⟨t548,A160,H⟩:=H
            (try dsimp only at H)
            have A16:=ak_ A160
            clear A160
            have H':=ak_ H
            clear H
            obtain ⟨Ao17,co17,eo17⟩:=Kd.R_slice HO_1.out
            subst eo17
            have p546 : 0 ≤ (x8_2 : Int):=of_decide_eq_true (by first|(with_reducible assumption)|assumption)
            have q546 : x8_2 < (t542.length : Int):=of_decide_eq_true (by first|(with_reducible assumption)|assumption)
            obtain ⟨ad546,e546,hx546_0⟩:=Kd.at_int (Kd.R_reads' HO_1.out).2.2 x8_2 p546 q546
            cases e546
            replace p546:=eq_true p546
            replace q546:=eq_true q546
            have p547 : 0 ≤ ((ji13) : Int):=of_decide_eq_true (by first|(with_reducible assumption)|assumption)
            have q547 : (ji13) < (t539.length : Int):=of_decide_eq_true (by first|(with_reducible assumption)|assumption)
            obtain ⟨ad547,e547,hx547_0⟩:=Kd.at_int (Kd.R_reads' HO_0.out).2.2 (ji13) p547 q547
            obtain rfl : ad545 = ad547:=(by injection e547)
            replace p547:=eq_true p547
            replace q547:=eq_true q547
            go_wp2_with (first|(go_at_call 34;(with_reducible refine (madrigalref1_Mul.calls k2 (rd t542 x8_2) (rd t539 (ji13)) 12 t548 _ A16.out).mono ?_);rintro e w' ⟨rfl,⟨nd,rfl⟩⟩;(try first|exact ⟨rfl,_,World.drewN_drewN _ _ _⟩|exact ⟨rfl,_,Eq.trans (World.drewN_drewN _ _ _) (congrArg (World.drewN _) (Nat.add_assoc _ _ _))⟩)))
            repeat (go_quiet (first|(go_at_call 34;(with_reducible refine (madrigalref1_Mul.calls k2 (rd t542 x8_2) (rd t539 (ji13)) 12 t548 _ A16.out).mono ?_);rintro e w' ⟨rfl,⟨nd,rfl⟩⟩;(try first|exact ⟨rfl,_,World.drewN_drewN _ _ _⟩|exact ⟨rfl,_,Eq.trans (World.drewN_drewN _ _ _) (congrArg (World.drewN _) (Nat.add_assoc _ _ _))⟩)));try go_wp2_with (first|(go_at_call 34;(with_reducible refine (madrigalref1_Mul.calls k2 (rd t542 x8_2) (rd t539 (ji13)) 12 t548 _ A16.out).mono ?_);rintro e w' ⟨rfl,⟨nd,rfl⟩⟩;(try first|exact ⟨rfl,_,World.drewN_drewN _ _ _⟩|exact ⟨rfl,_,Eq.trans (World.drewN_drewN _ _ _) (congrArg (World.drewN _) (Nat.add_assoc _ _ _))⟩))))
            go_roundg k2
            case measure => have:=HK1.out;have:=HK2.out;omega
            case rel => exact ⟨(wrap64 (x7_2 - t548)),(wrap64 (x8_2 + 1)),(by first|rfl|(simp;done)|(simp [*];done)),(by first|rfl|(simp;done)|(simp [*];done)),H',⟨by have:=HK1.out;have:=HK2.out;omega⟩,⟨by (with_reducible repeat (first|apply ra_|apply rb_|apply rc_));exact HO_0.out⟩,⟨by (with_reducible repeat (first|apply ra_|apply rb_|apply rc_));exact HO_1.out⟩,⟨by (with_reducible repeat (first|apply ra_|apply rb_|apply rc_));exact HO_5.out⟩,⟨by repeat (first|(with_reducible first|exact HB.out|apply ba_|apply bb_|apply bc_)|exact HB.out)⟩⟩
           ·rw [if_neg c15] at H
            exact absurd H (by simp)
          ·rw [if_neg c14] at H
           exact absurd H (by simp)
         ·rw [if_neg c12] at H
          exact absurd H (by simp)
        ·rw [if_neg c11] at H
         have c11b0:=decide_eq_false c11
         clear c11
         by_cases c18 : x5_1.length < 17592186044416
         ·rw [if_pos c18] at H
          have LMc18:=ak_ c18
          clear c18
          obtain ⟨y549,hy549⟩ : ∃ y_ : List Int,y_ = (x5_1 ++ [x7_2]):=⟨_,rfl⟩
          replace H : (madrigalref6_Rest.l0 k2 t539 t542 y549 (wrap64 (x6_1 + 1))) = some r:=by first|(rw [hy549];with_reducible exact H)|(have H2_:=(Option.bind_some _ _).symm.trans H;rw [hy549];with_reducible exact H2_)|(have H2_:=(Option.bind_some _ _).symm.trans H;with_reducible exact H2_)|with_reducible exact H|(rw [hy549];exact H)|exact H
          have Ny549:=ak_ hy549
          clear hy549
          have H':=ak_ H
          clear H
          obtain ⟨Ao19,co19,eo19⟩:=Kd.R_slice HO_1.out
          subst eo19
          go_wp2_with (first|((with_reducible refine gate_builtin (b:=.append) (xs:=#[.tmp 48,.tmp 50]) rfl ?_);at_builtin;refine Kd.R_append (Kd.int .i64) (w0:=w) w.heap.size rfl (.tmp 48) (.tmp 50) 23 2 (.int .i64 0) 8 rfl Try.underlying23 info2 rfl (by decide) (by omega) u5 x5_1 x7_2 [.int .i64 x7_2] (fun k_ => some k_ ≠ (.slice (some ad545) t539.length co9 : Value).ownBlock ∧ some k_ ≠ (.slice Ao19 t542.length co19 : Value).ownBlock) (fun _ => False) rfl rfl ?aP (fun _ hk => hk.elim) ?aF ?aO ?aB ?aS ?aL ?_;(case aP => exact rfl);(case aB => exact (by repeat (first|(with_reducible first|exact HB.out|apply ba_|apply bb_|apply bc_)|exact HB.out)));(case aF => exact (fun k_ hk => ⟨Kd.fresh' (Kd.R_lt (by (with_reducible repeat (first|apply ra_|apply rb_|apply rc_));exact HO_0.out)) k_ hk,Kd.fresh' (Kd.R_lt (by (with_reducible repeat (first|apply ra_|apply rb_|apply rc_));exact HO_1.out)) k_ hk⟩));(case aO => exact (by (with_reducible repeat (first|apply ra_|apply rb_|apply rc_));exact HO_5.out));(case aS => exact (below_size (by repeat (first|(with_reducible first|exact HB.out|apply ba_|apply bb_|apply bc_)|exact HB.out))));(case aL => have:=LMc18.out;omega);intro v550 w20 ho hb hg hat;rw [← Ny549.out] at ho;have n0_:=ak_ (Kd.R_after (ok:=(fun k_ => some k_ ≠ (.slice Ao19 t542.length co19 : Value).ownBlock)) (by (with_reducible repeat (first|apply ra_|apply rb_|apply rc_));exact HO_0.out) hg hat);have n1_:=ak_ (Kd.R_after (ok:=(fun k_ => some k_ ≠ (.slice (some ad545) t539.length co9 : Value).ownBlock)) (by (with_reducible repeat (first|apply ra_|apply rb_|apply rc_));exact HO_1.out) hg hat);have n2_:=ak_ (hb);have n3_:=ak_ (ho);clear HO_0;clear HO_1;clear HB;clear HO_5;have HO_0:=n0_;have HO_1:=n1_;have HB:=n2_;have HO551:=n3_;clear n0_ n1_ n2_ n3_;clear ho hb hg hat))
          repeat (go_quiet (first|((with_reducible refine gate_builtin (b:=.append) (xs:=#[.tmp 48,.tmp 50]) rfl ?_);at_builtin;refine Kd.R_append (Kd.int .i64) (w0:=w) w.heap.size rfl (.tmp 48) (.tmp 50) 23 2 (.int .i64 0) 8 rfl Try.underlying23 info2 rfl (by decide) (by omega) u5 x5_1 x7_2 [.int .i64 x7_2] (fun k_ => some k_ ≠ (.slice (some ad545) t539.length co9 : Value).ownBlock ∧ some k_ ≠ (.slice Ao19 t542.length co19 : Value).ownBlock) (fun _ => False) rfl rfl ?aP (fun _ hk => hk.elim) ?aF ?aO ?aB ?aS ?aL ?_;(case aP => exact rfl);(case aB => exact (by repeat (first|(with_reducible first|exact HB.out|apply ba_|apply bb_|apply bc_)|exact HB.out)));(case aF => exact (fun k_ hk => ⟨Kd.fresh' (Kd.R_lt (by (with_reducible repeat (first|apply ra_|apply rb_|apply rc_));exact HO_0.out)) k_ hk,Kd.fresh' (Kd.R_lt (by (with_reducible repeat (first|apply ra_|apply rb_|apply rc_));exact HO_1.out)) k_ hk⟩));(case aO => exact (by (with_reducible repeat (first|apply ra_|apply rb_|apply rc_));exact HO_5.out));(case aS => exact (below_size (by repeat (first|(with_reducible first|exact HB.out|apply ba_|apply bb_|apply bc_)|exact HB.out))));(case aL => have:=LMc18.out;omega);intro v550 w20 ho hb hg hat;rw [← Ny549.out] at ho;have n0_:=ak_ (Kd.R_after (ok:=(fun k_ => some k_ ≠ (.slice Ao19 t542.length co19 : Value).ownBlock)) (by (with_reducible repeat (first|apply ra_|apply rb_|apply rc_));exact HO_0.out) hg hat);have n1_:=ak_ (Kd.R_after (ok:=(fun k_ => some k_ ≠ (.slice (some ad545) t539.length co9 : Value).ownBlock)) (by (with_reducible repeat (first|apply ra_|apply rb_|apply rc_));exact HO_1.out) hg hat);have n2_:=ak_ (hb);have n3_:=ak_ (ho);clear HO_0;clear HO_1;clear HB;clear HO_5;have HO_0:=n0_;have HO_1:=n1_;have HB:=n2_;have HO551:=n3_;clear n0_ n1_ n2_ n3_;clear ho hb hg hat));try go_wp2_with (first|((with_reducible refine gate_builtin (b:=.append) (xs:=#[.tmp 48,.tmp 50]) rfl ?_);at_builtin;refine Kd.R_append (Kd.int .i64) (w0:=w) w.heap.size rfl (.tmp 48) (.tmp 50) 23 2 (.int .i64 0) 8 rfl Try.underlying23 info2 rfl (by decide) (by omega) u5 x5_1 x7_2 [.int .i64 x7_2] (fun k_ => some k_ ≠ (.slice (some ad545) t539.length co9 : Value).ownBlock ∧ some k_ ≠ (.slice Ao19 t542.length co19 : Value).ownBlock) (fun _ => False) rfl rfl ?aP (fun _ hk => hk.elim) ?aF ?aO ?aB ?aS ?aL ?_;(case aP => exact rfl);(case aB => exact (by repeat (first|(with_reducible first|exact HB.out|apply ba_|apply bb_|apply bc_)|exact HB.out)));(case aF => exact (fun k_ hk => ⟨Kd.fresh' (Kd.R_lt (by (with_reducible repeat (first|apply ra_|apply rb_|apply rc_));exact HO_0.out)) k_ hk,Kd.fresh' (Kd.R_lt (by (with_reducible repeat (first|apply ra_|apply rb_|apply rc_));exact HO_1.out)) k_ hk⟩));(case aO => exact (by (with_reducible repeat (first|apply ra_|apply rb_|apply rc_));exact HO_5.out));(case aS => exact (below_size (by repeat (first|(with_reducible first|exact HB.out|apply ba_|apply bb_|apply bc_)|exact HB.out))));(case aL => have:=LMc18.out;omega);intro v550 w20 ho hb hg hat;rw [← Ny549.out] at ho;have n0_:=ak_ (Kd.R_after (ok:=(fun k_ => some k_ ≠ (.slice Ao19 t542.length co19 : Value).ownBlock)) (by (with_reducible repeat (first|apply ra_|apply rb_|apply rc_));exact HO_0.out) hg hat);have n1_:=ak_ (Kd.R_after (ok:=(fun k_ => some k_ ≠ (.slice (some ad545) t539.length co9 : Value).ownBlock)) (by (with_reducible repeat (first|apply ra_|apply rb_|apply rc_));exact HO_1.out) hg hat);have n2_:=ak_ (hb);have n3_:=ak_ (ho);clear HO_0;clear HO_1;clear HB;clear HO_5;have HO_0:=n0_;have HO_1:=n1_;have HB:=n2_;have HO551:=n3_;clear n0_ n1_ n2_ n3_;clear ho hb hg hat)))
          go_roundg k2
          case measure => have:=HK1.out;have:=HK2.out;omega
          case rel => exact ⟨(y549),(wrap64 (x6_1 + 1)),(by first|rfl|(simp;done)|(simp [*];done)),H',⟨by have:=HK1.out;have:=HK2.out;omega⟩,⟨by (with_reducible repeat (first|apply ra_|apply rb_|apply rc_));exact HO_0.out⟩,⟨by (with_reducible repeat (first|apply ra_|apply rb_|apply rc_));exact HO_1.out⟩,⟨by (with_reducible repeat (first|apply ra_|apply rb_|apply rc_));exact HO551.out⟩,⟨by repeat (first|(with_reducible first|exact HB.out|apply ba_|apply bb_|apply bc_)|exact HB.out)⟩⟩
         ·rw [if_neg c18] at H
          exact absurd H (by simp)
       ·rw [if_neg c10] at H
        have c10b0:=decide_eq_false c10
        clear c10
        by_cases c21 : x5_1.length < 17592186044416
        ·rw [if_pos c21] at H
         have LMc21:=ak_ c21
         clear c21
         obtain ⟨y552,hy552⟩ : ∃ y_ : List Int,y_ = (x5_1 ++ [x7_2]):=⟨_,rfl⟩
         replace H : (madrigalref6_Rest.l0 k2 t539 t542 y552 (wrap64 (x6_1 + 1))) = some r:=by first|(rw [hy552];with_reducible exact H)|(have H2_:=(Option.bind_some _ _).symm.trans H;rw [hy552];with_reducible exact H2_)|(have H2_:=(Option.bind_some _ _).symm.trans H;with_reducible exact H2_)|with_reducible exact H|(rw [hy552];exact H)|exact H
         have Ny552:=ak_ hy552
         clear hy552
         have H':=ak_ H
         clear H
         obtain ⟨Ao22,co22,eo22⟩:=Kd.R_slice HO_1.out
         subst eo22
         go_wp2_with (first|((with_reducible refine gate_builtin (b:=.append) (xs:=#[.tmp 48,.tmp 50]) rfl ?_);at_builtin;refine Kd.R_append (Kd.int .i64) (w0:=w) w.heap.size rfl (.tmp 48) (.tmp 50) 23 2 (.int .i64 0) 8 rfl Try.underlying23 info2 rfl (by decide) (by omega) u5 x5_1 x7_2 [.int .i64 x7_2] (fun k_ => some k_ ≠ (.slice (some ad545) t539.length co9 : Value).ownBlock ∧ some k_ ≠ (.slice Ao22 t542.length co22 : Value).ownBlock) (fun _ => False) rfl rfl ?aP (fun _ hk => hk.elim) ?aF ?aO ?aB ?aS ?aL ?_;(case aP => exact rfl);(case aB => exact (by repeat (first|(with_reducible first|exact HB.out|apply ba_|apply bb_|apply bc_)|exact HB.out)));(case aF => exact (fun k_ hk => ⟨Kd.fresh' (Kd.R_lt (by (with_reducible repeat (first|apply ra_|apply rb_|apply rc_));exact HO_0.out)) k_ hk,Kd.fresh' (Kd.R_lt (by (with_reducible repeat (first|apply ra_|apply rb_|apply rc_));exact HO_1.out)) k_ hk⟩));(case aO => exact (by (with_reducible repeat (first|apply ra_|apply rb_|apply rc_));exact HO_5.out));(case aS => exact (below_size (by repeat (first|(with_reducible first|exact HB.out|apply ba_|apply bb_|apply bc_)|exact HB.out))));(case aL => have:=LMc21.out;omega);intro v553 w23 ho hb hg hat;rw [← Ny552.out] at ho;have n0_:=ak_ (Kd.R_after (ok:=(fun k_ => some k_ ≠ (.slice Ao22 t542.length co22 : Value).ownBlock)) (by (with_reducible repeat (first|apply ra_|apply rb_|apply rc_));exact HO_0.out) hg hat);have n1_:=ak_ (Kd.R_after (ok:=(fun k_ => some k_ ≠ (.slice (some ad545) t539.length co9 : Value).ownBlock)) (by (with_reducible repeat (first|apply ra_|apply rb_|apply rc_));exact HO_1.out) hg hat);have n2_:=ak_ (hb);have n3_:=ak_ (ho);clear HO_0;clear HO_1;clear HB;clear HO_5;have HO_0:=n0_;have HO_1:=n1_;have HB:=n2_;have HO554:=n3_;clear n0_ n1_ n2_ n3_;clear ho hb hg hat))
         repeat (go_quiet (first|((with_reducible refine gate_builtin (b:=.append) (xs:=#[.tmp 48,.tmp 50]) rfl ?_);at_builtin;refine Kd.R_append (Kd.int .i64) (w0:=w) w.heap.size rfl (.tmp 48) (.tmp 50) 23 2 (.int .i64 0) 8 rfl Try.underlying23 info2 rfl (by decide) (by omega) u5 x5_1 x7_2 [.int .i64 x7_2] (fun k_ => some k_ ≠ (.slice (some ad545) t539.length co9 : Value).ownBlock ∧ some k_ ≠ (.slice Ao22 t542.length co22 : Value).ownBlock) (fun _ => False) rfl rfl ?aP (fun _ hk => hk.elim) ?aF ?aO ?aB ?aS ?aL ?_;(case aP => exact rfl);(case aB => exact (by repeat (first|(with_reducible first|exact HB.out|apply ba_|apply bb_|apply bc_)|exact HB.out)));(case aF => exact (fun k_ hk => ⟨Kd.fresh' (Kd.R_lt (by (with_reducible repeat (first|apply ra_|apply rb_|apply rc_));exact HO_0.out)) k_ hk,Kd.fresh' (Kd.R_lt (by (with_reducible repeat (first|apply ra_|apply rb_|apply rc_));exact HO_1.out)) k_ hk⟩));(case aO => exact (by (with_reducible repeat (first|apply ra_|apply rb_|apply rc_));exact HO_5.out));(case aS => exact (below_size (by repeat (first|(with_reducible first|exact HB.out|apply ba_|apply bb_|apply bc_)|exact HB.out))));(case aL => have:=LMc21.out;omega);intro v553 w23 ho hb hg hat;rw [← Ny552.out] at ho;have n0_:=ak_ (Kd.R_after (ok:=(fun k_ => some k_ ≠ (.slice Ao22 t542.length co22 : Value).ownBlock)) (by (with_reducible repeat (first|apply ra_|apply rb_|apply rc_));exact HO_0.out) hg hat);have n1_:=ak_ (Kd.R_after (ok:=(fun k_ => some k_ ≠ (.slice (some ad545) t539.length co9 : Value).ownBlock)) (by (with_reducible repeat (first|apply ra_|apply rb_|apply rc_));exact HO_1.out) hg hat);have n2_:=ak_ (hb);have n3_:=ak_ (ho);clear HO_0;clear HO_1;clear HB;clear HO_5;have HO_0:=n0_;have HO_1:=n1_;have HB:=n2_;have HO554:=n3_;clear n0_ n1_ n2_ n3_;clear ho hb hg hat));try go_wp2_with (first|((with_reducible refine gate_builtin (b:=.append) (xs:=#[.tmp 48,.tmp 50]) rfl ?_);at_builtin;refine Kd.R_append (Kd.int .i64) (w0:=w) w.heap.size rfl (.tmp 48) (.tmp 50) 23 2 (.int .i64 0) 8 rfl Try.underlying23 info2 rfl (by decide) (by omega) u5 x5_1 x7_2 [.int .i64 x7_2] (fun k_ => some k_ ≠ (.slice (some ad545) t539.length co9 : Value).ownBlock ∧ some k_ ≠ (.slice Ao22 t542.length co22 : Value).ownBlock) (fun _ => False) rfl rfl ?aP (fun _ hk => hk.elim) ?aF ?aO ?aB ?aS ?aL ?_;(case aP => exact rfl);(case aB => exact (by repeat (first|(with_reducible first|exact HB.out|apply ba_|apply bb_|apply bc_)|exact HB.out)));(case aF => exact (fun k_ hk => ⟨Kd.fresh' (Kd.R_lt (by (with_reducible repeat (first|apply ra_|apply rb_|apply rc_));exact HO_0.out)) k_ hk,Kd.fresh' (Kd.R_lt (by (with_reducible repeat (first|apply ra_|apply rb_|apply rc_));exact HO_1.out)) k_ hk⟩));(case aO => exact (by (with_reducible repeat (first|apply ra_|apply rb_|apply rc_));exact HO_5.out));(case aS => exact (below_size (by repeat (first|(with_reducible first|exact HB.out|apply ba_|apply bb_|apply bc_)|exact HB.out))));(case aL => have:=LMc21.out;omega);intro v553 w23 ho hb hg hat;rw [← Ny552.out] at ho;have n0_:=ak_ (Kd.R_after (ok:=(fun k_ => some k_ ≠ (.slice Ao22 t542.length co22 : Value).ownBlock)) (by (with_reducible repeat (first|apply ra_|apply rb_|apply rc_));exact HO_0.out) hg hat);have n1_:=ak_ (Kd.R_after (ok:=(fun k_ => some k_ ≠ (.slice (some ad545) t539.length co9 : Value).ownBlock)) (by (with_reducible repeat (first|apply ra_|apply rb_|apply rc_));exact HO_1.out) hg hat);have n2_:=ak_ (hb);have n3_:=ak_ (ho);clear HO_0;clear HO_1;clear HB;clear HO_5;have HO_0:=n0_;have HO_1:=n1_;have HB:=n2_;have HO554:=n3_;clear n0_ n1_ n2_ n3_;clear ho hb hg hat)))
         go_roundg k2
         case measure => have:=HK1.out;have:=HK2.out;omega
         case rel => exact ⟨(y552),(wrap64 (x6_1 + 1)),(by first|rfl|(simp;done)|(simp [*];done)),H',⟨by have:=HK1.out;have:=HK2.out;omega⟩,⟨by (with_reducible repeat (first|apply ra_|apply rb_|apply rc_));exact HO_0.out⟩,⟨by (with_reducible repeat (first|apply ra_|apply rb_|apply rc_));exact HO_1.out⟩,⟨by (with_reducible repeat (first|apply ra_|apply rb_|apply rc_));exact HO554.out⟩,⟨by repeat (first|(with_reducible first|exact HB.out|apply ba_|apply bb_|apply bc_)|exact HB.out)⟩⟩
        ·rw [if_neg c21] at H
         exact absurd H (by simp)
    ·rw [if_neg c8] at H
     exact absurd H (by simp)
   ·rw [if_neg c7] at H
    have c7b0:=decide_eq_false c7
    clear c7
    obtain rfl:=Option.some.inj H
    obtain ⟨Ao24,co24,eo24⟩:=Kd.R_slice HO_0.out
    subst eo24
    go_wp2
    repeat (go_quiet (fail);try go_wp2)
    go_ret
    exact ⟨_,by first|rfl|(simp [errW_none,errW_some] <;> rfl)|(simp [*,errW_none,errW_some] <;> rfl),by (with_reducible repeat (first|apply ra_|apply rb_|apply rc_));exact Kd.R_mono HO_5.out (fun _ hk => trivial),by repeat (first|(with_reducible first|exact HB.out|apply ba_|apply bb_|apply bc_)|exact HB.out)⟩

end Go.Proofs.Ytllglpcpjeggcaa.P
