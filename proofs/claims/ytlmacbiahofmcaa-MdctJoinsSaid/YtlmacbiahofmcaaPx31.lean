/- The machine side of the laws of one chapter, without conditions: each call of a Go function comes to what the Lean function of its name answers. Written for this claim by a program of the prover. -/
import Derived.Test.YtlmacbiahofmcaaPx0
import Derived.Test.YtlmacbiahofmcaaPx24
import Derived.Test.YtlmacbiahofmcaaPx29
import Derived.Test.YtlmacbiahofmcaaPx30
namespace Go.Proofs.Ytlmacbiahofmcaa.P
open Go.RowKit Go.Proofs.YtlmacbiahofmcaaW.PrintWords Go.Proofs.YtlmacbiahofmcaaW.PrintLast Go.Proofs.YtlmacbiahofmcaaW.PrintMore
attribute [local go_sem] max2_int min2_int max_two min_two max_three min_three max_four min_four   -- for this text's walks alone
set_option linter.unusedVariables false
set_option linter.unusedSimpArgs false

/-! ### madrigalref10_Forward: function 19 -/
mutual
def madrigalref10_Forward.l0 : Nat → List Int → Int → List Int → List Int → List Int → Int → Option (List Int)
 | 0,_,_,_,_,_,_ => none
 | k + 1,x0,x5,x6,x7,x8,x9 => if x9 < (wrap64 (2 * x5)) then (if 0 ≤ x9 then (if x9 < (x6.length : Int) then (if x9 < (x0.length : Int) then ((madrigalref10_keep.f k (rd x0 x9)).bind fun t373 => ((madrigalref1_Mul.f k (rd x6 x9) t373 15).bind fun t374 => (if x9 < (x8.length : Int) then (madrigalref10_Forward.l0 k x0 x5 x6 x7 (x8.set (x9 : Int).toNat t374) (wrap64 (x9 + 1))) else (none)))) else (none)) else (none)) else (none)) else (madrigalref10_Forward.l1 k x5 x7 x8 ([] : List Int) 0)
def madrigalref10_Forward.l1 : Nat → Int → List Int → List Int → List Int → Int → Option (List Int)
 | 0,_,_,_,_,_ => none
 | k + 1,x5,x7,x8,x10,x11 => if x11 < x5 then (if (wrap64 (8 * x5)) = 0 then (none) else (madrigalref10_Forward.l2 k x5 x7 x8 x10 x11 16384 (Int.tmod (wrap64 ((wrap64 (1 + x5)) * (wrap64 ((wrap64 (2 * x11)) + 1)))) (wrap64 (8 * x5))) 0)) else (some x10)
def madrigalref10_Forward.l2 : Nat → Int → List Int → List Int → List Int → Int → Int → Int → Int → Option (List Int)
 | 0,_,_,_,_,_,_,_,_ => none
 | k + 1,x5,x7,x8,x10,x11,x12,x13,x14 => if x14 < (wrap64 (2 * x5)) then (if 0 ≤ x14 then (if x14 < (x8.length : Int) then (if 0 ≤ x13 then (if x13 < (x7.length : Int) then (if (wrap64 (x13 + (wrap64 (2 * (wrap64 ((wrap64 (2 * x11)) + 1)))))) ≥ (wrap64 (8 * x5)) then (madrigalref10_Forward.l2 k x5 x7 x8 x10 x11 (wrap64 (x12 + (wrap64 ((rd x8 x14) * (rd x7 x13))))) (wrap64 ((wrap64 (x13 + (wrap64 (2 * (wrap64 ((wrap64 (2 * x11)) + 1)))))) - (wrap64 (8 * x5)))) (wrap64 (x14 + 1))) else (madrigalref10_Forward.l2 k x5 x7 x8 x10 x11 (wrap64 (x12 + (wrap64 ((rd x8 x14) * (rd x7 x13))))) (wrap64 (x13 + (wrap64 (2 * (wrap64 ((wrap64 (2 * x11)) + 1)))))) (wrap64 (x14 + 1)))) else (none)) else (none)) else (none)) else (none)) else (if x10.length < 17592186044416 then (madrigalref10_Forward.l1 k x5 x7 x8 (x10 ++ [x12 / 32768]) (wrap64 (x11 + 1))) else (none))
end
def madrigalref10_Forward.f (k : Nat) (l0 : List Int) (a1 : Int) : Option (List Int):=(madrigalref10_Shape.f k (wrap64 ((l0.length : Int) / 2)) a1).bind fun t362 => ((madrigalref10_table.f k (wrap64 ((l0.length : Int) / 2))).bind fun t365 => (if 0 ≤ (wrap64 (2 * (wrap64 ((l0.length : Int) / 2)))) then (if (wrap64 (2 * (wrap64 ((l0.length : Int) / 2))) : Int).toNat ≤ 35184372088832 then (madrigalref10_Forward.l0 k l0 (wrap64 ((l0.length : Int) / 2)) t362 t365 (List.replicate (wrap64 (2 * (wrap64 ((l0.length : Int) / 2))) : Int).toNat 0) 0) else (none)) else (none)))
theorem madrigalref10_Forward.mono_l : ∀ k,(∀ y0 y1 y2 y3 y4 y5,LeO (madrigalref10_Forward.l0 k y0 y1 y2 y3 y4 y5) (madrigalref10_Forward.l0 (k + 1) y0 y1 y2 y3 y4 y5)) ∧ (∀ y0 y1 y2 y3 y4,LeO (madrigalref10_Forward.l1 k y0 y1 y2 y3 y4) (madrigalref10_Forward.l1 (k + 1) y0 y1 y2 y3 y4)) ∧ (∀ y0 y1 y2 y3 y4 y5 y6 y7,LeO (madrigalref10_Forward.l2 k y0 y1 y2 y3 y4 y5 y6 y7) (madrigalref10_Forward.l2 (k + 1) y0 y1 y2 y3 y4 y5 y6 y7))
 | 0 => ⟨fun _ _ _ _ _ _ r h => by simp [madrigalref10_Forward.l0] at h,fun _ _ _ _ _ r h => by simp [madrigalref10_Forward.l1] at h,fun _ _ _ _ _ _ _ _ r h => by simp [madrigalref10_Forward.l2] at h⟩
 | k + 1 => by
  obtain ⟨ih0,ih1,ih2⟩:=madrigalref10_Forward.mono_l k
  refine ⟨?_,?_,?_⟩
  all_goals (intros;first|unfold madrigalref10_Forward.l0|unfold madrigalref10_Forward.l1|unfold madrigalref10_Forward.l2)
  all_goals (repeat' first|(with_reducible first|exact ih0 _ _ _ _ _ _|exact ih1 _ _ _ _ _|exact ih2 _ _ _ _ _ _ _ _|exact madrigalref10_Shape.mono _ _ _|exact madrigalref10_keep.mono _ _|exact madrigalref10_table.mono _ _|exact madrigalref1_Mul.mono _ _ _ _|exact LeO.refl _|exact LeO.none _|refine LeO.ite ?_ ?_|refine LeO.bind ?_ (fun _ => ?_))|exact ih0 _ _ _ _ _ _|exact ih1 _ _ _ _ _|exact ih2 _ _ _ _ _ _ _ _|exact madrigalref10_Shape.mono _ _ _|exact madrigalref10_keep.mono _ _|exact madrigalref10_table.mono _ _|exact madrigalref1_Mul.mono _ _ _ _|exact LeO.none _|refine LeO.ite ?_ ?_|refine LeO.bind ?_ (fun _ => ?_))
theorem madrigalref10_Forward.mono : ∀ a0 a1 k,LeO (madrigalref10_Forward.f k a0 a1) (madrigalref10_Forward.f (k + 1) a0 a1):=by
 intro a0 a1 k
 obtain ⟨ih0,ih1,ih2⟩:=madrigalref10_Forward.mono_l k
 unfold madrigalref10_Forward.f
 repeat' first|(with_reducible first|exact ih0 _ _ _ _ _ _|exact ih1 _ _ _ _ _|exact ih2 _ _ _ _ _ _ _ _|exact madrigalref10_Shape.mono _ _ _|exact madrigalref10_keep.mono _ _|exact madrigalref10_table.mono _ _|exact madrigalref1_Mul.mono _ _ _ _|exact LeO.refl _|exact LeO.none _|refine LeO.ite ?_ ?_|refine LeO.bind ?_ (fun _ => ?_))|exact ih0 _ _ _ _ _ _|exact ih1 _ _ _ _ _|exact ih2 _ _ _ _ _ _ _ _|exact madrigalref10_Shape.mono _ _ _|exact madrigalref10_keep.mono _ _|exact madrigalref10_table.mono _ _|exact madrigalref1_Mul.mono _ _ _ _|exact LeO.none _|refine LeO.ite ?_ ?_|refine LeO.bind ?_ (fun _ => ?_)
def madrigalref10_Forward.T8 : Bool × List (List Nat × List Nat):=(true,[([],[]),([],[]),([],[]),([],[]),([2,3],[2,3]),([4],[4]),([],[]),([],[]),([6,7],[6,7]),([8],[8]),([9],[9]),([5,10,10],[5,10]),([0,1,0,1,2,3,4,5,6,7,8,9,10,11],[0,1]),([12,11,11,0,1,2,3,4,5,6,7,8,9,10,11],[11,12])])
def madrigalref10_Forward.B8 : List Nat:=[0,0,0,0,12,28,0,0,192,448,960,2044,4095,8191]
theorem madrigalref10_Forward.tab8 : rtab .any (opsOf Try.f19 8) = madrigalref10_Forward.T8:=by kernel_rfl
theorem madrigalref10_Forward.bits8 : waitsOk madrigalref10_Forward.T8.2 madrigalref10_Forward.B8 = true:=by kernel_rfl
def madrigalref10_Forward.T18 : Bool × List (List Nat × List Nat):=(true,[([],[]),([],[]),([],[]),([1,2],[1,2]),([3],[3]),([],[]),([],[]),([5,6],[5,6]),([7],[7]),([4,8],[4,8]),([0,9],[0,9]),([10,0,1,2,3,4,5,6,7,8,9,10],[0,10])])
def madrigalref10_Forward.B18 : List Nat:=[0,0,0,6,14,0,0,96,224,510,1023,2047]
theorem madrigalref10_Forward.tab18 : rtab .any (opsOf Try.f19 18) = madrigalref10_Forward.T18:=by kernel_rfl
theorem madrigalref10_Forward.bits18 : waitsOk madrigalref10_Forward.T18.2 madrigalref10_Forward.B18 = true:=by kernel_rfl
set_option maxHeartbeats 8000000 in
set_option maxRecDepth 100000 in
theorem madrigalref10_Forward.calls (k : Nat) (A0 : Option Addr) (c0 : Nat) (l0 : List Int) (a1 : Int) (r : List Int) (w : World) (hr0 : Kd.C (Kd.int .i64) w A0 l0.length l0) (hc0 : l0.length ≤ c0) (h : madrigalref10_Forward.f k l0 a1 = some r) :
  Calls Try.prog 19 #[.slice A0 l0.length c0,.int .i64 a1] w fun e w' => ∃ v0_ : Value,e = .returned (v0_) ∧ Kd.R (Kd.int .i64) 2 w' w.heap.size (fun _ => True) v0_ r ∧ Below w.heap.size w w':=by
 have HR0:=ak_ hr0
 have HC0:=ak_ hc0
 clear hr0 hc0
 have HB:=ak_ (Below.refl w.heap.size w)
 have H : ((madrigalref10_Shape.f k (wrap64 ((l0.length : Int) / 2)) a1).bind fun t362 => ((madrigalref10_table.f k (wrap64 ((l0.length : Int) / 2))).bind fun t365 => (if 0 ≤ (wrap64 (2 * (wrap64 ((l0.length : Int) / 2)))) then (if (wrap64 (2 * (wrap64 ((l0.length : Int) / 2))) : Int).toNat ≤ 35184372088832 then (madrigalref10_Forward.l0 k l0 (wrap64 ((l0.length : Int) / 2)) t362 t365 (List.replicate (wrap64 (2 * (wrap64 ((l0.length : Int) / 2))) : Int).toNat 0) 0) else (none)) else (none)))) = some r:=h
 clear h
 replace H:=Option.bind_eq_some_iff.mp H
 obtain ⟨t362,A30,H⟩:=H
 (try dsimp only at H)
 have A3:=ak_ A30
 clear A30
 replace H:=Option.bind_eq_some_iff.mp H
 obtain ⟨t365,A40,H⟩:=H
 (try dsimp only at H)
 have A4:=ak_ A40
 clear A40
 obtain ⟨ji5,hji5⟩ : ∃ j_ : Int,(wrap64 (2 * (wrap64 ((l0.length : Int) / 2)))) = j_:=⟨_,rfl⟩
 replace H : (if 0 ≤ (ji5) then (if (ji5 : Int).toNat ≤ 35184372088832 then (madrigalref10_Forward.l0 k l0 (wrap64 ((l0.length : Int) / 2)) t362 t365 (List.replicate (ji5 : Int).toNat 0) 0) else (none)) else (none)) = some r:=by first|(rw [hji5] at H;exact H)|(simp only [hji5] at H ⊢;exact H)
 (try rw [hji5] at A3)
 (try rw [hji5] at A4)
 have hji5w : (IntKind.i64.wrap (2 * (wrap64 ((l0.length : Int) / 2)))) = ji5:=(i64_w _).trans hji5
 by_cases c6 : 0 ≤ (ji5)
 ·rw [if_pos c6] at H
  have c6b0:=eq_true c6
  have c6b1 : decide (0 ≤ (ji5)) = true:=decide_eq_true c6
  clear c6
  by_cases c7 : (ji5 : Int).toNat ≤ 35184372088832
  ·rw [if_pos c7] at H
   have c7b0:=eq_true c7
   have c7b1 : decide ((ji5 : Int).toNat ≤ 35184372088832) = true:=decide_eq_true c7
   clear c7
   obtain ⟨y368,hy368⟩ : ∃ y_ : List Int,y_ = (List.replicate (ji5 : Int).toNat 0):=⟨_,rfl⟩
   replace H : (madrigalref10_Forward.l0 k l0 (wrap64 ((l0.length : Int) / 2)) t362 t365 y368 0) = some r:=by first|(rw [hy368];with_reducible exact H)|(have H2_:=(Option.bind_some _ _).symm.trans H;rw [hy368];with_reducible exact H2_)|(have H2_:=(Option.bind_some _ _).symm.trans H;with_reducible exact H2_)|with_reducible exact H|(rw [hy368];exact H)|exact H
   have Ny368:=ak_ hy368
   clear hy368
   have H':=ak_ H
   clear H
   go_enter Try.func19,Try.ntmps19
   go_wp2_with (first|((with_reducible refine gate_callee (f:=18) rfl ?_);refine goesL_ (some 20) rfl rfl Try.func18 (by kernel_rfl) rfl #[.int .i64 (wrap64 ((l0.length : Int) / 2)),.int .i64 a1] rfl (by (try simp only [List.map_toArray,List.map_cons,List.map_nil]);first|done|rfl|(simp only [List.length_drop,List.length_take];rfl)) ?_;(with_reducible refine (madrigalref10_Shape.calls k (wrap64 ((l0.length : Int) / 2)) a1 t362 _ A3.out).mono ?_);rintro e w8 ⟨v363,rfl,ho0,hb⟩;refine ⟨_,rfl,?_⟩;have n0_:=ak_ (Kd.R_lower ho0 (below_size (by repeat (first|(with_reducible first|exact HB.out|apply ba_|apply bb_|apply bc_)|exact HB.out))));have n1_:=ak_ (below_step (by repeat (first|(with_reducible first|exact HB.out|apply ba_|apply bb_|apply bc_)|exact HB.out)) hb);clear HB;have HO364:=n0_;have HB:=n1_;clear n0_ n1_;(try clear hb);(try clear ho0))|((with_reducible refine gate_callee (f:=32) rfl ?_);refine goesL_ (some 22) rfl rfl Try.func32 (by kernel_rfl) rfl #[.int .i64 (wrap64 ((l0.length : Int) / 2))] rfl (by (try simp only [List.map_toArray,List.map_cons,List.map_nil]);first|done|rfl|(simp only [List.length_drop,List.length_take];rfl)) ?_;(with_reducible refine (madrigalref10_table.calls k (wrap64 ((l0.length : Int) / 2)) t365 _ A4.out).mono ?_);rintro e w9 ⟨v366,rfl,ho0,hb⟩;refine ⟨_,rfl,?_⟩;have n0_:=ak_ (Kd.R_elder' (by (with_reducible repeat (first|apply ra_|apply rb_|apply rc_));exact HO364.out) (Kd.R_base ho0) hb);have n1_:=ak_ (Kd.R_lower (Kd.R_new' ho0 (Kd.R_lt (by (with_reducible repeat (first|apply ra_|apply rb_|apply rc_));exact HO364.out))) (below_size (by repeat (first|(with_reducible first|exact HB.out|apply ba_|apply bb_|apply bc_)|exact HB.out))));have n2_:=ak_ (below_step (by repeat (first|(with_reducible first|exact HB.out|apply ba_|apply bb_|apply bc_)|exact HB.out)) hb);clear HO364;clear HB;have HO364:=n0_;have HO367:=n1_;have HB:=n2_;clear n0_ n1_ n2_;(try clear hb);(try clear ho0))|((with_reducible refine gate_dst (N:=25) rfl ?_);refine Kd.R_make (Kd.int .i64) _ 2 rfl (N:=25) rfl 23 _ _ rfl ji5 rfl rfl Try.underlying23 (.int .i64 0) 8 info2 rfl (by decide) (by omega) 0 (ok:=fun _ => True) (okp:=fun _ => True) rfl (fun _ hk => hk) trivial (of_decide_eq_true (by first|(with_reducible assumption)|assumption)) (Nat.le_trans (Nat.mul_le_mul_right _ (of_decide_eq_true (by first|(with_reducible assumption)|assumption) : ji5.toNat ≤ 35184372088832)) (by omega)) (Below.refl _ _) (Nat.le_refl _) ?_;intro v369 w10 ho11 hb hg_ hnew_;clear hg_ hnew_;(first|rw [← Ny368.out] at ho11|(simp only [Int.reduceToNat] at ho11;rw [← Ny368.out] at ho11));have n0_:=ak_ (Kd.R_elder' (by (with_reducible repeat (first|apply ra_|apply rb_|apply rc_));exact HO364.out) (Kd.R_base ho11) hb);have n1_:=ak_ (Kd.R_elder' (by (with_reducible repeat (first|apply ra_|apply rb_|apply rc_));exact HO367.out) (Kd.R_base ho11) hb);have n2_:=ak_ (Kd.R_lower (Kd.R_new' (Kd.R_new' ho11 (Kd.R_lt (by (with_reducible repeat (first|apply ra_|apply rb_|apply rc_));exact HO364.out))) (Kd.R_lt (by (with_reducible repeat (first|apply ra_|apply rb_|apply rc_));exact HO367.out))) (below_size (by repeat (first|(with_reducible first|exact HB.out|apply ba_|apply bb_|apply bc_)|exact HB.out))));have n3_:=ak_ (below_step (by repeat (first|(with_reducible first|exact HB.out|apply ba_|apply bb_|apply bc_)|exact HB.out)) hb);clear HO364;clear HO367;clear HB;have HO364:=n0_;have HO367:=n1_;have HO370:=n2_;have HB:=n3_;clear n0_ n1_ n2_ n3_;clear hb ho11))
   go_loopg [9] k (fun kq v9 w' => ∃ (x8_1 : List Int) (x9_1 : Int),v9 = .int .i64 x9_1 ∧ Aside0 (madrigalref10_Forward.l0 kq l0 (wrap64 ((l0.length : Int) / 2)) t362 t365 x8_1 x9_1 = some r) ∧ Aside0 (kq ≤ k) ∧ Aside0 (Kd.R (Kd.int .i64) 2 w' w.heap.size (fun k_ => some k_ ≠ (v366 : Value).ownBlock ∧ some k_ ≠ (v369 : Value).ownBlock) v363 t362) ∧ Aside0 (Kd.R (Kd.int .i64) 2 w' w.heap.size (fun k_ => some k_ ≠ (v363 : Value).ownBlock ∧ some k_ ≠ (v369 : Value).ownBlock) v366 t365) ∧ Aside0 (Kd.R (Kd.int .i64) 2 w' w.heap.size (fun k_ => some k_ ≠ (v363 : Value).ownBlock ∧ some k_ ≠ (v366 : Value).ownBlock) v369 x8_1) ∧ Aside0 (Below w.heap.size w w'))
   case atStart => exact ⟨(y368),(0),(by first|rfl|(simp;done)|(simp [*];done)),H',⟨Nat.le_refl _⟩,⟨by (with_reducible repeat (first|apply ra_|apply rb_|apply rc_));exact Kd.R_mono HO364.out (fun _ hk => ⟨hk.1.2,hk.2⟩)⟩,⟨by (with_reducible repeat (first|apply ra_|apply rb_|apply rc_));exact Kd.R_mono HO367.out (fun _ hk => ⟨hk.1.2,hk.2⟩)⟩,⟨by (with_reducible repeat (first|apply ra_|apply rb_|apply rc_));exact Kd.R_mono HO370.out (fun _ hk => ⟨hk.1.2,hk.2⟩)⟩,⟨by repeat (first|(with_reducible first|exact HB.out|apply ba_|apply bb_|apply bc_)|exact HB.out)⟩⟩
   case round =>
    clear H'
    try clear c1
    try clear p2
    try clear c3
    try clear c6
    try clear c6b0
    try clear c6b1
    try clear p6
    try clear c7
    try clear c7b0
    try clear c7b1
    obtain ⟨x8_1,x9_1,rfl,HA,HK1,HO_6,HO_7,HO_8,HB⟩:=hrel
    (try simp only [i64_w,i32_w])
    cases gk with
    | zero => exact absurd HA.out (by simp [madrigalref10_Forward.l0])
    | succ k1 =>
     have H:=HA.out
     clear HA
     simp only [madrigalref10_Forward.l0] at H
     by_cases c12 : x9_1 < (wrap64 (2 * (wrap64 ((l0.length : Int) / 2))))
     ·rw [if_pos c12] at H
      have c12b0:=decide_eq_true c12
      (try rw [hji5] at c12b0)
      clear c12
      by_cases c13 : 0 ≤ x9_1
      ·rw [if_pos c13] at H
       have c13b0:=decide_eq_true c13
       clear c13
       by_cases c14 : x9_1 < (t362.length : Int)
       ·rw [if_pos c14] at H
        have c14b0:=decide_eq_true c14
        clear c14
        by_cases c15 : x9_1 < (l0.length : Int)
        ·rw [if_pos c15] at H
         have c15b0:=decide_eq_true c15
         clear c15
         replace H:=Option.bind_eq_some_iff.mp H
         obtain ⟨t373,A160,H⟩:=H
         (try dsimp only at H)
         have A16:=ak_ A160
         clear A160
         replace H:=Option.bind_eq_some_iff.mp H
         obtain ⟨t374,A170,H⟩:=H
         (try dsimp only at H)
         have A17:=ak_ A170
         clear A170
         by_cases c18 : x9_1 < (x8_1.length : Int)
         ·rw [if_pos c18] at H
          have c18b0:=decide_eq_true c18
          clear c18
          obtain ⟨y375,hy375⟩ : ∃ y_ : List Int,y_ = (x8_1.set (x9_1 : Int).toNat t374):=⟨_,rfl⟩
          replace H : (madrigalref10_Forward.l0 k1 l0 (wrap64 ((l0.length : Int) / 2)) t362 t365 y375 (wrap64 (x9_1 + 1))) = some r:=by first|(rw [hy375];with_reducible exact H)|(have H2_:=(Option.bind_some _ _).symm.trans H;rw [hy375];with_reducible exact H2_)|(have H2_:=(Option.bind_some _ _).symm.trans H;with_reducible exact H2_)|with_reducible exact H|(rw [hy375];exact H)|exact H
          have Ny375:=ak_ hy375
          clear hy375
          have H':=ak_ H
          clear H
          try go_wp2
          have n0_:=ak_ (Kd.R_drew HO_6.out)
          have n1_:=ak_ (Kd.R_drew HO_7.out)
          have n2_:=ak_ (Kd.R_drew HO_8.out)
          have n3_:=ak_ (below_drew1 HB.out)
          clear HO_6
          clear HO_7
          clear HO_8
          clear HB
          have HO_6:=n0_
          have HO_7:=n1_
          have HO_8:=n2_
          have HB:=n3_
          clear n0_ n1_ n2_ n3_
          obtain ⟨Ao21,co21,eo21⟩:=Kd.R_slice HO_6.out
          (first|subst eo21|(injection eo21 with f1_ f2_ f3_;have f4_:=f1_.symm;have f5_:=f3_.symm;clear f1_ f2_ f3_;subst f4_;subst f5_))
          have p371 : 0 ≤ (x9_1 : Int):=of_decide_eq_true (by first|(with_reducible assumption)|assumption)
          have q371 : x9_1 < (t362.length : Int):=of_decide_eq_true (by first|(with_reducible assumption)|assumption)
          obtain ⟨ad371,e371,hx371_0⟩:=Kd.at_int (Kd.R_reads' HO_6.out).2.2 x9_1 p371 q371
          cases e371
          replace p371:=eq_true p371
          replace q371:=eq_true q371
          have p372 : 0 ≤ (x9_1 : Int):=of_decide_eq_true (by first|(with_reducible assumption)|assumption)
          have q372 : x9_1 < (l0.length : Int):=of_decide_eq_true (by first|(with_reducible assumption)|assumption)
          obtain ⟨ad372,e372,hx372_0⟩:=Kd.at_int HR0.out x9_1 p372 q372
          have hw372_0:=hx372_0
          cases e372
          replace hx372_0:=(HB.out.cell (World.block_lt_of_cell? w _ hx372_0)).trans hx372_0
          replace p372:=eq_true p372
          replace q372:=eq_true q372
          refine start_ (n:=14) (S:=fun w' => w'.cell? (ad371.add (x9_1).toNat) = some (.int .i64 (rd t362 x9_1)) ∧ w'.cell? (ad372.add (x9_1).toNat) = some (.int .i64 (rd l0 x9_1))) (ds:=[13]) #[false,false,false,false,false,false,false,false,false,false,false,false,false,false] (by kernel_rfl) rfl rfl ⟨hx371_0,((HB.out.cell (World.block_lt_of_cell? w _ hw372_0)).trans hw372_0)⟩ (fun hHeld => ?_);refine with_tabW madrigalref10_Forward.tab8 madrigalref10_Forward.bits8 (fun HT_ HW_ => ?_)
          generalize wr.drew = w20 at HO_6 HO_7 HO_8 HB hx371_0 hx372_0 hHeld ⊢
          refine pure_ (i:=0) (N:=some 32) (v:=?_) (a':=?_) #[true,false,false,false,false,false,false,false,false,false,false,false,false,false] rfl rfl (any_of HT_.out (by kernel_rfl)) (fun _ _ _ h => h) (Or.inl ⟨by rfl,?_⟩) ?_ ?_
          rotate_left
          ·intro w'
           go_simp
           with_reducible rfl
          rotate_left
          ·simp only [Act.put,List.setIfInBounds_toArray,List.set_cons_zero,List.set_cons_succ,i64_w,i32_w]
           rfl
          refine pure_ (i:=1) (N:=some 33) (v:=?_) (a':=?_) #[true,true,false,false,false,false,false,false,false,false,false,false,false,false] rfl rfl (any_of HT_.out (by kernel_rfl)) (fun _ _ _ h => h) (Or.inl ⟨by rfl,?_⟩) ?_ ?_
          rotate_left
          ·intro w'
           go_simp
           with_reducible rfl
          rotate_left
          ·simp only [Act.put,List.setIfInBounds_toArray,List.set_cons_zero,List.set_cons_succ,i64_w,i32_w]
           rfl
          refine pure_ (i:=2) (N:=some 34) (v:=?_) (a':=?_) #[true,true,true,false,false,false,false,false,false,false,false,false,false,false] rfl rfl (any_of HT_.out (by kernel_rfl)) (fun _ _ _ h => h) (Or.inl ⟨by rfl,?_⟩) ?_ ?_
          rotate_left
          ·intro w'
           go_simp
           with_reducible rfl
          rotate_left
          ·simp only [Act.put,List.setIfInBounds_toArray,List.set_cons_zero,List.set_cons_succ,i64_w,i32_w]
           rfl
          refine pure_ (i:=3) (N:=some 35) (v:=?_) (a':=?_) #[true,true,true,true,false,false,false,false,false,false,false,false,false,false] rfl rfl (any_of HT_.out (by kernel_rfl)) (fun _ _ _ h => h) (Or.inl ⟨by rfl,?_⟩) ?_ ?_
          rotate_left
          ·intro w'
           go_simp
           with_reducible rfl
          rotate_left
          ·simp only [Act.put,List.setIfInBounds_toArray,List.set_cons_zero,List.set_cons_succ,i64_w,i32_w]
           rfl
          refine pure_ (i:=4) (N:=some 36) (v:=?_) (a':=?_) #[true,true,true,true,true,false,false,false,false,false,false,false,false,false] rfl rfl (any_of HT_.out (by kernel_rfl)) (fun _ _ _ h => h) (Or.inl ⟨by rfl,?_⟩) ?_ ?_
          rotate_left
          ·intro w'
           go_simp
           with_reducible rfl
          rotate_left
          ·simp only [Act.put,List.setIfInBounds_toArray,List.set_cons_zero,List.set_cons_succ,i64_w,i32_w]
           rfl
          refine pure_ (i:=6) (N:=some 38) (v:=?_) (a':=?_) #[true,true,true,true,true,false,true,false,false,false,false,false,false,false] rfl rfl (any_of HT_.out (by kernel_rfl)) (fun _ _ _ h => h) (Or.inl ⟨by rfl,?_⟩) ?_ ?_
          rotate_left
          ·intro w'
           go_simp
           with_reducible rfl
          rotate_left
          ·simp only [Act.put,List.setIfInBounds_toArray,List.set_cons_zero,List.set_cons_succ,i64_w,i32_w]
           rfl
          refine pure_ (i:=7) (N:=some 39) (v:=?_) (a':=?_) #[true,true,true,true,true,false,true,true,false,false,false,false,false,false] rfl rfl (any_of HT_.out (by kernel_rfl)) (fun _ _ _ h => h) (Or.inl ⟨by rfl,?_⟩) ?_ ?_
          rotate_left
          ·intro w'
           go_simp
           with_reducible rfl
          rotate_left
          ·simp only [Act.put,List.setIfInBounds_toArray,List.set_cons_zero,List.set_cons_succ,i64_w,i32_w]
           rfl
          refine pure_ (i:=8) (N:=some 40) (v:=?_) (a':=?_) #[true,true,true,true,true,false,true,true,true,false,false,false,false,false] rfl rfl (any_of HT_.out (by kernel_rfl)) (fun _ _ _ h => h) (Or.inl ⟨by rfl,?_⟩) ?_ ?_
          rotate_left
          ·intro w'
           go_simp
           with_reducible rfl
          rotate_left
          ·simp only [Act.put,List.setIfInBounds_toArray,List.set_cons_zero,List.set_cons_succ,i64_w,i32_w]
           rfl
          refine take_ (i:=5) (N:=some 37) (v:=?_) (a':=?_) #[true,true,true,true,true,true,true,true,true,false,false,false,false,false] rfl rfl (take_ofW HT_.out HW_.out (by kernel_rfl)) (fun _ _ _ h => h) (Or.inl ⟨by rfl,?_⟩) hHeld ?_ ?_
          rotate_left
          ·rintro w' ⟨s0,s1⟩
           go_simp
           with_reducible rfl
          rotate_left
          ·simp only [Act.put,List.setIfInBounds_toArray,List.set_cons_zero,List.set_cons_succ,i64_w,i32_w]
           rfl
          refine take_ (i:=9) (N:=some 41) (v:=?_) (a':=?_) #[true,true,true,true,true,true,true,true,true,true,false,false,false,false] rfl rfl (take_ofW HT_.out HW_.out (by kernel_rfl)) (fun _ _ _ h => h) (Or.inl ⟨by rfl,?_⟩) hHeld ?_ ?_
          rotate_left
          ·rintro w' ⟨s0,s1⟩
           go_simp
           with_reducible rfl
          rotate_left
          ·simp only [Act.put,List.setIfInBounds_toArray,List.set_cons_zero,List.set_cons_succ,i64_w,i32_w]
           rfl
          refine one_ (i:=10) (N:=some 42) #[true,true,true,true,true,true,true,true,true,true,true,false,false,false] rfl rfl (one_of HT_.out (by kernel_rfl)) (by decide) (fun K hK => ?_)
          refine goes_ Try.func34 (by kernel_rfl) rfl #[.int .i64 (rd l0 x9_1)] (by rfl) rfl rfl (by (try simp only [List.map_toArray,List.map_cons,List.map_nil]);first|done|rfl|(simp only [List.length_drop,List.length_take];rfl)) ?_
          with_reducible refine (madrigalref10_keep.calls k1 (rd l0 x9_1) t373 _ A16.out).mono ?_
          rintro e w' ⟨rfl,⟨nd,rfl⟩⟩
          refine ⟨_,rfl,?_⟩
          refine hK.out _ _ ⟨hHeld.1,((HB.out.cell (World.block_lt_of_cell? w _ hw372_0)).trans hw372_0)⟩ (fun hHeld => ?_)
          clear hK K
          refine norm_ (a':=?_) ?_ ?_
          rotate_left
          ·show Act.put _ (some 42) _ = _
           simp only [Act.put,List.setIfInBounds_toArray,List.set_cons_zero,List.set_cons_succ,i64_w,i32_w]
           rfl
          refine one_ (i:=11) (N:=some 43) #[true,true,true,true,true,true,true,true,true,true,true,true,false,false] rfl rfl (one_of HT_.out (by kernel_rfl)) (by decide) (fun K hK => ?_)
          refine goes_ Try.func33 (by kernel_rfl) rfl #[.int .i64 (rd t362 x9_1),.int .i64 t373,.int .i64 15] (by rfl) rfl rfl (by (try simp only [List.map_toArray,List.map_cons,List.map_nil]);first|done|rfl|(simp only [List.length_drop,List.length_take];rfl)) ?_
          with_reducible refine (madrigalref1_Mul.calls k1 (rd t362 x9_1) t373 15 t374 _ A17.out).mono ?_
          rintro e w' ⟨rfl,⟨nd,rfl⟩⟩
          refine ⟨_,rfl,?_⟩
          have p19 : 0 ≤ (x9_1 : Int):=of_decide_eq_true (by first|(with_reducible assumption)|assumption)
          have q19 : (x9_1 : Int) < ((x8_1.length : Int) : Int):=of_decide_eq_true (by first|(with_reducible assumption)|assumption)
          obtain ⟨go19,co19,eo19,gb19,gl19,cl19,HG19⟩:=Kd.R_form HO_8.out (by omega)
          (first|cases eo19|(injection eo19 with ea_ en_ ec_;(first|subst ea_|(injection ea_ with ea_;subst ea_));subst ec_;clear en_))
          have GB19:=ak_ gb19
          have GG19:=ak_ HG19
          clear gb19 gl19 HG19
          obtain ⟨hx19_0,hf19_0⟩:=Kd.R_celln 0 HO_8.out (x9_1 : Int) p19 q19
          replace p19:=eq_true p19
          replace q19:=eq_true q19
          have HP22:=Kd.R_putn HO_8.out (x9_1 : Int) t374
          rw [← Ny375.out] at HP22
          have HQ22:=ak_ HP22
          clear HP22
          refine hK.out _ _ ⟨hHeld.1,((HB.out.cell (World.block_lt_of_cell? w _ hw372_0)).trans hw372_0)⟩ (fun hHeld => ?_)
          clear hK K
          refine norm_ (a':=?_) ?_ ?_
          rotate_left
          ·show Act.put _ (some 43) _ = _
           simp only [Act.put,List.setIfInBounds_toArray,List.set_cons_zero,List.set_cons_succ,i64_w,i32_w]
           rfl
          refine pure_ (i:=12) (N:=some 44) (v:=?_) (a':=?_) #[true,true,true,true,true,true,true,true,true,true,true,true,true,false] rfl rfl (any_of HT_.out (by kernel_rfl)) (fun _ _ _ h => h) (Or.inl ⟨by rfl,?_⟩) ?_ ?_
          rotate_left
          ·intro w'
           go_simp
           with_reducible rfl
          rotate_left
          ·simp only [Act.put,List.setIfInBounds_toArray,List.set_cons_zero,List.set_cons_succ,i64_w,i32_w]
           rfl
          refine last_ (i:=13) (N:=none) #[true,true,true,true,true,true,true,true,true,true,true,true,true,true] rfl rfl (one_of HT_.out (by kernel_rfl)) (by decide) (fun K hK => ?_)
          refine skip_ (w1:=?_) (by rfl) rfl ?_ ?_
          rotate_left
          ·go_simp
           rfl
          refine hK.out _ _ ?_
          clear hK K
          refine done_ (done_of HT_.out (by kernel_rfl)) ?_
          try go_wp2
          go_roundg k1
          case measure => have:=HK1.out;omega
          case rel => exact ⟨(y375),(wrap64 (x9_1 + 1)),(by first|rfl|(simp;done)|(simp [*];done)),H',⟨by have:=HK1.out;omega⟩,⟨by (with_reducible repeat (first|apply ra_|apply rb_|apply rc_));exact Kd.R_mono (Kd.R_far (p:=⟨go19,(x9_1 : Int).toNat,none⟩) (Kd.R_mono HO_6.out (fun k_ hk => (⟨hk,fun e_ => hk.2 (by rw [e_];rfl)⟩ : _ ∧ k_ ≠ go19))) (fun _ hk => hk.2) (.int .i64 t374)) (fun _ hk => ⟨hk.1.1,hk.1.2⟩)⟩,⟨by (with_reducible repeat (first|apply ra_|apply rb_|apply rc_));exact Kd.R_mono (Kd.R_far (p:=⟨go19,(x9_1 : Int).toNat,none⟩) (Kd.R_mono HO_7.out (fun k_ hk => (⟨hk,fun e_ => hk.2 (by rw [e_];rfl)⟩ : _ ∧ k_ ≠ go19))) (fun _ hk => hk.2) (.int .i64 t374)) (fun _ hk => ⟨hk.1.1,hk.1.2⟩)⟩,⟨by (with_reducible repeat (first|apply ra_|apply rb_|apply rc_));exact HQ22.out⟩,⟨by repeat (first|(with_reducible first|exact HB.out|apply ba_|apply bb_|apply bc_|refine below_set ?_ GB19.out)|exact HB.out)⟩⟩
         ·rw [if_neg c18] at H
          exact absurd H (by simp)
        ·rw [if_neg c15] at H
         exact absurd H (by simp)
       ·rw [if_neg c14] at H
        exact absurd H (by simp)
      ·rw [if_neg c13] at H
       exact absurd H (by simp)
     ·rw [if_neg c12] at H
      have c12b0:=decide_eq_false c12
      (try rw [hji5] at c12b0)
      clear c12
      have H':=ak_ H
      clear H
      go_wp2
      go_loopg [10,11] k1 (fun kq v10 v11 w' => ∃ (x10_2 : List Int) (x11_2 : Int),v11 = .int .i64 x11_2 ∧ Aside0 (madrigalref10_Forward.l1 kq (wrap64 ((l0.length : Int) / 2)) t365 x8_1 x10_2 x11_2 = some r) ∧ Aside0 (kq ≤ k1) ∧ Aside0 (Kd.R (Kd.int .i64) 2 w' w.heap.size (fun k_ => some k_ ≠ (v369 : Value).ownBlock ∧ some k_ ≠ (v10 : Value).ownBlock) v366 t365) ∧ Aside0 (Kd.R (Kd.int .i64) 2 w' w.heap.size (fun k_ => some k_ ≠ (v366 : Value).ownBlock ∧ some k_ ≠ (v10 : Value).ownBlock) v369 x8_1) ∧ Aside0 (Kd.R (Kd.int .i64) 2 w' w.heap.size (fun k_ => some k_ ≠ (v366 : Value).ownBlock ∧ some k_ ≠ (v369 : Value).ownBlock) v10 x10_2) ∧ Aside0 (Below w.heap.size w w'))
      case atStart => exact ⟨(([] : List Int)),(0),(by first|rfl|(simp;done)|(simp [*];done)),H',⟨Nat.le_refl _⟩,⟨by (with_reducible repeat (first|apply ra_|apply rb_|apply rc_));exact Kd.R_mono HO_7.out (fun _ hk => ⟨hk.2,(by simp [Value.ownBlock])⟩)⟩,⟨by (with_reducible repeat (first|apply ra_|apply rb_|apply rc_));exact Kd.R_mono HO_8.out (fun _ hk => ⟨hk.2,(by simp [Value.ownBlock])⟩)⟩,⟨by first|exact Kd.R_nil _ _ _ _ _|exact Kd.N_nil _ _ _ _ _|exact Kd.V_nil _ _ _ _ _|exact Kd.Q_nil _ _ _ _ _|exact Kd.S_nil _ _ _ _ _⟩,⟨by repeat (first|(with_reducible first|exact HB.out|apply ba_|apply bb_|apply bc_)|exact HB.out)⟩⟩
      case round =>
       clear H'
       try clear c1
       try clear p1
       try clear q1
       try clear hx1
       try clear p2
       try clear c3
       try clear p3
       try clear q3
       try clear hx3
       try clear c6
       try clear c6b0
       try clear c6b1
       try clear p6
       try clear c7
       try clear c7b0
       try clear c7b1
       try clear c12
       try clear c12b0
       try clear c13
       try clear c13b0
       try clear c14
       try clear c14b0
       try clear c15
       try clear c15b0
       try clear c18
       try clear c18b0
       try clear c19
       try clear p19
       try clear q19
       try clear hx19
       try clear hf19
       try clear hx19_0
       try clear hx371_0
       try clear hx372_0
       try clear p19
       try clear p2
       try clear p371
       try clear p372
       try clear p6
       try clear q19
       try clear q371
       try clear q372
       obtain ⟨x10_2,x11_2,rfl,HA,HK2,HO_7,HO_8,HO_10,HB⟩:=hrel
       (try simp only [i64_w,i32_w])
       cases gk with
       | zero => exact absurd HA.out (by simp [madrigalref10_Forward.l1])
       | succ k2 =>
        have H:=HA.out
        clear HA
        simp only [madrigalref10_Forward.l1] at H
        by_cases c23 : x11_2 < (wrap64 ((l0.length : Int) / 2))
        ·rw [if_pos c23] at H
         have c23b0:=decide_eq_true c23
         clear c23
         by_cases c24 : (wrap64 (8 * (wrap64 ((l0.length : Int) / 2)))) = 0
         ·rw [if_pos c24] at H
          exact absurd H (by simp)
         ·rw [if_neg c24] at H
          have c24b0 : ((wrap64 (8 * (wrap64 ((l0.length : Int) / 2)))) == 0) = false:=beq_eq_false_iff_ne.mpr c24
          have c24b1 : ((wrap64 (8 * (wrap64 ((l0.length : Int) / 2)))) != 0) = true:=bne_iff_ne.mpr c24
          have H':=ak_ H
          clear H
          go_wp2
          go_loopg [12,13,14] k2 (fun kq v12 v13 v14 w' => ∃ (x12_3 : Int) (x13_3 : Int) (x14_3 : Int),v12 = .int .i64 x12_3 ∧ v13 = .int .i64 x13_3 ∧ v14 = .int .i64 x14_3 ∧ Aside0 (madrigalref10_Forward.l2 kq (wrap64 ((l0.length : Int) / 2)) t365 x8_1 x10_2 x11_2 x12_3 x13_3 x14_3 = some r) ∧ Aside0 (kq ≤ k2) ∧ Aside0 (Kd.R (Kd.int .i64) 2 w' w.heap.size (fun k_ => some k_ ≠ (v369 : Value).ownBlock ∧ some k_ ≠ (u10 : Value).ownBlock) v366 t365) ∧ Aside0 (Kd.R (Kd.int .i64) 2 w' w.heap.size (fun k_ => some k_ ≠ (v366 : Value).ownBlock ∧ some k_ ≠ (u10 : Value).ownBlock) v369 x8_1) ∧ Aside0 (Kd.R (Kd.int .i64) 2 w' w.heap.size (fun k_ => some k_ ≠ (v366 : Value).ownBlock ∧ some k_ ≠ (v369 : Value).ownBlock) u10 x10_2) ∧ Aside0 (Below w.heap.size w w'))
          case atStart => exact ⟨(16384),(Int.tmod (wrap64 ((wrap64 (1 + (wrap64 ((l0.length : Int) / 2)))) * (wrap64 ((wrap64 (2 * x11_2)) + 1)))) (wrap64 (8 * (wrap64 ((l0.length : Int) / 2))))),(0),(by first|rfl|(simp;done)|(simp [*];done)),(by first|rfl|(simp;done)|(simp [*];done)),(by first|rfl|(simp;done)|(simp [*];done)),H',⟨Nat.le_refl _⟩,⟨by (with_reducible repeat (first|apply ra_|apply rb_|apply rc_));exact HO_7.out⟩,⟨by (with_reducible repeat (first|apply ra_|apply rb_|apply rc_));exact HO_8.out⟩,⟨by (with_reducible repeat (first|apply ra_|apply rb_|apply rc_));exact HO_10.out⟩,⟨by repeat (first|(with_reducible first|exact HB.out|apply ba_|apply bb_|apply bc_)|exact HB.out)⟩⟩
          case round =>
           clear H'
           try clear c1
           try clear p1
           try clear q1
           try clear hx1
           try clear c2
           try clear p2
           try clear c3
           try clear p3
           try clear q3
           try clear hx3
           try clear c6
           try clear c6b0
           try clear c6b1
           try clear p6
           try clear c7
           try clear c7b0
           try clear c7b1
           try clear c12
           try clear c12b0
           try clear c13
           try clear c13b0
           try clear c14
           try clear c14b0
           try clear c15
           try clear c15b0
           try clear c18
           try clear c18b0
           try clear c19
           try clear p19
           try clear q19
           try clear hx19
           try clear hf19
           try clear c23
           try clear c23b0
           try clear c24
           try clear c24b0
           try clear c24b1
           try clear hx19_0
           try clear hx371_0
           try clear hx372_0
           try clear p1
           try clear p19
           try clear p2
           try clear p3
           try clear p371
           try clear p372
           try clear p6
           try clear q1
           try clear q19
           try clear q3
           try clear q371
           try clear q372
           obtain ⟨x12_3,x13_3,x14_3,rfl,rfl,rfl,HA,HK3,HO_7,HO_8,HO_10,HB⟩:=hrel
           (try simp only [i64_w,i32_w])
           cases gk with
           | zero => exact absurd HA.out (by simp [madrigalref10_Forward.l2])
           | succ k3 =>
            have H:=HA.out
            clear HA
            simp only [madrigalref10_Forward.l2] at H
            by_cases c25 : x14_3 < (wrap64 (2 * (wrap64 ((l0.length : Int) / 2))))
            ·rw [if_pos c25] at H
             have c25b0:=decide_eq_true c25
             (try rw [hji5] at c25b0)
             clear c25
             by_cases c26 : 0 ≤ x14_3
             ·rw [if_pos c26] at H
              have c26b0:=decide_eq_true c26
              clear c26
              by_cases c27 : x14_3 < (x8_1.length : Int)
              ·rw [if_pos c27] at H
               have c27b0:=decide_eq_true c27
               clear c27
               by_cases c28 : 0 ≤ x13_3
               ·rw [if_pos c28] at H
                have c28b0:=decide_eq_true c28
                clear c28
                by_cases c29 : x13_3 < (t365.length : Int)
                ·rw [if_pos c29] at H
                 have c29b0:=decide_eq_true c29
                 clear c29
                 by_cases c30 : (wrap64 (x13_3 + (wrap64 (2 * (wrap64 ((wrap64 (2 * x11_2)) + 1)))))) ≥ (wrap64 (8 * (wrap64 ((l0.length : Int) / 2))))
                 ·rw [if_pos c30] at H
                  have c30b0 : decide ((wrap64 (8 * (wrap64 ((l0.length : Int) / 2)))) ≤ (wrap64 (x13_3 + (wrap64 (2 * (wrap64 ((wrap64 (2 * x11_2)) + 1))))))) = true:=decide_eq_true c30
                  clear c30
                  have H':=ak_ H
                  clear H
                  try go_wp2
                  have n0_:=ak_ (Kd.R_drew HO_7.out)
                  have n1_:=ak_ (Kd.R_drew HO_8.out)
                  have n2_:=ak_ (Kd.R_drew HO_10.out)
                  have n3_:=ak_ (below_drew1 HB.out)
                  clear HO_7
                  clear HO_8
                  clear HO_10
                  clear HB
                  have HO_7:=n0_
                  have HO_8:=n1_
                  have HO_10:=n2_
                  have HB:=n3_
                  clear n0_ n1_ n2_ n3_
                  obtain ⟨Ao32,co32,eo32⟩:=Kd.R_slice HO_8.out
                  (first|subst eo32|(injection eo32 with f1_ f2_ f3_;have f4_:=f1_.symm;have f5_:=f3_.symm;clear f1_ f2_ f3_;subst f4_;subst f5_))
                  have p376 : 0 ≤ (x14_3 : Int):=of_decide_eq_true (by first|(with_reducible assumption)|assumption)
                  have q376 : x14_3 < (x8_1.length : Int):=of_decide_eq_true (by first|(with_reducible assumption)|assumption)
                  obtain ⟨ad376,e376,hx376_0⟩:=Kd.at_int (Kd.R_reads' HO_8.out).2.2 x14_3 p376 q376
                  cases e376
                  replace p376:=eq_true p376
                  replace q376:=eq_true q376
                  obtain ⟨Ao33,co33,eo33⟩:=Kd.R_slice HO_7.out
                  (first|subst eo33|(injection eo33 with f1_ f2_ f3_;have f4_:=f1_.symm;have f5_:=f3_.symm;clear f1_ f2_ f3_;subst f4_;subst f5_))
                  have p377 : 0 ≤ (x13_3 : Int):=of_decide_eq_true (by first|(with_reducible assumption)|assumption)
                  have q377 : x13_3 < (t365.length : Int):=of_decide_eq_true (by first|(with_reducible assumption)|assumption)
                  obtain ⟨ad377,e377,hx377_0⟩:=Kd.at_int (Kd.R_reads' HO_7.out).2.2 x13_3 p377 q377
                  cases e377
                  replace p377:=eq_true p377
                  replace q377:=eq_true q377
                  refine start_ (n:=12) (S:=fun w' => w'.cell? (ad376.add (x14_3).toNat) = some (.int .i64 (rd x8_1 x14_3)) ∧ w'.cell? (ad377.add (x13_3).toNat) = some (.int .i64 (rd t365 x13_3))) (ds:=[]) #[false,false,false,false,false,false,false,false,false,false,false,false] (by kernel_rfl) rfl rfl ⟨hx376_0,hx377_0⟩ (fun hHeld => ?_);refine with_tabW madrigalref10_Forward.tab18 madrigalref10_Forward.bits18 (fun HT_ HW_ => ?_)
                  generalize wr.drew = w31 at HO_7 HO_8 HO_10 HB hx376_0 hx377_0 hHeld ⊢
                  refine pure_ (i:=0) (N:=some 65) (v:=?_) (a':=?_) #[true,false,false,false,false,false,false,false,false,false,false,false] rfl rfl (any_of HT_.out (by kernel_rfl)) (fun _ _ _ h => h) (Or.inl ⟨by rfl,?_⟩) ?_ ?_
                  rotate_left
                  ·intro w'
                   go_simp
                   with_reducible rfl
                  rotate_left
                  ·simp only [Act.put,List.setIfInBounds_toArray,List.set_cons_zero,List.set_cons_succ,i64_w,i32_w]
                   rfl
                  refine pure_ (i:=1) (N:=some 66) (v:=?_) (a':=?_) #[true,true,false,false,false,false,false,false,false,false,false,false] rfl rfl (any_of HT_.out (by kernel_rfl)) (fun _ _ _ h => h) (Or.inl ⟨by rfl,?_⟩) ?_ ?_
                  rotate_left
                  ·intro w'
                   go_simp
                   with_reducible rfl
                  rotate_left
                  ·simp only [Act.put,List.setIfInBounds_toArray,List.set_cons_zero,List.set_cons_succ,i64_w,i32_w]
                   rfl
                  refine pure_ (i:=2) (N:=some 67) (v:=?_) (a':=?_) #[true,true,true,false,false,false,false,false,false,false,false,false] rfl rfl (any_of HT_.out (by kernel_rfl)) (fun _ _ _ h => h) (Or.inl ⟨by rfl,?_⟩) ?_ ?_
                  rotate_left
                  ·intro w'
                   go_simp
                   with_reducible rfl
                  rotate_left
                  ·simp only [Act.put,List.setIfInBounds_toArray,List.set_cons_zero,List.set_cons_succ,i64_w,i32_w]
                   rfl
                  refine pure_ (i:=3) (N:=some 68) (v:=?_) (a':=?_) #[true,true,true,true,false,false,false,false,false,false,false,false] rfl rfl (any_of HT_.out (by kernel_rfl)) (fun _ _ _ h => h) (Or.inl ⟨by rfl,?_⟩) ?_ ?_
                  rotate_left
                  ·intro w'
                   go_simp
                   with_reducible rfl
                  rotate_left
                  ·simp only [Act.put,List.setIfInBounds_toArray,List.set_cons_zero,List.set_cons_succ,i64_w,i32_w]
                   rfl
                  refine pure_ (i:=5) (N:=some 70) (v:=?_) (a':=?_) #[true,true,true,true,false,true,false,false,false,false,false,false] rfl rfl (any_of HT_.out (by kernel_rfl)) (fun _ _ _ h => h) (Or.inl ⟨by rfl,?_⟩) ?_ ?_
                  rotate_left
                  ·intro w'
                   go_simp
                   with_reducible rfl
                  rotate_left
                  ·simp only [Act.put,List.setIfInBounds_toArray,List.set_cons_zero,List.set_cons_succ,i64_w,i32_w]
                   rfl
                  refine pure_ (i:=6) (N:=some 71) (v:=?_) (a':=?_) #[true,true,true,true,false,true,true,false,false,false,false,false] rfl rfl (any_of HT_.out (by kernel_rfl)) (fun _ _ _ h => h) (Or.inl ⟨by rfl,?_⟩) ?_ ?_
                  rotate_left
                  ·intro w'
                   go_simp
                   with_reducible rfl
                  rotate_left
                  ·simp only [Act.put,List.setIfInBounds_toArray,List.set_cons_zero,List.set_cons_succ,i64_w,i32_w]
                   rfl
                  refine pure_ (i:=7) (N:=some 72) (v:=?_) (a':=?_) #[true,true,true,true,false,true,true,true,false,false,false,false] rfl rfl (any_of HT_.out (by kernel_rfl)) (fun _ _ _ h => h) (Or.inl ⟨by rfl,?_⟩) ?_ ?_
                  rotate_left
                  ·intro w'
                   go_simp
                   with_reducible rfl
                  rotate_left
                  ·simp only [Act.put,List.setIfInBounds_toArray,List.set_cons_zero,List.set_cons_succ,i64_w,i32_w]
                   rfl
                  refine take_ (i:=4) (N:=some 69) (v:=?_) (a':=?_) #[true,true,true,true,true,true,true,true,false,false,false,false] rfl rfl (take_ofW HT_.out HW_.out (by kernel_rfl)) (fun _ _ _ h => h) (Or.inl ⟨by rfl,?_⟩) hHeld ?_ ?_
                  rotate_left
                  ·rintro w' ⟨s0,s1⟩
                   go_simp
                   with_reducible rfl
                  rotate_left
                  ·simp only [Act.put,List.setIfInBounds_toArray,List.set_cons_zero,List.set_cons_succ,i64_w,i32_w]
                   rfl
                  refine take_ (i:=8) (N:=some 73) (v:=?_) (a':=?_) #[true,true,true,true,true,true,true,true,true,false,false,false] rfl rfl (take_ofW HT_.out HW_.out (by kernel_rfl)) (fun _ _ _ h => h) (Or.inl ⟨by rfl,?_⟩) hHeld ?_ ?_
                  rotate_left
                  ·rintro w' ⟨s0,s1⟩
                   go_simp
                   with_reducible rfl
                  rotate_left
                  ·simp only [Act.put,List.setIfInBounds_toArray,List.set_cons_zero,List.set_cons_succ,i64_w,i32_w]
                   rfl
                  refine pure_ (i:=9) (N:=some 74) (v:=?_) (a':=?_) #[true,true,true,true,true,true,true,true,true,true,false,false] rfl rfl (any_of HT_.out (by kernel_rfl)) (fun _ _ _ h => h) (Or.inl ⟨by rfl,?_⟩) ?_ ?_
                  rotate_left
                  ·intro w'
                   go_simp
                   with_reducible rfl
                  rotate_left
                  ·simp only [Act.put,List.setIfInBounds_toArray,List.set_cons_zero,List.set_cons_succ,i64_w,i32_w]
                   rfl
                  refine pure_ (i:=10) (N:=some 75) (v:=?_) (a':=?_) #[true,true,true,true,true,true,true,true,true,true,true,false] rfl rfl (any_of HT_.out (by kernel_rfl)) (fun _ _ _ h => h) (Or.inl ⟨by rfl,?_⟩) ?_ ?_
                  rotate_left
                  ·intro w'
                   go_simp
                   with_reducible rfl
                  rotate_left
                  ·simp only [Act.put,List.setIfInBounds_toArray,List.set_cons_zero,List.set_cons_succ,i64_w,i32_w]
                   rfl
                  refine pure_ (i:=11) (N:=some 12) (v:=?_) (a':=?_) #[true,true,true,true,true,true,true,true,true,true,true,true] rfl rfl (any_of HT_.out (by kernel_rfl)) (fun _ _ _ h => h) (Or.inl ⟨by rfl,?_⟩) ?_ ?_
                  rotate_left
                  ·intro w'
                   go_simp
                   with_reducible rfl
                  rotate_left
                  ·simp only [Act.put,List.setIfInBounds_toArray,List.set_cons_zero,List.set_cons_succ,i64_w,i32_w]
                   rfl
                  refine done_ (done_of HT_.out (by kernel_rfl)) ?_
                  try go_wp2
                  go_roundg k3
                  case measure => have:=HK1.out;have:=HK2.out;have:=HK3.out;omega
                  case rel => exact ⟨(wrap64 (x12_3 + (wrap64 ((rd x8_1 x14_3) * (rd t365 x13_3))))),(wrap64 ((wrap64 (x13_3 + (wrap64 (2 * (wrap64 ((wrap64 (2 * x11_2)) + 1)))))) - (wrap64 (8 * (wrap64 ((l0.length : Int) / 2)))))),(wrap64 (x14_3 + 1)),(by first|rfl|(simp;done)|(simp [*];done)),(by first|rfl|(simp;done)|(simp [*];done)),(by first|rfl|(simp;done)|(simp [*];done)),H',⟨by have:=HK1.out;have:=HK2.out;have:=HK3.out;omega⟩,⟨by (with_reducible repeat (first|apply ra_|apply rb_|apply rc_));exact HO_7.out⟩,⟨by (with_reducible repeat (first|apply ra_|apply rb_|apply rc_));exact HO_8.out⟩,⟨by (with_reducible repeat (first|apply ra_|apply rb_|apply rc_));exact HO_10.out⟩,⟨by repeat (first|(with_reducible first|exact HB.out|apply ba_|apply bb_|apply bc_)|exact HB.out)⟩⟩
                 ·rw [if_neg c30] at H
                  have c30b0 : decide ((wrap64 (8 * (wrap64 ((l0.length : Int) / 2)))) ≤ (wrap64 (x13_3 + (wrap64 (2 * (wrap64 ((wrap64 (2 * x11_2)) + 1))))))) = false:=decide_eq_false c30
                  clear c30
                  have H':=ak_ H
                  clear H
                  try go_wp2
                  have n0_:=ak_ (Kd.R_drew HO_7.out)
                  have n1_:=ak_ (Kd.R_drew HO_8.out)
                  have n2_:=ak_ (Kd.R_drew HO_10.out)
                  have n3_:=ak_ (below_drew1 HB.out)
                  clear HO_7
                  clear HO_8
                  clear HO_10
                  clear HB
                  have HO_7:=n0_
                  have HO_8:=n1_
                  have HO_10:=n2_
                  have HB:=n3_
                  clear n0_ n1_ n2_ n3_
                  obtain ⟨Ao35,co35,eo35⟩:=Kd.R_slice HO_8.out
                  (first|subst eo35|(injection eo35 with f1_ f2_ f3_;have f4_:=f1_.symm;have f5_:=f3_.symm;clear f1_ f2_ f3_;subst f4_;subst f5_))
                  have p376 : 0 ≤ (x14_3 : Int):=of_decide_eq_true (by first|(with_reducible assumption)|assumption)
                  have q376 : x14_3 < (x8_1.length : Int):=of_decide_eq_true (by first|(with_reducible assumption)|assumption)
                  obtain ⟨ad376,e376,hx376_0⟩:=Kd.at_int (Kd.R_reads' HO_8.out).2.2 x14_3 p376 q376
                  cases e376
                  replace p376:=eq_true p376
                  replace q376:=eq_true q376
                  obtain ⟨Ao36,co36,eo36⟩:=Kd.R_slice HO_7.out
                  (first|subst eo36|(injection eo36 with f1_ f2_ f3_;have f4_:=f1_.symm;have f5_:=f3_.symm;clear f1_ f2_ f3_;subst f4_;subst f5_))
                  have p377 : 0 ≤ (x13_3 : Int):=of_decide_eq_true (by first|(with_reducible assumption)|assumption)
                  have q377 : x13_3 < (t365.length : Int):=of_decide_eq_true (by first|(with_reducible assumption)|assumption)
                  obtain ⟨ad377,e377,hx377_0⟩:=Kd.at_int (Kd.R_reads' HO_7.out).2.2 x13_3 p377 q377
                  cases e377
                  replace p377:=eq_true p377
                  replace q377:=eq_true q377
                  refine start_ (n:=12) (S:=fun w' => w'.cell? (ad376.add (x14_3).toNat) = some (.int .i64 (rd x8_1 x14_3)) ∧ w'.cell? (ad377.add (x13_3).toNat) = some (.int .i64 (rd t365 x13_3))) (ds:=[]) #[false,false,false,false,false,false,false,false,false,false,false,false] (by kernel_rfl) rfl rfl ⟨hx376_0,hx377_0⟩ (fun hHeld => ?_);refine with_tabW madrigalref10_Forward.tab18 madrigalref10_Forward.bits18 (fun HT_ HW_ => ?_)
                  generalize wr.drew = w34 at HO_7 HO_8 HO_10 HB hx376_0 hx377_0 hHeld ⊢
                  refine pure_ (i:=0) (N:=some 65) (v:=?_) (a':=?_) #[true,false,false,false,false,false,false,false,false,false,false,false] rfl rfl (any_of HT_.out (by kernel_rfl)) (fun _ _ _ h => h) (Or.inl ⟨by rfl,?_⟩) ?_ ?_
                  rotate_left
                  ·intro w'
                   go_simp
                   with_reducible rfl
                  rotate_left
                  ·simp only [Act.put,List.setIfInBounds_toArray,List.set_cons_zero,List.set_cons_succ,i64_w,i32_w]
                   rfl
                  refine pure_ (i:=1) (N:=some 66) (v:=?_) (a':=?_) #[true,true,false,false,false,false,false,false,false,false,false,false] rfl rfl (any_of HT_.out (by kernel_rfl)) (fun _ _ _ h => h) (Or.inl ⟨by rfl,?_⟩) ?_ ?_
                  rotate_left
                  ·intro w'
                   go_simp
                   with_reducible rfl
                  rotate_left
                  ·simp only [Act.put,List.setIfInBounds_toArray,List.set_cons_zero,List.set_cons_succ,i64_w,i32_w]
                   rfl
                  refine pure_ (i:=2) (N:=some 67) (v:=?_) (a':=?_) #[true,true,true,false,false,false,false,false,false,false,false,false] rfl rfl (any_of HT_.out (by kernel_rfl)) (fun _ _ _ h => h) (Or.inl ⟨by rfl,?_⟩) ?_ ?_
                  rotate_left
                  ·intro w'
                   go_simp
                   with_reducible rfl
                  rotate_left
                  ·simp only [Act.put,List.setIfInBounds_toArray,List.set_cons_zero,List.set_cons_succ,i64_w,i32_w]
                   rfl
                  refine pure_ (i:=3) (N:=some 68) (v:=?_) (a':=?_) #[true,true,true,true,false,false,false,false,false,false,false,false] rfl rfl (any_of HT_.out (by kernel_rfl)) (fun _ _ _ h => h) (Or.inl ⟨by rfl,?_⟩) ?_ ?_
                  rotate_left
                  ·intro w'
                   go_simp
                   with_reducible rfl
                  rotate_left
                  ·simp only [Act.put,List.setIfInBounds_toArray,List.set_cons_zero,List.set_cons_succ,i64_w,i32_w]
                   rfl
                  refine pure_ (i:=5) (N:=some 70) (v:=?_) (a':=?_) #[true,true,true,true,false,true,false,false,false,false,false,false] rfl rfl (any_of HT_.out (by kernel_rfl)) (fun _ _ _ h => h) (Or.inl ⟨by rfl,?_⟩) ?_ ?_
                  rotate_left
                  ·intro w'
                   go_simp
                   with_reducible rfl
                  rotate_left
                  ·simp only [Act.put,List.setIfInBounds_toArray,List.set_cons_zero,List.set_cons_succ,i64_w,i32_w]
                   rfl
                  refine pure_ (i:=6) (N:=some 71) (v:=?_) (a':=?_) #[true,true,true,true,false,true,true,false,false,false,false,false] rfl rfl (any_of HT_.out (by kernel_rfl)) (fun _ _ _ h => h) (Or.inl ⟨by rfl,?_⟩) ?_ ?_
                  rotate_left
                  ·intro w'
                   go_simp
                   with_reducible rfl
                  rotate_left
                  ·simp only [Act.put,List.setIfInBounds_toArray,List.set_cons_zero,List.set_cons_succ,i64_w,i32_w]
                   rfl
                  refine pure_ (i:=7) (N:=some 72) (v:=?_) (a':=?_) #[true,true,true,true,false,true,true,true,false,false,false,false] rfl rfl (any_of HT_.out (by kernel_rfl)) (fun _ _ _ h => h) (Or.inl ⟨by rfl,?_⟩) ?_ ?_
                  rotate_left
                  ·intro w'
                   go_simp
                   with_reducible rfl
                  rotate_left
                  ·simp only [Act.put,List.setIfInBounds_toArray,List.set_cons_zero,List.set_cons_succ,i64_w,i32_w]
                   rfl
                  refine take_ (i:=4) (N:=some 69) (v:=?_) (a':=?_) #[true,true,true,true,true,true,true,true,false,false,false,false] rfl rfl (take_ofW HT_.out HW_.out (by kernel_rfl)) (fun _ _ _ h => h) (Or.inl ⟨by rfl,?_⟩) hHeld ?_ ?_
                  rotate_left
                  ·rintro w' ⟨s0,s1⟩
                   go_simp
                   with_reducible rfl
                  rotate_left
                  ·simp only [Act.put,List.setIfInBounds_toArray,List.set_cons_zero,List.set_cons_succ,i64_w,i32_w]
                   rfl
                  refine take_ (i:=8) (N:=some 73) (v:=?_) (a':=?_) #[true,true,true,true,true,true,true,true,true,false,false,false] rfl rfl (take_ofW HT_.out HW_.out (by kernel_rfl)) (fun _ _ _ h => h) (Or.inl ⟨by rfl,?_⟩) hHeld ?_ ?_
                  rotate_left
                  ·rintro w' ⟨s0,s1⟩
                   go_simp
                   with_reducible rfl
                  rotate_left
                  ·simp only [Act.put,List.setIfInBounds_toArray,List.set_cons_zero,List.set_cons_succ,i64_w,i32_w]
                   rfl
                  refine pure_ (i:=9) (N:=some 74) (v:=?_) (a':=?_) #[true,true,true,true,true,true,true,true,true,true,false,false] rfl rfl (any_of HT_.out (by kernel_rfl)) (fun _ _ _ h => h) (Or.inl ⟨by rfl,?_⟩) ?_ ?_
                  rotate_left
                  ·intro w'
                   go_simp
                   with_reducible rfl
                  rotate_left
                  ·simp only [Act.put,List.setIfInBounds_toArray,List.set_cons_zero,List.set_cons_succ,i64_w,i32_w]
                   rfl
                  refine pure_ (i:=10) (N:=some 75) (v:=?_) (a':=?_) #[true,true,true,true,true,true,true,true,true,true,true,false] rfl rfl (any_of HT_.out (by kernel_rfl)) (fun _ _ _ h => h) (Or.inl ⟨by rfl,?_⟩) ?_ ?_
                  rotate_left
                  ·intro w'
                   go_simp
                   with_reducible rfl
                  rotate_left
                  ·simp only [Act.put,List.setIfInBounds_toArray,List.set_cons_zero,List.set_cons_succ,i64_w,i32_w]
                   rfl
                  refine pure_ (i:=11) (N:=some 12) (v:=?_) (a':=?_) #[true,true,true,true,true,true,true,true,true,true,true,true] rfl rfl (any_of HT_.out (by kernel_rfl)) (fun _ _ _ h => h) (Or.inl ⟨by rfl,?_⟩) ?_ ?_
                  rotate_left
                  ·intro w'
                   go_simp
                   with_reducible rfl
                  rotate_left
                  ·simp only [Act.put,List.setIfInBounds_toArray,List.set_cons_zero,List.set_cons_succ,i64_w,i32_w]
                   rfl
                  refine done_ (done_of HT_.out (by kernel_rfl)) ?_
                  try go_wp2
                  go_roundg k3
                  case measure => have:=HK1.out;have:=HK2.out;have:=HK3.out;omega
                  case rel => exact ⟨(wrap64 (x12_3 + (wrap64 ((rd x8_1 x14_3) * (rd t365 x13_3))))),(wrap64 (x13_3 + (wrap64 (2 * (wrap64 ((wrap64 (2 * x11_2)) + 1)))))),(wrap64 (x14_3 + 1)),(by first|rfl|(simp;done)|(simp [*];done)),(by first|rfl|(simp;done)|(simp [*];done)),(by first|rfl|(simp;done)|(simp [*];done)),H',⟨by have:=HK1.out;have:=HK2.out;have:=HK3.out;omega⟩,⟨by (with_reducible repeat (first|apply ra_|apply rb_|apply rc_));exact HO_7.out⟩,⟨by (with_reducible repeat (first|apply ra_|apply rb_|apply rc_));exact HO_8.out⟩,⟨by (with_reducible repeat (first|apply ra_|apply rb_|apply rc_));exact HO_10.out⟩,⟨by repeat (first|(with_reducible first|exact HB.out|apply ba_|apply bb_|apply bc_)|exact HB.out)⟩⟩
                ·rw [if_neg c29] at H
                 exact absurd H (by simp)
               ·rw [if_neg c28] at H
                exact absurd H (by simp)
              ·rw [if_neg c27] at H
               exact absurd H (by simp)
             ·rw [if_neg c26] at H
              exact absurd H (by simp)
            ·rw [if_neg c25] at H
             have c25b0:=decide_eq_false c25
             (try rw [hji5] at c25b0)
             clear c25
             by_cases c37 : x10_2.length < 17592186044416
             ·rw [if_pos c37] at H
              have LMc37:=ak_ c37
              clear c37
              obtain ⟨y378,hy378⟩ : ∃ y_ : List Int,y_ = (x10_2 ++ [x12_3 / 32768]):=⟨_,rfl⟩
              replace H : (madrigalref10_Forward.l1 k3 (wrap64 ((l0.length : Int) / 2)) t365 x8_1 y378 (wrap64 (x11_2 + 1))) = some r:=by first|(rw [hy378];with_reducible exact H)|(have H2_:=(Option.bind_some _ _).symm.trans H;rw [hy378];with_reducible exact H2_)|(have H2_:=(Option.bind_some _ _).symm.trans H;with_reducible exact H2_)|with_reducible exact H|(rw [hy378];exact H)|exact H
              have Ny378:=ak_ hy378
              clear hy378
              have H':=ak_ H
              clear H
              go_wp2_with (first|((with_reducible refine gate_builtin (b:=.append) (xs:=#[.tmp 90,.tmp 93]) rfl ?_);at_builtin;refine Kd.R_append (Kd.int .i64) (w0:=w) w.heap.size rfl (.tmp 90) (.tmp 93) 23 2 (.int .i64 0) 8 rfl Try.underlying23 info2 rfl (by decide) (by omega) u10 x10_2 (x12_3 / 32768) [.int .i64 (x12_3 / 32768)] (fun k_ => some k_ ≠ (v366 : Value).ownBlock ∧ some k_ ≠ (v369 : Value).ownBlock) (fun _ => False) rfl rfl ?aP (fun _ hk => hk.elim) ?aF ?aO ?aB ?aS ?aL ?_;(case aP => exact rfl);(case aB => exact (by repeat (first|(with_reducible first|exact HB.out|apply ba_|apply bb_|apply bc_)|exact HB.out)));(case aF => exact (fun k_ hk => ⟨Kd.fresh' (Kd.R_lt (by (with_reducible repeat (first|apply ra_|apply rb_|apply rc_));exact HO_7.out)) k_ hk,Kd.fresh' (Kd.R_lt (by (with_reducible repeat (first|apply ra_|apply rb_|apply rc_));exact HO_8.out)) k_ hk⟩));(case aO => exact (by (with_reducible repeat (first|apply ra_|apply rb_|apply rc_));exact HO_10.out));(case aS => exact (below_size (by repeat (first|(with_reducible first|exact HB.out|apply ba_|apply bb_|apply bc_)|exact HB.out))));(case aL => have:=LMc37.out;omega);intro v379 w38 ho hb hg hat;rw [← Ny378.out] at ho;have n0_:=ak_ (Kd.R_after (ok:=(fun k_ => some k_ ≠ (v369 : Value).ownBlock)) (by (with_reducible repeat (first|apply ra_|apply rb_|apply rc_));exact HO_7.out) hg hat);have n1_:=ak_ (Kd.R_after (ok:=(fun k_ => some k_ ≠ (v366 : Value).ownBlock)) (by (with_reducible repeat (first|apply ra_|apply rb_|apply rc_));exact HO_8.out) hg hat);have n2_:=ak_ (hb);have n3_:=ak_ (ho);clear HO_7;clear HO_8;clear HB;clear HO_10;have HO_7:=n0_;have HO_8:=n1_;have HB:=n2_;have HO380:=n3_;clear n0_ n1_ n2_ n3_;clear ho hb hg hat))
              go_roundg k3
              case measure => have:=HK1.out;have:=HK2.out;have:=HK3.out;omega
              case rel => exact ⟨(y378),(wrap64 (x11_2 + 1)),(by first|rfl|(simp;done)|(simp [*];done)),H',⟨by have:=HK1.out;have:=HK2.out;have:=HK3.out;omega⟩,⟨by (with_reducible repeat (first|apply ra_|apply rb_|apply rc_));exact HO_7.out⟩,⟨by (with_reducible repeat (first|apply ra_|apply rb_|apply rc_));exact HO_8.out⟩,⟨by (with_reducible repeat (first|apply ra_|apply rb_|apply rc_));exact HO380.out⟩,⟨by repeat (first|(with_reducible first|exact HB.out|apply ba_|apply bb_|apply bc_)|exact HB.out)⟩⟩
             ·rw [if_neg c37] at H
              exact absurd H (by simp)
        ·rw [if_neg c23] at H
         have c23b0:=decide_eq_false c23
         clear c23
         obtain rfl:=Option.some.inj H
         go_wp2
         go_ret
         exact ⟨_,by first|rfl|(simp [errW_none,errW_some] <;> rfl)|(simp only [← hji5];first|rfl|(simp [errW_none,errW_some] <;> rfl))|(simp [*,errW_none,errW_some] <;> rfl),by (with_reducible repeat (first|apply ra_|apply rb_|apply rc_));exact Kd.R_mono HO_10.out (fun _ hk => trivial),by repeat (first|(with_reducible first|exact HB.out|apply ba_|apply bb_|apply bc_)|exact HB.out)⟩
  ·rw [if_neg c7] at H
   exact absurd H (by simp)
 ·rw [if_neg c6] at H
  exact absurd H (by simp)

end Go.Proofs.Ytlmacbiahofmcaa.P
