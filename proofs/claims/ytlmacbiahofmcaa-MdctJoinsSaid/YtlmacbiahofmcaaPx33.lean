/- The machine side of the laws of one chapter, without conditions: each call of a Go function comes to what the Lean function of its name answers. Written for this claim by a program of the prover. -/
import Derived.Test.YtlmacbiahofmcaaPx0
import Derived.Test.YtlmacbiahofmcaaPx23
import Derived.Test.YtlmacbiahofmcaaPx24
import Derived.Test.YtlmacbiahofmcaaPx29
import Derived.Test.YtlmacbiahofmcaaPx30
import Derived.Test.YtlmacbiahofmcaaPx32
namespace Go.Proofs.Ytlmacbiahofmcaa.P
open Go.RowKit Go.Proofs.YtlmacbiahofmcaaW.PrintWords Go.Proofs.YtlmacbiahofmcaaW.PrintLast Go.Proofs.YtlmacbiahofmcaaW.PrintMore
attribute [local go_sem] max2_int min2_int max_two min_two max_three min_three max_four min_four   -- for this text's walks alone
set_option linter.unusedVariables false
set_option linter.unusedSimpArgs false

/-! ### madrigalref10_Inverse: function 20 -/
mutual
def madrigalref10_Inverse.l0 : Nat → List Int → Int → List Int → List Int → List Int → Int → Option (List Int)
 | 0,_,_,_,_,_,_ => none
 | k + 1,x0,x5,x6,x7,x9,x10 => if x10 < x5 then (if 0 ≤ x10 then (if x10 < (x0.length : Int) then ((madrigalref1_Clamp.f k (rd x0 x10) (-17179869184) 17179869184).bind fun t391 => (if x10 < (x9.length : Int) then (madrigalref10_Inverse.l0 k x0 x5 x6 x7 (x9.set (x10 : Int).toNat t391) (wrap64 (x10 + 1))) else (none))) else (none)) else (none)) else (madrigalref10_Inverse.l1 k x5 x6 x7 ([] : List Int) x9 0)
def madrigalref10_Inverse.l1 : Nat → Int → List Int → List Int → List Int → List Int → Int → Option (List Int)
 | 0,_,_,_,_,_,_ => none
 | k + 1,x5,x6,x7,x8,x9,x11 => if x11 < (wrap64 (2 * x5)) then (if (wrap64 (8 * x5)) = 0 then (none) else (madrigalref10_Inverse.l2 k x5 x6 x7 x8 x9 x11 0 (Int.tmod (wrap64 ((wrap64 ((wrap64 (2 * x11)) + 1)) + x5)) (wrap64 (8 * x5))) (Int.tmod (wrap64 (2 * (wrap64 ((wrap64 ((wrap64 (2 * x11)) + 1)) + x5)))) (wrap64 (8 * x5))) 0)) else (some x8)
def madrigalref10_Inverse.l2 : Nat → Int → List Int → List Int → List Int → List Int → Int → Int → Int → Int → Int → Option (List Int)
 | 0,_,_,_,_,_,_,_,_,_,_ => none
 | k + 1,x5,x6,x7,x8,x9,x11,x12,x13,x14,x15 => if x15 < x5 then (if 0 ≤ x15 then (if x15 < (x9.length : Int) then (if 0 ≤ x13 then (if x13 < (x7.length : Int) then (if (wrap64 (x13 + x14)) ≥ (wrap64 (8 * x5)) then (madrigalref10_Inverse.l2 k x5 x6 x7 x8 x9 x11 (wrap64 (x12 + (wrap64 ((rd x9 x15) * (rd x7 x13))))) (wrap64 ((wrap64 (x13 + x14)) - (wrap64 (8 * x5)))) x14 (wrap64 (x15 + 1))) else (madrigalref10_Inverse.l2 k x5 x6 x7 x8 x9 x11 (wrap64 (x12 + (wrap64 ((rd x9 x15) * (rd x7 x13))))) (wrap64 (x13 + x14)) x14 (wrap64 (x15 + 1)))) else (none)) else (none)) else (none)) else (none)) else ((madrigalref1_Down.f (wrap64 ((wrap64 (2 * x12)) + (wrap64 (x5 * 16384)))) (wrap64 (x5 * 32768))).bind fun t395 => ((madrigalref10_keep.f k t395).bind fun t396 => (if 0 ≤ x11 then (if x11 < (x6.length : Int) then ((madrigalref1_Mul.f k (rd x6 x11) t396 15).bind fun t398 => (if x8.length < 17592186044416 then (madrigalref10_Inverse.l1 k x5 x6 x7 (x8 ++ [t398]) x9 (wrap64 (x11 + 1))) else (none))) else (none)) else (none))))
end
def madrigalref10_Inverse.f (k : Nat) (l0 : List Int) (a1 : Int) : Option (List Int):=(madrigalref10_Shape.f k (l0.length : Int) a1).bind fun t381 => ((madrigalref10_table.f k (l0.length : Int)).bind fun t384 => (if 0 ≤ (l0.length : Int) then (if ((l0.length : Int) : Int).toNat ≤ 35184372088832 then (madrigalref10_Inverse.l0 k l0 (l0.length : Int) t381 t384 (List.replicate ((l0.length : Int) : Int).toNat 0) 0) else (none)) else (none)))
theorem madrigalref10_Inverse.mono_l : ∀ k,(∀ y0 y1 y2 y3 y4 y5,LeO (madrigalref10_Inverse.l0 k y0 y1 y2 y3 y4 y5) (madrigalref10_Inverse.l0 (k + 1) y0 y1 y2 y3 y4 y5)) ∧ (∀ y0 y1 y2 y3 y4 y5,LeO (madrigalref10_Inverse.l1 k y0 y1 y2 y3 y4 y5) (madrigalref10_Inverse.l1 (k + 1) y0 y1 y2 y3 y4 y5)) ∧ (∀ y0 y1 y2 y3 y4 y5 y6 y7 y8 y9,LeO (madrigalref10_Inverse.l2 k y0 y1 y2 y3 y4 y5 y6 y7 y8 y9) (madrigalref10_Inverse.l2 (k + 1) y0 y1 y2 y3 y4 y5 y6 y7 y8 y9))
 | 0 => ⟨fun _ _ _ _ _ _ r h => by simp [madrigalref10_Inverse.l0] at h,fun _ _ _ _ _ _ r h => by simp [madrigalref10_Inverse.l1] at h,fun _ _ _ _ _ _ _ _ _ _ r h => by simp [madrigalref10_Inverse.l2] at h⟩
 | k + 1 => by
  obtain ⟨ih0,ih1,ih2⟩:=madrigalref10_Inverse.mono_l k
  refine ⟨?_,?_,?_⟩
  all_goals (intros;first|unfold madrigalref10_Inverse.l0|unfold madrigalref10_Inverse.l1|unfold madrigalref10_Inverse.l2)
  all_goals (repeat' first|(with_reducible first|exact ih0 _ _ _ _ _ _|exact ih1 _ _ _ _ _ _|exact ih2 _ _ _ _ _ _ _ _ _ _|exact madrigalref10_Shape.mono _ _ _|exact madrigalref10_keep.mono _ _|exact madrigalref10_table.mono _ _|exact madrigalref1_Clamp.mono _ _ _ _|exact madrigalref1_Mul.mono _ _ _ _|exact LeO.refl _|exact LeO.none _|refine LeO.ite ?_ ?_|refine LeO.bind ?_ (fun _ => ?_))|exact ih0 _ _ _ _ _ _|exact ih1 _ _ _ _ _ _|exact ih2 _ _ _ _ _ _ _ _ _ _|exact madrigalref10_Shape.mono _ _ _|exact madrigalref10_keep.mono _ _|exact madrigalref10_table.mono _ _|exact madrigalref1_Clamp.mono _ _ _ _|exact madrigalref1_Mul.mono _ _ _ _|exact LeO.none _|refine LeO.ite ?_ ?_|refine LeO.bind ?_ (fun _ => ?_))
theorem madrigalref10_Inverse.mono : ∀ a0 a1 k,LeO (madrigalref10_Inverse.f k a0 a1) (madrigalref10_Inverse.f (k + 1) a0 a1):=by
 intro a0 a1 k
 obtain ⟨ih0,ih1,ih2⟩:=madrigalref10_Inverse.mono_l k
 unfold madrigalref10_Inverse.f
 repeat' first|(with_reducible first|exact ih0 _ _ _ _ _ _|exact ih1 _ _ _ _ _ _|exact ih2 _ _ _ _ _ _ _ _ _ _|exact madrigalref10_Shape.mono _ _ _|exact madrigalref10_keep.mono _ _|exact madrigalref10_table.mono _ _|exact madrigalref1_Clamp.mono _ _ _ _|exact madrigalref1_Mul.mono _ _ _ _|exact LeO.refl _|exact LeO.none _|refine LeO.ite ?_ ?_|refine LeO.bind ?_ (fun _ => ?_))|exact ih0 _ _ _ _ _ _|exact ih1 _ _ _ _ _ _|exact ih2 _ _ _ _ _ _ _ _ _ _|exact madrigalref10_Shape.mono _ _ _|exact madrigalref10_keep.mono _ _|exact madrigalref10_table.mono _ _|exact madrigalref1_Clamp.mono _ _ _ _|exact madrigalref1_Mul.mono _ _ _ _|exact LeO.none _|refine LeO.ite ?_ ?_|refine LeO.bind ?_ (fun _ => ?_)
set_option maxHeartbeats 8000000 in
set_option maxRecDepth 100000 in
theorem madrigalref10_Inverse.calls (k : Nat) (A0 : Option Addr) (c0 : Nat) (l0 : List Int) (a1 : Int) (r : List Int) (w : World) (hr0 : Kd.C (Kd.int .i64) w A0 l0.length l0) (hc0 : l0.length ≤ c0) (h : madrigalref10_Inverse.f k l0 a1 = some r) :
  Calls Try.prog 20 #[.slice A0 l0.length c0,.int .i64 a1] w fun e w' => ∃ v0_ : Value,e = .returned (v0_) ∧ Kd.R (Kd.int .i64) 2 w' w.heap.size (fun _ => True) v0_ r ∧ Below w.heap.size w w':=by
 have HR0:=ak_ hr0
 have HC0:=ak_ hc0
 clear hr0 hc0
 have HB:=ak_ (Below.refl w.heap.size w)
 have H : ((madrigalref10_Shape.f k (l0.length : Int) a1).bind fun t381 => ((madrigalref10_table.f k (l0.length : Int)).bind fun t384 => (if 0 ≤ (l0.length : Int) then (if ((l0.length : Int) : Int).toNat ≤ 35184372088832 then (madrigalref10_Inverse.l0 k l0 (l0.length : Int) t381 t384 (List.replicate ((l0.length : Int) : Int).toNat 0) 0) else (none)) else (none)))) = some r:=h
 clear h
 replace H:=Option.bind_eq_some_iff.mp H
 obtain ⟨t381,A30,H⟩:=H
 (try dsimp only at H)
 have A3:=ak_ A30
 clear A30
 replace H:=Option.bind_eq_some_iff.mp H
 obtain ⟨t384,A40,H⟩:=H
 (try dsimp only at H)
 have A4:=ak_ A40
 clear A40
 by_cases c5 : 0 ≤ (l0.length : Int)
 ·rw [if_pos c5] at H
  have c5b0:=eq_true c5
  have c5b1 : decide (0 ≤ (l0.length : Int)) = true:=decide_eq_true c5
  clear c5
  by_cases c6 : ((l0.length : Int) : Int).toNat ≤ 35184372088832
  ·rw [if_pos c6] at H
   have c6b0:=eq_true c6
   have c6b1 : decide (((l0.length : Int) : Int).toNat ≤ 35184372088832) = true:=decide_eq_true c6
   clear c6
   obtain ⟨y387,hy387⟩ : ∃ y_ : List Int,y_ = (List.replicate ((l0.length : Int) : Int).toNat 0):=⟨_,rfl⟩
   replace H : (madrigalref10_Inverse.l0 k l0 (l0.length : Int) t381 t384 y387 0) = some r:=by first|(rw [hy387];with_reducible exact H)|(have H2_:=(Option.bind_some _ _).symm.trans H;rw [hy387];with_reducible exact H2_)|(have H2_:=(Option.bind_some _ _).symm.trans H;with_reducible exact H2_)|with_reducible exact H|(rw [hy387];exact H)|exact H
   have Ny387:=ak_ hy387
   clear hy387
   have H':=ak_ H
   clear H
   go_enter Try.func20,Try.ntmps20
   go_wp2_with (first|(go_at_call 18;(with_reducible refine (madrigalref10_Shape.calls k (l0.length : Int) a1 t381 _ A3.out).mono ?_);rintro e w7 ⟨v382,rfl,ho0,hb⟩;have n0_:=ak_ (Kd.R_lower ho0 (below_size (by repeat (first|(with_reducible first|exact HB.out|apply ba_|apply bb_|apply bc_)|exact HB.out))));have n1_:=ak_ (below_step (by repeat (first|(with_reducible first|exact HB.out|apply ba_|apply bb_|apply bc_)|exact HB.out)) hb);clear HB;have HO383:=n0_;have HB:=n1_;clear n0_ n1_;(try clear hb);(try clear ho0))|(go_at_call 32;(with_reducible refine (madrigalref10_table.calls k (l0.length : Int) t384 _ A4.out).mono ?_);rintro e w8 ⟨v385,rfl,ho0,hb⟩;have n0_:=ak_ (Kd.R_elder' (by (with_reducible repeat (first|apply ra_|apply rb_|apply rc_));exact HO383.out) (Kd.R_base ho0) hb);have n1_:=ak_ (Kd.R_lower (Kd.R_new' ho0 (Kd.R_lt (by (with_reducible repeat (first|apply ra_|apply rb_|apply rc_));exact HO383.out))) (below_size (by repeat (first|(with_reducible first|exact HB.out|apply ba_|apply bb_|apply bc_)|exact HB.out))));have n2_:=ak_ (below_step (by repeat (first|(with_reducible first|exact HB.out|apply ba_|apply bb_|apply bc_)|exact HB.out)) hb);clear HO383;clear HB;have HO383:=n0_;have HO386:=n1_;have HB:=n2_;clear n0_ n1_ n2_;(try clear hb);(try clear ho0))|((with_reducible refine gate_dst (N:=25) rfl ?_);refine Kd.R_make (Kd.int .i64) _ 2 rfl (N:=25) rfl 23 _ _ rfl (l0.length : Int) rfl rfl Try.underlying23 (.int .i64 0) 8 info2 rfl (by decide) (by omega) 0 (ok:=fun _ => True) (okp:=fun _ => True) rfl (fun _ hk => hk) trivial (of_decide_eq_true (by first|(with_reducible assumption)|assumption)) (Nat.le_trans (Nat.mul_le_mul_right _ (of_decide_eq_true (by first|(with_reducible assumption)|assumption) : (l0.length : Int).toNat ≤ 35184372088832)) (by omega)) (Below.refl _ _) (Nat.le_refl _) ?_;intro v388 w9 ho10 hb hg_ hnew_;clear hg_ hnew_;(first|rw [← Ny387.out] at ho10|(simp only [Int.reduceToNat] at ho10;rw [← Ny387.out] at ho10));have n0_:=ak_ (Kd.R_elder' (by (with_reducible repeat (first|apply ra_|apply rb_|apply rc_));exact HO383.out) (Kd.R_base ho10) hb);have n1_:=ak_ (Kd.R_elder' (by (with_reducible repeat (first|apply ra_|apply rb_|apply rc_));exact HO386.out) (Kd.R_base ho10) hb);have n2_:=ak_ (Kd.R_lower (Kd.R_new' (Kd.R_new' ho10 (Kd.R_lt (by (with_reducible repeat (first|apply ra_|apply rb_|apply rc_));exact HO383.out))) (Kd.R_lt (by (with_reducible repeat (first|apply ra_|apply rb_|apply rc_));exact HO386.out))) (below_size (by repeat (first|(with_reducible first|exact HB.out|apply ba_|apply bb_|apply bc_)|exact HB.out))));have n3_:=ak_ (below_step (by repeat (first|(with_reducible first|exact HB.out|apply ba_|apply bb_|apply bc_)|exact HB.out)) hb);clear HO383;clear HO386;clear HB;have HO383:=n0_;have HO386:=n1_;have HO389:=n2_;have HB:=n3_;clear n0_ n1_ n2_ n3_;clear hb ho10))
   repeat (go_quiet (first|(go_at_call 18;(with_reducible refine (madrigalref10_Shape.calls k (l0.length : Int) a1 t381 _ A3.out).mono ?_);rintro e w7 ⟨v382,rfl,ho0,hb⟩;have n0_:=ak_ (Kd.R_lower ho0 (below_size (by repeat (first|(with_reducible first|exact HB.out|apply ba_|apply bb_|apply bc_)|exact HB.out))));have n1_:=ak_ (below_step (by repeat (first|(with_reducible first|exact HB.out|apply ba_|apply bb_|apply bc_)|exact HB.out)) hb);clear HB;have HO383:=n0_;have HB:=n1_;clear n0_ n1_;(try clear hb);(try clear ho0))|(go_at_call 32;(with_reducible refine (madrigalref10_table.calls k (l0.length : Int) t384 _ A4.out).mono ?_);rintro e w8 ⟨v385,rfl,ho0,hb⟩;have n0_:=ak_ (Kd.R_elder' (by (with_reducible repeat (first|apply ra_|apply rb_|apply rc_));exact HO383.out) (Kd.R_base ho0) hb);have n1_:=ak_ (Kd.R_lower (Kd.R_new' ho0 (Kd.R_lt (by (with_reducible repeat (first|apply ra_|apply rb_|apply rc_));exact HO383.out))) (below_size (by repeat (first|(with_reducible first|exact HB.out|apply ba_|apply bb_|apply bc_)|exact HB.out))));have n2_:=ak_ (below_step (by repeat (first|(with_reducible first|exact HB.out|apply ba_|apply bb_|apply bc_)|exact HB.out)) hb);clear HO383;clear HB;have HO383:=n0_;have HO386:=n1_;have HB:=n2_;clear n0_ n1_ n2_;(try clear hb);(try clear ho0))|((with_reducible refine gate_dst (N:=25) rfl ?_);refine Kd.R_make (Kd.int .i64) _ 2 rfl (N:=25) rfl 23 _ _ rfl (l0.length : Int) rfl rfl Try.underlying23 (.int .i64 0) 8 info2 rfl (by decide) (by omega) 0 (ok:=fun _ => True) (okp:=fun _ => True) rfl (fun _ hk => hk) trivial (of_decide_eq_true (by first|(with_reducible assumption)|assumption)) (Nat.le_trans (Nat.mul_le_mul_right _ (of_decide_eq_true (by first|(with_reducible assumption)|assumption) : (l0.length : Int).toNat ≤ 35184372088832)) (by omega)) (Below.refl _ _) (Nat.le_refl _) ?_;intro v388 w9 ho10 hb hg_ hnew_;clear hg_ hnew_;(first|rw [← Ny387.out] at ho10|(simp only [Int.reduceToNat] at ho10;rw [← Ny387.out] at ho10));have n0_:=ak_ (Kd.R_elder' (by (with_reducible repeat (first|apply ra_|apply rb_|apply rc_));exact HO383.out) (Kd.R_base ho10) hb);have n1_:=ak_ (Kd.R_elder' (by (with_reducible repeat (first|apply ra_|apply rb_|apply rc_));exact HO386.out) (Kd.R_base ho10) hb);have n2_:=ak_ (Kd.R_lower (Kd.R_new' (Kd.R_new' ho10 (Kd.R_lt (by (with_reducible repeat (first|apply ra_|apply rb_|apply rc_));exact HO383.out))) (Kd.R_lt (by (with_reducible repeat (first|apply ra_|apply rb_|apply rc_));exact HO386.out))) (below_size (by repeat (first|(with_reducible first|exact HB.out|apply ba_|apply bb_|apply bc_)|exact HB.out))));have n3_:=ak_ (below_step (by repeat (first|(with_reducible first|exact HB.out|apply ba_|apply bb_|apply bc_)|exact HB.out)) hb);clear HO383;clear HO386;clear HB;have HO383:=n0_;have HO386:=n1_;have HO389:=n2_;have HB:=n3_;clear n0_ n1_ n2_ n3_;clear hb ho10));try go_wp2_with (first|(go_at_call 18;(with_reducible refine (madrigalref10_Shape.calls k (l0.length : Int) a1 t381 _ A3.out).mono ?_);rintro e w7 ⟨v382,rfl,ho0,hb⟩;have n0_:=ak_ (Kd.R_lower ho0 (below_size (by repeat (first|(with_reducible first|exact HB.out|apply ba_|apply bb_|apply bc_)|exact HB.out))));have n1_:=ak_ (below_step (by repeat (first|(with_reducible first|exact HB.out|apply ba_|apply bb_|apply bc_)|exact HB.out)) hb);clear HB;have HO383:=n0_;have HB:=n1_;clear n0_ n1_;(try clear hb);(try clear ho0))|(go_at_call 32;(with_reducible refine (madrigalref10_table.calls k (l0.length : Int) t384 _ A4.out).mono ?_);rintro e w8 ⟨v385,rfl,ho0,hb⟩;have n0_:=ak_ (Kd.R_elder' (by (with_reducible repeat (first|apply ra_|apply rb_|apply rc_));exact HO383.out) (Kd.R_base ho0) hb);have n1_:=ak_ (Kd.R_lower (Kd.R_new' ho0 (Kd.R_lt (by (with_reducible repeat (first|apply ra_|apply rb_|apply rc_));exact HO383.out))) (below_size (by repeat (first|(with_reducible first|exact HB.out|apply ba_|apply bb_|apply bc_)|exact HB.out))));have n2_:=ak_ (below_step (by repeat (first|(with_reducible first|exact HB.out|apply ba_|apply bb_|apply bc_)|exact HB.out)) hb);clear HO383;clear HB;have HO383:=n0_;have HO386:=n1_;have HB:=n2_;clear n0_ n1_ n2_;(try clear hb);(try clear ho0))|((with_reducible refine gate_dst (N:=25) rfl ?_);refine Kd.R_make (Kd.int .i64) _ 2 rfl (N:=25) rfl 23 _ _ rfl (l0.length : Int) rfl rfl Try.underlying23 (.int .i64 0) 8 info2 rfl (by decide) (by omega) 0 (ok:=fun _ => True) (okp:=fun _ => True) rfl (fun _ hk => hk) trivial (of_decide_eq_true (by first|(with_reducible assumption)|assumption)) (Nat.le_trans (Nat.mul_le_mul_right _ (of_decide_eq_true (by first|(with_reducible assumption)|assumption) : (l0.length : Int).toNat ≤ 35184372088832)) (by omega)) (Below.refl _ _) (Nat.le_refl _) ?_;intro v388 w9 ho10 hb hg_ hnew_;clear hg_ hnew_;(first|rw [← Ny387.out] at ho10|(simp only [Int.reduceToNat] at ho10;rw [← Ny387.out] at ho10));have n0_:=ak_ (Kd.R_elder' (by (with_reducible repeat (first|apply ra_|apply rb_|apply rc_));exact HO383.out) (Kd.R_base ho10) hb);have n1_:=ak_ (Kd.R_elder' (by (with_reducible repeat (first|apply ra_|apply rb_|apply rc_));exact HO386.out) (Kd.R_base ho10) hb);have n2_:=ak_ (Kd.R_lower (Kd.R_new' (Kd.R_new' ho10 (Kd.R_lt (by (with_reducible repeat (first|apply ra_|apply rb_|apply rc_));exact HO383.out))) (Kd.R_lt (by (with_reducible repeat (first|apply ra_|apply rb_|apply rc_));exact HO386.out))) (below_size (by repeat (first|(with_reducible first|exact HB.out|apply ba_|apply bb_|apply bc_)|exact HB.out))));have n3_:=ak_ (below_step (by repeat (first|(with_reducible first|exact HB.out|apply ba_|apply bb_|apply bc_)|exact HB.out)) hb);clear HO383;clear HO386;clear HB;have HO383:=n0_;have HO386:=n1_;have HO389:=n2_;have HB:=n3_;clear n0_ n1_ n2_ n3_;clear hb ho10)))
   go_loopg [10] k (fun kq v10 w' => ∃ (x9_1 : List Int) (x10_1 : Int),v10 = .int .i64 x10_1 ∧ Aside0 (madrigalref10_Inverse.l0 kq l0 (l0.length : Int) t381 t384 x9_1 x10_1 = some r) ∧ Aside0 (kq ≤ k) ∧ Aside0 (Kd.R (Kd.int .i64) 2 w' w.heap.size (fun k_ => some k_ ≠ (v385 : Value).ownBlock ∧ some k_ ≠ (v388 : Value).ownBlock) v382 t381) ∧ Aside0 (Kd.R (Kd.int .i64) 2 w' w.heap.size (fun k_ => some k_ ≠ (v382 : Value).ownBlock ∧ some k_ ≠ (v388 : Value).ownBlock) v385 t384) ∧ Aside0 (Kd.R (Kd.int .i64) 2 w' w.heap.size (fun k_ => some k_ ≠ (v382 : Value).ownBlock ∧ some k_ ≠ (v385 : Value).ownBlock) v388 x9_1) ∧ Aside0 (Below w.heap.size w w'))
   case atStart => exact ⟨(y387),(0),(by first|rfl|(simp;done)|(simp [*];done)),H',⟨Nat.le_refl _⟩,⟨by (with_reducible repeat (first|apply ra_|apply rb_|apply rc_));exact Kd.R_mono HO383.out (fun _ hk => ⟨hk.1.2,hk.2⟩)⟩,⟨by (with_reducible repeat (first|apply ra_|apply rb_|apply rc_));exact Kd.R_mono HO386.out (fun _ hk => ⟨hk.1.2,hk.2⟩)⟩,⟨by (with_reducible repeat (first|apply ra_|apply rb_|apply rc_));exact Kd.R_mono HO389.out (fun _ hk => ⟨hk.1.2,hk.2⟩)⟩,⟨by repeat (first|(with_reducible first|exact HB.out|apply ba_|apply bb_|apply bc_)|exact HB.out)⟩⟩
   case round =>
    clear H'
    try clear c2
    try clear p2
    try clear c5
    try clear c5b0
    try clear c5b1
    try clear c6
    try clear c6b0
    try clear c6b1
    obtain ⟨x9_1,x10_1,rfl,HA,HK1,HO_6,HO_7,HO_9,HB⟩:=hrel
    (try simp only [i64_w,i32_w])
    cases gk with
    | zero => exact absurd HA.out (by simp [madrigalref10_Inverse.l0])
    | succ k1 =>
     have H:=HA.out
     clear HA
     simp only [madrigalref10_Inverse.l0] at H
     by_cases c11 : x10_1 < (l0.length : Int)
     ·rw [if_pos c11] at H
      have c11b0:=decide_eq_true c11
      clear c11
      by_cases c12 : 0 ≤ x10_1
      ·rw [if_pos c12] at H
       have c12b0:=decide_eq_true c12
       clear c12
       by_cases c13 : x10_1 < (l0.length : Int)
       ·rw [if_pos c13] at H
        have c13b0:=decide_eq_true c13
        clear c13
        replace H:=Option.bind_eq_some_iff.mp H
        obtain ⟨t391,A140,H⟩:=H
        (try dsimp only at H)
        have A14:=ak_ A140
        clear A140
        by_cases c15 : x10_1 < (x9_1.length : Int)
        ·rw [if_pos c15] at H
         have c15b0:=decide_eq_true c15
         clear c15
         obtain ⟨y392,hy392⟩ : ∃ y_ : List Int,y_ = (x9_1.set (x10_1 : Int).toNat t391):=⟨_,rfl⟩
         replace H : (madrigalref10_Inverse.l0 k1 l0 (l0.length : Int) t381 t384 y392 (wrap64 (x10_1 + 1))) = some r:=by first|(rw [hy392];with_reducible exact H)|(have H2_:=(Option.bind_some _ _).symm.trans H;rw [hy392];with_reducible exact H2_)|(have H2_:=(Option.bind_some _ _).symm.trans H;with_reducible exact H2_)|with_reducible exact H|(rw [hy392];exact H)|exact H
         have Ny392:=ak_ hy392
         clear hy392
         have H':=ak_ H
         clear H
         have p390 : 0 ≤ (x10_1 : Int):=of_decide_eq_true (by first|(with_reducible assumption)|assumption)
         have q390 : x10_1 < (l0.length : Int):=of_decide_eq_true (by first|(with_reducible assumption)|assumption)
         obtain ⟨ad390,e390,hx390_0⟩:=Kd.at_int HR0.out x10_1 p390 q390
         cases e390
         replace hx390_0:=(HB.out.cell (World.block_lt_of_cell? w _ hx390_0)).trans hx390_0
         replace p390:=eq_true p390
         replace q390:=eq_true q390
         go_wp2_with (first|(go_at_call 35;(with_reducible refine (madrigalref1_Clamp.calls k1 (rd l0 x10_1) (-17179869184) 17179869184 t391 _ A14.out).mono ?_);rintro e w' ⟨rfl,⟨nd,rfl⟩⟩;(try first|exact ⟨rfl,_,World.drewN_drewN _ _ _⟩|exact ⟨rfl,_,Eq.trans (World.drewN_drewN _ _ _) (congrArg (World.drewN _) (Nat.add_assoc _ _ _))⟩);have p16 : 0 ≤ (x10_1 : Int):=of_decide_eq_true (by first|(with_reducible assumption)|assumption);have q16 : (x10_1 : Int) < ((x9_1.length : Int) : Int):=of_decide_eq_true (by first|(with_reducible assumption)|assumption);obtain ⟨go16,co16,eo16,gb16,gl16,cl16,HG16⟩:=Kd.R_form HO_9.out (by omega);(first|cases eo16|(injection eo16 with ea_ en_ ec_;(first|subst ea_|(injection ea_ with ea_;subst ea_));subst ec_;clear en_));have GB16:=ak_ gb16;have GG16:=ak_ HG16;clear gb16 gl16 HG16;obtain ⟨hx16_0,hf16_0⟩:=Kd.R_celln 0 HO_9.out (x10_1 : Int) p16 q16;replace p16:=eq_true p16;replace q16:=eq_true q16;obtain ⟨hy17_,hz17_⟩:=Kd.R_celln 0 HO_9.out (x10_1 : Int) (of_decide_eq_true (by first|(with_reducible assumption)|assumption)) (of_decide_eq_true (by first|(with_reducible assumption)|assumption));have HP17:=Kd.R_putg HO_9.out (x10_1 : Int) t391)|((with_reducible refine gate_store (t:=2) (p:=38) rfl ?_);(try (rw [drewN_self wr];generalize hq_ : World.drewN wr _ = wr;have n0_:=ak_ (Kd.R_at hq_ HO_6.out);have n1_:=ak_ (Kd.R_at hq_ HO_7.out);have n2_:=ak_ (Kd.R_at hq_ HO_9.out);have n3_:=ak_ (below_at hq_ HB.out);clear hq_ HO_6 HO_7 HO_9 HB;have HO_6:=n0_;have HO_7:=n1_;have HO_9:=n2_;have HB:=n3_;clear n0_ n1_ n2_ n3_;(try (obtain ⟨hy17_,hz17_⟩:=Kd.R_celln 0 HO_9.out (x10_1 : Int) (of_decide_eq_true (by first|(with_reducible assumption)|assumption)) (of_decide_eq_true (by first|(with_reducible assumption)|assumption))));(try (have HP17:=Kd.R_putg HO_9.out (x10_1 : Int) t391))));refine store_event (t:=2) (p:=38) (v:=?vo_w18) (w1:=(wr.setCell ⟨go16,(x10_1 : Int).toNat,none⟩ (.int .i64 t391))) ?hg ?ho ?hn ?hr ?_;(case ho => rfl);(case hg => rfl);(case hn => rfl);(case hr => first|(go_simp;done)|(go_simp;rfl));intro w18 hw;have hg : wr.grownBy w18 (some go16):=(by rw [hw];exact HP17.2);have hp_ : Kd.R (Kd.int .i64) 2 w18 w.heap.size (fun k_ => some k_ ≠ (v382 : Value).ownBlock ∧ some k_ ≠ (v385 : Value).ownBlock) (.slice (some ⟨go16,0,none⟩) x9_1.length co16) y392:=(by rw [hw,Ny392.out];exact HP17.1);clear HP17;have n0_:=ak_ (Kd.R_after (v:=(.slice (some ⟨go16,0,none⟩) x9_1.length co16)) (v1:=(.slice (some ⟨go16,0,none⟩) x9_1.length co16)) (ok:=(fun k_ => some k_ ≠ (v385 : Value).ownBlock)) (by (with_reducible repeat (first|apply ra_|apply rb_|apply rc_));exact HO_6.out) hg (.inl rfl));have n1_:=ak_ (Kd.R_after (v:=(.slice (some ⟨go16,0,none⟩) x9_1.length co16)) (v1:=(.slice (some ⟨go16,0,none⟩) x9_1.length co16)) (ok:=(fun k_ => some k_ ≠ (v382 : Value).ownBlock)) (by (with_reducible repeat (first|apply ra_|apply rb_|apply rc_));exact HO_7.out) hg (.inl rfl));have n2_:=ak_ (hp_);have n3_:=ak_ ((by rw [hw];exact below_set (HB.out) GB16.out : Below w.heap.size w w18));clear HO_6;clear HO_7;clear HO_9;clear HB;have HO_6:=n0_;have HO_7:=n1_;have HO_9:=n2_;have HB:=n3_;clear n0_ n1_ n2_ n3_;clear hg hw hp_))
         repeat (go_quiet (first|(go_at_call 35;(with_reducible refine (madrigalref1_Clamp.calls k1 (rd l0 x10_1) (-17179869184) 17179869184 t391 _ A14.out).mono ?_);rintro e w' ⟨rfl,⟨nd,rfl⟩⟩;(try first|exact ⟨rfl,_,World.drewN_drewN _ _ _⟩|exact ⟨rfl,_,Eq.trans (World.drewN_drewN _ _ _) (congrArg (World.drewN _) (Nat.add_assoc _ _ _))⟩);have p16 : 0 ≤ (x10_1 : Int):=of_decide_eq_true (by first|(with_reducible assumption)|assumption);have q16 : (x10_1 : Int) < ((x9_1.length : Int) : Int):=of_decide_eq_true (by first|(with_reducible assumption)|assumption);obtain ⟨go16,co16,eo16,gb16,gl16,cl16,HG16⟩:=Kd.R_form HO_9.out (by omega);(first|cases eo16|(injection eo16 with ea_ en_ ec_;(first|subst ea_|(injection ea_ with ea_;subst ea_));subst ec_;clear en_));have GB16:=ak_ gb16;have GG16:=ak_ HG16;clear gb16 gl16 HG16;obtain ⟨hx16_0,hf16_0⟩:=Kd.R_celln 0 HO_9.out (x10_1 : Int) p16 q16;replace p16:=eq_true p16;replace q16:=eq_true q16;obtain ⟨hy17_,hz17_⟩:=Kd.R_celln 0 HO_9.out (x10_1 : Int) (of_decide_eq_true (by first|(with_reducible assumption)|assumption)) (of_decide_eq_true (by first|(with_reducible assumption)|assumption));have HP17:=Kd.R_putg HO_9.out (x10_1 : Int) t391)|((with_reducible refine gate_store (t:=2) (p:=38) rfl ?_);(try (rw [drewN_self wr];generalize hq_ : World.drewN wr _ = wr;have n0_:=ak_ (Kd.R_at hq_ HO_6.out);have n1_:=ak_ (Kd.R_at hq_ HO_7.out);have n2_:=ak_ (Kd.R_at hq_ HO_9.out);have n3_:=ak_ (below_at hq_ HB.out);clear hq_ HO_6 HO_7 HO_9 HB;have HO_6:=n0_;have HO_7:=n1_;have HO_9:=n2_;have HB:=n3_;clear n0_ n1_ n2_ n3_;(try (obtain ⟨hy17_,hz17_⟩:=Kd.R_celln 0 HO_9.out (x10_1 : Int) (of_decide_eq_true (by first|(with_reducible assumption)|assumption)) (of_decide_eq_true (by first|(with_reducible assumption)|assumption))));(try (have HP17:=Kd.R_putg HO_9.out (x10_1 : Int) t391))));refine store_event (t:=2) (p:=38) (v:=?vo_w18) (w1:=(wr.setCell ⟨go16,(x10_1 : Int).toNat,none⟩ (.int .i64 t391))) ?hg ?ho ?hn ?hr ?_;(case ho => rfl);(case hg => rfl);(case hn => rfl);(case hr => first|(go_simp;done)|(go_simp;rfl));intro w18 hw;have hg : wr.grownBy w18 (some go16):=(by rw [hw];exact HP17.2);have hp_ : Kd.R (Kd.int .i64) 2 w18 w.heap.size (fun k_ => some k_ ≠ (v382 : Value).ownBlock ∧ some k_ ≠ (v385 : Value).ownBlock) (.slice (some ⟨go16,0,none⟩) x9_1.length co16) y392:=(by rw [hw,Ny392.out];exact HP17.1);clear HP17;have n0_:=ak_ (Kd.R_after (v:=(.slice (some ⟨go16,0,none⟩) x9_1.length co16)) (v1:=(.slice (some ⟨go16,0,none⟩) x9_1.length co16)) (ok:=(fun k_ => some k_ ≠ (v385 : Value).ownBlock)) (by (with_reducible repeat (first|apply ra_|apply rb_|apply rc_));exact HO_6.out) hg (.inl rfl));have n1_:=ak_ (Kd.R_after (v:=(.slice (some ⟨go16,0,none⟩) x9_1.length co16)) (v1:=(.slice (some ⟨go16,0,none⟩) x9_1.length co16)) (ok:=(fun k_ => some k_ ≠ (v382 : Value).ownBlock)) (by (with_reducible repeat (first|apply ra_|apply rb_|apply rc_));exact HO_7.out) hg (.inl rfl));have n2_:=ak_ (hp_);have n3_:=ak_ ((by rw [hw];exact below_set (HB.out) GB16.out : Below w.heap.size w w18));clear HO_6;clear HO_7;clear HO_9;clear HB;have HO_6:=n0_;have HO_7:=n1_;have HO_9:=n2_;have HB:=n3_;clear n0_ n1_ n2_ n3_;clear hg hw hp_));try go_wp2_with (first|(go_at_call 35;(with_reducible refine (madrigalref1_Clamp.calls k1 (rd l0 x10_1) (-17179869184) 17179869184 t391 _ A14.out).mono ?_);rintro e w' ⟨rfl,⟨nd,rfl⟩⟩;(try first|exact ⟨rfl,_,World.drewN_drewN _ _ _⟩|exact ⟨rfl,_,Eq.trans (World.drewN_drewN _ _ _) (congrArg (World.drewN _) (Nat.add_assoc _ _ _))⟩);have p16 : 0 ≤ (x10_1 : Int):=of_decide_eq_true (by first|(with_reducible assumption)|assumption);have q16 : (x10_1 : Int) < ((x9_1.length : Int) : Int):=of_decide_eq_true (by first|(with_reducible assumption)|assumption);obtain ⟨go16,co16,eo16,gb16,gl16,cl16,HG16⟩:=Kd.R_form HO_9.out (by omega);(first|cases eo16|(injection eo16 with ea_ en_ ec_;(first|subst ea_|(injection ea_ with ea_;subst ea_));subst ec_;clear en_));have GB16:=ak_ gb16;have GG16:=ak_ HG16;clear gb16 gl16 HG16;obtain ⟨hx16_0,hf16_0⟩:=Kd.R_celln 0 HO_9.out (x10_1 : Int) p16 q16;replace p16:=eq_true p16;replace q16:=eq_true q16;obtain ⟨hy17_,hz17_⟩:=Kd.R_celln 0 HO_9.out (x10_1 : Int) (of_decide_eq_true (by first|(with_reducible assumption)|assumption)) (of_decide_eq_true (by first|(with_reducible assumption)|assumption));have HP17:=Kd.R_putg HO_9.out (x10_1 : Int) t391)|((with_reducible refine gate_store (t:=2) (p:=38) rfl ?_);(try (rw [drewN_self wr];generalize hq_ : World.drewN wr _ = wr;have n0_:=ak_ (Kd.R_at hq_ HO_6.out);have n1_:=ak_ (Kd.R_at hq_ HO_7.out);have n2_:=ak_ (Kd.R_at hq_ HO_9.out);have n3_:=ak_ (below_at hq_ HB.out);clear hq_ HO_6 HO_7 HO_9 HB;have HO_6:=n0_;have HO_7:=n1_;have HO_9:=n2_;have HB:=n3_;clear n0_ n1_ n2_ n3_;(try (obtain ⟨hy17_,hz17_⟩:=Kd.R_celln 0 HO_9.out (x10_1 : Int) (of_decide_eq_true (by first|(with_reducible assumption)|assumption)) (of_decide_eq_true (by first|(with_reducible assumption)|assumption))));(try (have HP17:=Kd.R_putg HO_9.out (x10_1 : Int) t391))));refine store_event (t:=2) (p:=38) (v:=?vo_w18) (w1:=(wr.setCell ⟨go16,(x10_1 : Int).toNat,none⟩ (.int .i64 t391))) ?hg ?ho ?hn ?hr ?_;(case ho => rfl);(case hg => rfl);(case hn => rfl);(case hr => first|(go_simp;done)|(go_simp;rfl));intro w18 hw;have hg : wr.grownBy w18 (some go16):=(by rw [hw];exact HP17.2);have hp_ : Kd.R (Kd.int .i64) 2 w18 w.heap.size (fun k_ => some k_ ≠ (v382 : Value).ownBlock ∧ some k_ ≠ (v385 : Value).ownBlock) (.slice (some ⟨go16,0,none⟩) x9_1.length co16) y392:=(by rw [hw,Ny392.out];exact HP17.1);clear HP17;have n0_:=ak_ (Kd.R_after (v:=(.slice (some ⟨go16,0,none⟩) x9_1.length co16)) (v1:=(.slice (some ⟨go16,0,none⟩) x9_1.length co16)) (ok:=(fun k_ => some k_ ≠ (v385 : Value).ownBlock)) (by (with_reducible repeat (first|apply ra_|apply rb_|apply rc_));exact HO_6.out) hg (.inl rfl));have n1_:=ak_ (Kd.R_after (v:=(.slice (some ⟨go16,0,none⟩) x9_1.length co16)) (v1:=(.slice (some ⟨go16,0,none⟩) x9_1.length co16)) (ok:=(fun k_ => some k_ ≠ (v382 : Value).ownBlock)) (by (with_reducible repeat (first|apply ra_|apply rb_|apply rc_));exact HO_7.out) hg (.inl rfl));have n2_:=ak_ (hp_);have n3_:=ak_ ((by rw [hw];exact below_set (HB.out) GB16.out : Below w.heap.size w w18));clear HO_6;clear HO_7;clear HO_9;clear HB;have HO_6:=n0_;have HO_7:=n1_;have HO_9:=n2_;have HB:=n3_;clear n0_ n1_ n2_ n3_;clear hg hw hp_)))
         go_roundg k1
         case measure => have:=HK1.out;omega
         case rel => exact ⟨(y392),(wrap64 (x10_1 + 1)),(by first|rfl|(simp;done)|(simp [*];done)),H',⟨by have:=HK1.out;omega⟩,⟨by (with_reducible repeat (first|apply ra_|apply rb_|apply rc_));exact HO_6.out⟩,⟨by (with_reducible repeat (first|apply ra_|apply rb_|apply rc_));exact HO_7.out⟩,⟨by (with_reducible repeat (first|apply ra_|apply rb_|apply rc_));exact HO_9.out⟩,⟨by repeat (first|(with_reducible first|exact HB.out|apply ba_|apply bb_|apply bc_)|exact HB.out)⟩⟩
        ·rw [if_neg c15] at H
         exact absurd H (by simp)
       ·rw [if_neg c13] at H
        exact absurd H (by simp)
      ·rw [if_neg c12] at H
       exact absurd H (by simp)
     ·rw [if_neg c11] at H
      have c11b0:=decide_eq_false c11
      clear c11
      have H':=ak_ H
      clear H
      go_wp2
      repeat (go_quiet (fail);try go_wp2)
      go_loopg [8,11] k1 (fun kq v8 v11 w' => ∃ (x8_2 : List Int) (x11_2 : Int),v11 = .int .i64 x11_2 ∧ Aside0 (madrigalref10_Inverse.l1 kq (l0.length : Int) t381 t384 x8_2 x9_1 x11_2 = some r) ∧ Aside0 (kq ≤ k1) ∧ Aside0 (Kd.R (Kd.int .i64) 2 w' w.heap.size (fun k_ => some k_ ≠ (v385 : Value).ownBlock ∧ some k_ ≠ (v8 : Value).ownBlock ∧ some k_ ≠ (v388 : Value).ownBlock) v382 t381) ∧ Aside0 (Kd.R (Kd.int .i64) 2 w' w.heap.size (fun k_ => some k_ ≠ (v382 : Value).ownBlock ∧ some k_ ≠ (v8 : Value).ownBlock ∧ some k_ ≠ (v388 : Value).ownBlock) v385 t384) ∧ Aside0 (Kd.R (Kd.int .i64) 2 w' w.heap.size (fun k_ => some k_ ≠ (v382 : Value).ownBlock ∧ some k_ ≠ (v385 : Value).ownBlock ∧ some k_ ≠ (v388 : Value).ownBlock) v8 x8_2) ∧ Aside0 (Kd.R (Kd.int .i64) 2 w' w.heap.size (fun k_ => some k_ ≠ (v382 : Value).ownBlock ∧ some k_ ≠ (v385 : Value).ownBlock ∧ some k_ ≠ (v8 : Value).ownBlock) v388 x9_1) ∧ Aside0 (Below w.heap.size w w'))
      case atStart => exact ⟨(([] : List Int)),(0),(by first|rfl|(simp;done)|(simp [*];done)),H',⟨Nat.le_refl _⟩,⟨by (with_reducible repeat (first|apply ra_|apply rb_|apply rc_));exact Kd.R_mono HO_6.out (fun _ hk => ⟨hk.1,⟨(by simp [Value.ownBlock]),hk.2⟩⟩)⟩,⟨by (with_reducible repeat (first|apply ra_|apply rb_|apply rc_));exact Kd.R_mono HO_7.out (fun _ hk => ⟨hk.1,⟨(by simp [Value.ownBlock]),hk.2⟩⟩)⟩,⟨by first|exact Kd.R_nil _ _ _ _ _|exact Kd.N_nil _ _ _ _ _|exact Kd.V_nil _ _ _ _ _|exact Kd.Q_nil _ _ _ _ _|exact Kd.S_nil _ _ _ _ _⟩,⟨by (with_reducible repeat (first|apply ra_|apply rb_|apply rc_));exact Kd.R_mono HO_9.out (fun _ hk => ⟨hk.1,⟨hk.2,(by simp [Value.ownBlock])⟩⟩)⟩,⟨by repeat (first|(with_reducible first|exact HB.out|apply ba_|apply bb_|apply bc_)|exact HB.out)⟩⟩
      case round =>
       clear H'
       try clear c1
       try clear p1
       try clear q1
       try clear hx1
       try clear c2
       try clear p2
       try clear p3
       try clear q3
       try clear hx3
       try clear c5
       try clear c5b0
       try clear c5b1
       try clear c6
       try clear c6b0
       try clear c6b1
       try clear p6
       try clear c11
       try clear c11b0
       try clear c12
       try clear c12b0
       try clear c13
       try clear c13b0
       try clear c15
       try clear c15b0
       try clear p16
       try clear q16
       try clear hx16
       try clear hf16
       try clear hx16_0
       try clear hx390_0
       try clear p16
       try clear p2
       try clear p390
       try clear q16
       try clear q390
       obtain ⟨x8_2,x11_2,rfl,HA,HK2,HO_6,HO_7,HO_8,HO_9,HB⟩:=hrel
       (try simp only [i64_w,i32_w])
       cases gk with
       | zero => exact absurd HA.out (by simp [madrigalref10_Inverse.l1])
       | succ k2 =>
        have H:=HA.out
        clear HA
        simp only [madrigalref10_Inverse.l1] at H
        by_cases c19 : x11_2 < (wrap64 (2 * (l0.length : Int)))
        ·rw [if_pos c19] at H
         have c19b0:=decide_eq_true c19
         clear c19
         by_cases c20 : (wrap64 (8 * (l0.length : Int))) = 0
         ·rw [if_pos c20] at H
          exact absurd H (by simp)
         ·rw [if_neg c20] at H
          have c20b0 : ((wrap64 (8 * (l0.length : Int))) == 0) = false:=beq_eq_false_iff_ne.mpr c20
          have c20b1 : ((wrap64 (8 * (l0.length : Int))) != 0) = true:=bne_iff_ne.mpr c20
          have H':=ak_ H
          clear H
          go_wp2
          repeat (go_quiet (fail);try go_wp2)
          go_loopg [12,13,15] k2 (fun kq v12 v13 v15 w' => ∃ (x12_3 : Int) (x13_3 : Int) (x15_3 : Int),v12 = .int .i64 x12_3 ∧ v13 = .int .i64 x13_3 ∧ v15 = .int .i64 x15_3 ∧ Aside0 (madrigalref10_Inverse.l2 kq (l0.length : Int) t381 t384 x8_2 x9_1 x11_2 x12_3 x13_3 (Int.tmod (wrap64 (2 * (wrap64 ((wrap64 ((wrap64 (2 * x11_2)) + 1)) + (l0.length : Int))))) (wrap64 (8 * (l0.length : Int)))) x15_3 = some r) ∧ Aside0 (kq ≤ k2) ∧ Aside0 (Kd.R (Kd.int .i64) 2 w' w.heap.size (fun k_ => some k_ ≠ (v385 : Value).ownBlock ∧ some k_ ≠ (u8 : Value).ownBlock ∧ some k_ ≠ (v388 : Value).ownBlock) v382 t381) ∧ Aside0 (Kd.R (Kd.int .i64) 2 w' w.heap.size (fun k_ => some k_ ≠ (v382 : Value).ownBlock ∧ some k_ ≠ (u8 : Value).ownBlock ∧ some k_ ≠ (v388 : Value).ownBlock) v385 t384) ∧ Aside0 (Kd.R (Kd.int .i64) 2 w' w.heap.size (fun k_ => some k_ ≠ (v382 : Value).ownBlock ∧ some k_ ≠ (v385 : Value).ownBlock ∧ some k_ ≠ (v388 : Value).ownBlock) u8 x8_2) ∧ Aside0 (Kd.R (Kd.int .i64) 2 w' w.heap.size (fun k_ => some k_ ≠ (v382 : Value).ownBlock ∧ some k_ ≠ (v385 : Value).ownBlock ∧ some k_ ≠ (u8 : Value).ownBlock) v388 x9_1) ∧ Aside0 (Below w.heap.size w w'))
          case atStart => exact ⟨(0),(Int.tmod (wrap64 ((wrap64 ((wrap64 (2 * x11_2)) + 1)) + (l0.length : Int))) (wrap64 (8 * (l0.length : Int)))),(0),(by first|rfl|(simp;done)|(simp [*];done)),(by first|rfl|(simp;done)|(simp [*];done)),(by first|rfl|(simp;done)|(simp [*];done)),H',⟨Nat.le_refl _⟩,⟨by (with_reducible repeat (first|apply ra_|apply rb_|apply rc_));exact HO_6.out⟩,⟨by (with_reducible repeat (first|apply ra_|apply rb_|apply rc_));exact HO_7.out⟩,⟨by (with_reducible repeat (first|apply ra_|apply rb_|apply rc_));exact HO_8.out⟩,⟨by (with_reducible repeat (first|apply ra_|apply rb_|apply rc_));exact HO_9.out⟩,⟨by repeat (first|(with_reducible first|exact HB.out|apply ba_|apply bb_|apply bc_)|exact HB.out)⟩⟩
          case round =>
           clear H'
           try clear c1
           try clear p1
           try clear q1
           try clear hx1
           try clear c2
           try clear p2
           try clear p3
           try clear q3
           try clear hx3
           try clear c5
           try clear c5b0
           try clear c5b1
           try clear c6
           try clear c6b0
           try clear c6b1
           try clear p6
           try clear c11
           try clear c11b0
           try clear c12
           try clear c12b0
           try clear c13
           try clear c13b0
           try clear c15
           try clear c15b0
           try clear p16
           try clear q16
           try clear hx16
           try clear hf16
           try clear c19
           try clear c19b0
           try clear c20
           try clear c20b0
           try clear c20b1
           try clear hx16_0
           try clear hx390_0
           try clear p1
           try clear p16
           try clear p2
           try clear p3
           try clear p390
           try clear p6
           try clear q1
           try clear q16
           try clear q3
           try clear q390
           obtain ⟨x12_3,x13_3,x15_3,rfl,rfl,rfl,HA,HK3,HO_6,HO_7,HO_8,HO_9,HB⟩:=hrel
           (try simp only [i64_w,i32_w])
           cases gk with
           | zero => exact absurd HA.out (by simp [madrigalref10_Inverse.l2])
           | succ k3 =>
            have H:=HA.out
            clear HA
            simp only [madrigalref10_Inverse.l2] at H
            by_cases c21 : x15_3 < (l0.length : Int)
            ·rw [if_pos c21] at H
             have c21b0:=decide_eq_true c21
             clear c21
             by_cases c22 : 0 ≤ x15_3
             ·rw [if_pos c22] at H
              have c22b0:=decide_eq_true c22
              clear c22
              by_cases c23 : x15_3 < (x9_1.length : Int)
              ·rw [if_pos c23] at H
               have c23b0:=decide_eq_true c23
               clear c23
               by_cases c24 : 0 ≤ x13_3
               ·rw [if_pos c24] at H
                have c24b0:=decide_eq_true c24
                clear c24
                by_cases c25 : x13_3 < (t384.length : Int)
                ·rw [if_pos c25] at H
                 have c25b0:=decide_eq_true c25
                 clear c25
                 by_cases c26 : (wrap64 (x13_3 + (Int.tmod (wrap64 (2 * (wrap64 ((wrap64 ((wrap64 (2 * x11_2)) + 1)) + (l0.length : Int))))) (wrap64 (8 * (l0.length : Int)))))) ≥ (wrap64 (8 * (l0.length : Int)))
                 ·rw [if_pos c26] at H
                  have c26b0 : decide ((wrap64 (8 * (l0.length : Int))) ≤ (wrap64 (x13_3 + (Int.tmod (wrap64 (2 * (wrap64 ((wrap64 ((wrap64 (2 * x11_2)) + 1)) + (l0.length : Int))))) (wrap64 (8 * (l0.length : Int))))))) = true:=decide_eq_true c26
                  clear c26
                  have H':=ak_ H
                  clear H
                  obtain ⟨Ao27,co27,eo27⟩:=Kd.R_slice HO_9.out
                  subst eo27
                  have p393 : 0 ≤ (x15_3 : Int):=of_decide_eq_true (by first|(with_reducible assumption)|assumption)
                  have q393 : x15_3 < (x9_1.length : Int):=of_decide_eq_true (by first|(with_reducible assumption)|assumption)
                  obtain ⟨ad393,e393,hx393_0⟩:=Kd.at_int (Kd.R_reads' HO_9.out).2.2 x15_3 p393 q393
                  cases e393
                  replace p393:=eq_true p393
                  replace q393:=eq_true q393
                  obtain ⟨Ao28,co28,eo28⟩:=Kd.R_slice HO_7.out
                  subst eo28
                  have p394 : 0 ≤ (x13_3 : Int):=of_decide_eq_true (by first|(with_reducible assumption)|assumption)
                  have q394 : x13_3 < (t384.length : Int):=of_decide_eq_true (by first|(with_reducible assumption)|assumption)
                  obtain ⟨ad394,e394,hx394_0⟩:=Kd.at_int (Kd.R_reads' HO_7.out).2.2 x13_3 p394 q394
                  cases e394
                  replace p394:=eq_true p394
                  replace q394:=eq_true q394
                  go_wp2
                  repeat (go_quiet (fail);try go_wp2)
                  go_roundg k3
                  case measure => have:=HK1.out;have:=HK2.out;have:=HK3.out;omega
                  case rel => exact ⟨(wrap64 (x12_3 + (wrap64 ((rd x9_1 x15_3) * (rd t384 x13_3))))),(wrap64 ((wrap64 (x13_3 + (Int.tmod (wrap64 (2 * (wrap64 ((wrap64 ((wrap64 (2 * x11_2)) + 1)) + (l0.length : Int))))) (wrap64 (8 * (l0.length : Int)))))) - (wrap64 (8 * (l0.length : Int))))),(wrap64 (x15_3 + 1)),(by first|rfl|(simp;done)|(simp [*];done)),(by first|rfl|(simp;done)|(simp [*];done)),(by first|rfl|(simp;done)|(simp [*];done)),H',⟨by have:=HK1.out;have:=HK2.out;have:=HK3.out;omega⟩,⟨by (with_reducible repeat (first|apply ra_|apply rb_|apply rc_));exact HO_6.out⟩,⟨by (with_reducible repeat (first|apply ra_|apply rb_|apply rc_));exact HO_7.out⟩,⟨by (with_reducible repeat (first|apply ra_|apply rb_|apply rc_));exact HO_8.out⟩,⟨by (with_reducible repeat (first|apply ra_|apply rb_|apply rc_));exact HO_9.out⟩,⟨by repeat (first|(with_reducible first|exact HB.out|apply ba_|apply bb_|apply bc_)|exact HB.out)⟩⟩
                 ·rw [if_neg c26] at H
                  have c26b0 : decide ((wrap64 (8 * (l0.length : Int))) ≤ (wrap64 (x13_3 + (Int.tmod (wrap64 (2 * (wrap64 ((wrap64 ((wrap64 (2 * x11_2)) + 1)) + (l0.length : Int))))) (wrap64 (8 * (l0.length : Int))))))) = false:=decide_eq_false c26
                  clear c26
                  have H':=ak_ H
                  clear H
                  obtain ⟨Ao29,co29,eo29⟩:=Kd.R_slice HO_9.out
                  subst eo29
                  have p393 : 0 ≤ (x15_3 : Int):=of_decide_eq_true (by first|(with_reducible assumption)|assumption)
                  have q393 : x15_3 < (x9_1.length : Int):=of_decide_eq_true (by first|(with_reducible assumption)|assumption)
                  obtain ⟨ad393,e393,hx393_0⟩:=Kd.at_int (Kd.R_reads' HO_9.out).2.2 x15_3 p393 q393
                  cases e393
                  replace p393:=eq_true p393
                  replace q393:=eq_true q393
                  obtain ⟨Ao30,co30,eo30⟩:=Kd.R_slice HO_7.out
                  subst eo30
                  have p394 : 0 ≤ (x13_3 : Int):=of_decide_eq_true (by first|(with_reducible assumption)|assumption)
                  have q394 : x13_3 < (t384.length : Int):=of_decide_eq_true (by first|(with_reducible assumption)|assumption)
                  obtain ⟨ad394,e394,hx394_0⟩:=Kd.at_int (Kd.R_reads' HO_7.out).2.2 x13_3 p394 q394
                  cases e394
                  replace p394:=eq_true p394
                  replace q394:=eq_true q394
                  go_wp2
                  repeat (go_quiet (fail);try go_wp2)
                  go_roundg k3
                  case measure => have:=HK1.out;have:=HK2.out;have:=HK3.out;omega
                  case rel => exact ⟨(wrap64 (x12_3 + (wrap64 ((rd x9_1 x15_3) * (rd t384 x13_3))))),(wrap64 (x13_3 + (Int.tmod (wrap64 (2 * (wrap64 ((wrap64 ((wrap64 (2 * x11_2)) + 1)) + (l0.length : Int))))) (wrap64 (8 * (l0.length : Int)))))),(wrap64 (x15_3 + 1)),(by first|rfl|(simp;done)|(simp [*];done)),(by first|rfl|(simp;done)|(simp [*];done)),(by first|rfl|(simp;done)|(simp [*];done)),H',⟨by have:=HK1.out;have:=HK2.out;have:=HK3.out;omega⟩,⟨by (with_reducible repeat (first|apply ra_|apply rb_|apply rc_));exact HO_6.out⟩,⟨by (with_reducible repeat (first|apply ra_|apply rb_|apply rc_));exact HO_7.out⟩,⟨by (with_reducible repeat (first|apply ra_|apply rb_|apply rc_));exact HO_8.out⟩,⟨by (with_reducible repeat (first|apply ra_|apply rb_|apply rc_));exact HO_9.out⟩,⟨by repeat (first|(with_reducible first|exact HB.out|apply ba_|apply bb_|apply bc_)|exact HB.out)⟩⟩
                ·rw [if_neg c25] at H
                 exact absurd H (by simp)
               ·rw [if_neg c24] at H
                exact absurd H (by simp)
              ·rw [if_neg c23] at H
               exact absurd H (by simp)
             ·rw [if_neg c22] at H
              exact absurd H (by simp)
            ·rw [if_neg c21] at H
             have c21b0:=decide_eq_false c21
             clear c21
             replace H:=Option.bind_eq_some_iff.mp H
             obtain ⟨t395,A310,H⟩:=H
             (try dsimp only at H)
             have A31:=ak_ A310
             clear A310
             replace H:=Option.bind_eq_some_iff.mp H
             obtain ⟨t396,A320,H⟩:=H
             (try dsimp only at H)
             have A32:=ak_ A320
             clear A320
             by_cases c33 : 0 ≤ x11_2
             ·rw [if_pos c33] at H
              have c33b0:=decide_eq_true c33
              clear c33
              by_cases c34 : x11_2 < (t381.length : Int)
              ·rw [if_pos c34] at H
               have c34b0:=decide_eq_true c34
               clear c34
               replace H:=Option.bind_eq_some_iff.mp H
               obtain ⟨t398,A350,H⟩:=H
               (try dsimp only at H)
               have A35:=ak_ A350
               clear A350
               by_cases c36 : x8_2.length < 17592186044416
               ·rw [if_pos c36] at H
                have LMc36:=ak_ c36
                clear c36
                obtain ⟨y399,hy399⟩ : ∃ y_ : List Int,y_ = (x8_2 ++ [t398]):=⟨_,rfl⟩
                replace H : (madrigalref10_Inverse.l1 k3 (l0.length : Int) t381 t384 y399 x9_1 (wrap64 (x11_2 + 1))) = some r:=by first|(rw [hy399];with_reducible exact H)|(have H2_:=(Option.bind_some _ _).symm.trans H;rw [hy399];with_reducible exact H2_)|(have H2_:=(Option.bind_some _ _).symm.trans H;with_reducible exact H2_)|with_reducible exact H|(rw [hy399];exact H)|exact H
                have Ny399:=ak_ hy399
                clear hy399
                have H':=ak_ H
                clear H
                have p397 : 0 ≤ (x11_2 : Int):=of_decide_eq_true (by first|(with_reducible assumption)|assumption)
                have q397 : x11_2 < (t381.length : Int):=of_decide_eq_true (by first|(with_reducible assumption)|assumption)
                obtain ⟨Ao37,co37,eo37⟩:=Kd.R_slice HO_6.out
                subst eo37
                obtain ⟨ad397,e397,hx397_0⟩:=Kd.at_int (Kd.R_reads' HO_6.out).2.2 x11_2 p397 q397
                cases e397
                replace p397:=eq_true p397
                replace q397:=eq_true q397
                go_wp2_with (first|(go_at_call 36;(with_reducible refine (madrigalref1_Down.calls (wrap64 ((wrap64 (2 * x12_3)) + (wrap64 ((l0.length : Int) * 16384)))) (wrap64 ((l0.length : Int) * 32768)) t395 _ A31.out).mono ?_);rintro e w' ⟨rfl,⟨nd,rfl⟩⟩;(try first|exact ⟨rfl,_,World.drewN_drewN _ _ _⟩|exact ⟨rfl,_,Eq.trans (World.drewN_drewN _ _ _) (congrArg (World.drewN _) (Nat.add_assoc _ _ _))⟩))|(go_at_call 34;(with_reducible refine (madrigalref10_keep.calls k3 t395 t396 _ A32.out).mono ?_);rintro e w' ⟨rfl,⟨nd,rfl⟩⟩;(try first|exact ⟨rfl,_,World.drewN_drewN _ _ _⟩|exact ⟨rfl,_,Eq.trans (World.drewN_drewN _ _ _) (congrArg (World.drewN _) (Nat.add_assoc _ _ _))⟩))|(go_at_call 33;(with_reducible refine (madrigalref1_Mul.calls k3 (rd t381 x11_2) t396 15 t398 _ A35.out).mono ?_);rintro e w' ⟨rfl,⟨nd,rfl⟩⟩;(try first|exact ⟨rfl,_,World.drewN_drewN _ _ _⟩|exact ⟨rfl,_,Eq.trans (World.drewN_drewN _ _ _) (congrArg (World.drewN _) (Nat.add_assoc _ _ _))⟩))|((with_reducible refine gate_builtin (b:=.append) (xs:=#[.tmp 98,.tmp 105]) rfl ?_);at_builtin;refine Kd.R_append (Kd.int .i64) (w0:=w) w.heap.size rfl (.tmp 98) (.tmp 105) 23 2 (.int .i64 0) 8 rfl Try.underlying23 info2 rfl (by decide) (by omega) u8 x8_2 t398 [.int .i64 t398] (fun k_ => some k_ ≠ (.slice (some ad397) t381.length co37 : Value).ownBlock ∧ some k_ ≠ (v385 : Value).ownBlock ∧ some k_ ≠ (v388 : Value).ownBlock) (fun _ => False) rfl rfl ?aP (fun _ hk => hk.elim) ?aF ?aO ?aB ?aS ?aL ?_;(case aP => exact rfl);(case aB => exact (by repeat (first|(with_reducible first|exact HB.out|apply ba_|apply bb_|apply bc_)|exact HB.out)));(case aF => exact (fun k_ hk => ⟨Kd.fresh' (Kd.R_lt (by (with_reducible repeat (first|apply ra_|apply rb_|apply rc_));exact HO_6.out)) k_ hk,Kd.fresh' (Kd.R_lt (by (with_reducible repeat (first|apply ra_|apply rb_|apply rc_));exact HO_7.out)) k_ hk,Kd.fresh' (Kd.R_lt (by (with_reducible repeat (first|apply ra_|apply rb_|apply rc_));exact HO_9.out)) k_ hk⟩));(case aO => exact (by (with_reducible repeat (first|apply ra_|apply rb_|apply rc_));exact HO_8.out));(case aS => exact (below_size (by repeat (first|(with_reducible first|exact HB.out|apply ba_|apply bb_|apply bc_)|exact HB.out))));(case aL => have:=LMc36.out;omega);intro v400 w38 ho hb hg hat;rw [← Ny399.out] at ho;have n0_:=ak_ (Kd.R_after (ok:=(fun k_ => some k_ ≠ (v385 : Value).ownBlock ∧ some k_ ≠ (v388 : Value).ownBlock)) (by (with_reducible repeat (first|apply ra_|apply rb_|apply rc_));exact Kd.R_mono HO_6.out (fun _ hk => ⟨⟨hk.1,hk.2.2⟩,hk.2.1⟩)) hg hat);have n1_:=ak_ (Kd.R_after (ok:=(fun k_ => some k_ ≠ (.slice (some ad397) t381.length co37 : Value).ownBlock ∧ some k_ ≠ (v388 : Value).ownBlock)) (by (with_reducible repeat (first|apply ra_|apply rb_|apply rc_));exact Kd.R_mono HO_7.out (fun _ hk => ⟨⟨hk.1,hk.2.2⟩,hk.2.1⟩)) hg hat);have n2_:=ak_ (Kd.R_after (ok:=(fun k_ => some k_ ≠ (.slice (some ad397) t381.length co37 : Value).ownBlock ∧ some k_ ≠ (v385 : Value).ownBlock)) (by (with_reducible repeat (first|apply ra_|apply rb_|apply rc_));exact Kd.R_mono HO_9.out (fun _ hk => ⟨⟨hk.1,hk.2.1⟩,hk.2.2⟩)) hg hat);have n3_:=ak_ (hb);have n4_:=ak_ (ho);clear HO_6;clear HO_7;clear HO_9;clear HB;clear HO_8;have HO_6:=n0_;have HO_7:=n1_;have HO_9:=n2_;have HB:=n3_;have HO401:=n4_;clear n0_ n1_ n2_ n3_ n4_;clear ho hb hg hat))
                repeat (go_quiet (first|(go_at_call 36;(with_reducible refine (madrigalref1_Down.calls (wrap64 ((wrap64 (2 * x12_3)) + (wrap64 ((l0.length : Int) * 16384)))) (wrap64 ((l0.length : Int) * 32768)) t395 _ A31.out).mono ?_);rintro e w' ⟨rfl,⟨nd,rfl⟩⟩;(try first|exact ⟨rfl,_,World.drewN_drewN _ _ _⟩|exact ⟨rfl,_,Eq.trans (World.drewN_drewN _ _ _) (congrArg (World.drewN _) (Nat.add_assoc _ _ _))⟩))|(go_at_call 34;(with_reducible refine (madrigalref10_keep.calls k3 t395 t396 _ A32.out).mono ?_);rintro e w' ⟨rfl,⟨nd,rfl⟩⟩;(try first|exact ⟨rfl,_,World.drewN_drewN _ _ _⟩|exact ⟨rfl,_,Eq.trans (World.drewN_drewN _ _ _) (congrArg (World.drewN _) (Nat.add_assoc _ _ _))⟩))|(go_at_call 33;(with_reducible refine (madrigalref1_Mul.calls k3 (rd t381 x11_2) t396 15 t398 _ A35.out).mono ?_);rintro e w' ⟨rfl,⟨nd,rfl⟩⟩;(try first|exact ⟨rfl,_,World.drewN_drewN _ _ _⟩|exact ⟨rfl,_,Eq.trans (World.drewN_drewN _ _ _) (congrArg (World.drewN _) (Nat.add_assoc _ _ _))⟩))|((with_reducible refine gate_builtin (b:=.append) (xs:=#[.tmp 98,.tmp 105]) rfl ?_);at_builtin;refine Kd.R_append (Kd.int .i64) (w0:=w) w.heap.size rfl (.tmp 98) (.tmp 105) 23 2 (.int .i64 0) 8 rfl Try.underlying23 info2 rfl (by decide) (by omega) u8 x8_2 t398 [.int .i64 t398] (fun k_ => some k_ ≠ (.slice (some ad397) t381.length co37 : Value).ownBlock ∧ some k_ ≠ (v385 : Value).ownBlock ∧ some k_ ≠ (v388 : Value).ownBlock) (fun _ => False) rfl rfl ?aP (fun _ hk => hk.elim) ?aF ?aO ?aB ?aS ?aL ?_;(case aP => exact rfl);(case aB => exact (by repeat (first|(with_reducible first|exact HB.out|apply ba_|apply bb_|apply bc_)|exact HB.out)));(case aF => exact (fun k_ hk => ⟨Kd.fresh' (Kd.R_lt (by (with_reducible repeat (first|apply ra_|apply rb_|apply rc_));exact HO_6.out)) k_ hk,Kd.fresh' (Kd.R_lt (by (with_reducible repeat (first|apply ra_|apply rb_|apply rc_));exact HO_7.out)) k_ hk,Kd.fresh' (Kd.R_lt (by (with_reducible repeat (first|apply ra_|apply rb_|apply rc_));exact HO_9.out)) k_ hk⟩));(case aO => exact (by (with_reducible repeat (first|apply ra_|apply rb_|apply rc_));exact HO_8.out));(case aS => exact (below_size (by repeat (first|(with_reducible first|exact HB.out|apply ba_|apply bb_|apply bc_)|exact HB.out))));(case aL => have:=LMc36.out;omega);intro v400 w38 ho hb hg hat;rw [← Ny399.out] at ho;have n0_:=ak_ (Kd.R_after (ok:=(fun k_ => some k_ ≠ (v385 : Value).ownBlock ∧ some k_ ≠ (v388 : Value).ownBlock)) (by (with_reducible repeat (first|apply ra_|apply rb_|apply rc_));exact Kd.R_mono HO_6.out (fun _ hk => ⟨⟨hk.1,hk.2.2⟩,hk.2.1⟩)) hg hat);have n1_:=ak_ (Kd.R_after (ok:=(fun k_ => some k_ ≠ (.slice (some ad397) t381.length co37 : Value).ownBlock ∧ some k_ ≠ (v388 : Value).ownBlock)) (by (with_reducible repeat (first|apply ra_|apply rb_|apply rc_));exact Kd.R_mono HO_7.out (fun _ hk => ⟨⟨hk.1,hk.2.2⟩,hk.2.1⟩)) hg hat);have n2_:=ak_ (Kd.R_after (ok:=(fun k_ => some k_ ≠ (.slice (some ad397) t381.length co37 : Value).ownBlock ∧ some k_ ≠ (v385 : Value).ownBlock)) (by (with_reducible repeat (first|apply ra_|apply rb_|apply rc_));exact Kd.R_mono HO_9.out (fun _ hk => ⟨⟨hk.1,hk.2.1⟩,hk.2.2⟩)) hg hat);have n3_:=ak_ (hb);have n4_:=ak_ (ho);clear HO_6;clear HO_7;clear HO_9;clear HB;clear HO_8;have HO_6:=n0_;have HO_7:=n1_;have HO_9:=n2_;have HB:=n3_;have HO401:=n4_;clear n0_ n1_ n2_ n3_ n4_;clear ho hb hg hat));try go_wp2_with (first|(go_at_call 36;(with_reducible refine (madrigalref1_Down.calls (wrap64 ((wrap64 (2 * x12_3)) + (wrap64 ((l0.length : Int) * 16384)))) (wrap64 ((l0.length : Int) * 32768)) t395 _ A31.out).mono ?_);rintro e w' ⟨rfl,⟨nd,rfl⟩⟩;(try first|exact ⟨rfl,_,World.drewN_drewN _ _ _⟩|exact ⟨rfl,_,Eq.trans (World.drewN_drewN _ _ _) (congrArg (World.drewN _) (Nat.add_assoc _ _ _))⟩))|(go_at_call 34;(with_reducible refine (madrigalref10_keep.calls k3 t395 t396 _ A32.out).mono ?_);rintro e w' ⟨rfl,⟨nd,rfl⟩⟩;(try first|exact ⟨rfl,_,World.drewN_drewN _ _ _⟩|exact ⟨rfl,_,Eq.trans (World.drewN_drewN _ _ _) (congrArg (World.drewN _) (Nat.add_assoc _ _ _))⟩))|(go_at_call 33;(with_reducible refine (madrigalref1_Mul.calls k3 (rd t381 x11_2) t396 15 t398 _ A35.out).mono ?_);rintro e w' ⟨rfl,⟨nd,rfl⟩⟩;(try first|exact ⟨rfl,_,World.drewN_drewN _ _ _⟩|exact ⟨rfl,_,Eq.trans (World.drewN_drewN _ _ _) (congrArg (World.drewN _) (Nat.add_assoc _ _ _))⟩))|((with_reducible refine gate_builtin (b:=.append) (xs:=#[.tmp 98,.tmp 105]) rfl ?_);at_builtin;refine Kd.R_append (Kd.int .i64) (w0:=w) w.heap.size rfl (.tmp 98) (.tmp 105) 23 2 (.int .i64 0) 8 rfl Try.underlying23 info2 rfl (by decide) (by omega) u8 x8_2 t398 [.int .i64 t398] (fun k_ => some k_ ≠ (.slice (some ad397) t381.length co37 : Value).ownBlock ∧ some k_ ≠ (v385 : Value).ownBlock ∧ some k_ ≠ (v388 : Value).ownBlock) (fun _ => False) rfl rfl ?aP (fun _ hk => hk.elim) ?aF ?aO ?aB ?aS ?aL ?_;(case aP => exact rfl);(case aB => exact (by repeat (first|(with_reducible first|exact HB.out|apply ba_|apply bb_|apply bc_)|exact HB.out)));(case aF => exact (fun k_ hk => ⟨Kd.fresh' (Kd.R_lt (by (with_reducible repeat (first|apply ra_|apply rb_|apply rc_));exact HO_6.out)) k_ hk,Kd.fresh' (Kd.R_lt (by (with_reducible repeat (first|apply ra_|apply rb_|apply rc_));exact HO_7.out)) k_ hk,Kd.fresh' (Kd.R_lt (by (with_reducible repeat (first|apply ra_|apply rb_|apply rc_));exact HO_9.out)) k_ hk⟩));(case aO => exact (by (with_reducible repeat (first|apply ra_|apply rb_|apply rc_));exact HO_8.out));(case aS => exact (below_size (by repeat (first|(with_reducible first|exact HB.out|apply ba_|apply bb_|apply bc_)|exact HB.out))));(case aL => have:=LMc36.out;omega);intro v400 w38 ho hb hg hat;rw [← Ny399.out] at ho;have n0_:=ak_ (Kd.R_after (ok:=(fun k_ => some k_ ≠ (v385 : Value).ownBlock ∧ some k_ ≠ (v388 : Value).ownBlock)) (by (with_reducible repeat (first|apply ra_|apply rb_|apply rc_));exact Kd.R_mono HO_6.out (fun _ hk => ⟨⟨hk.1,hk.2.2⟩,hk.2.1⟩)) hg hat);have n1_:=ak_ (Kd.R_after (ok:=(fun k_ => some k_ ≠ (.slice (some ad397) t381.length co37 : Value).ownBlock ∧ some k_ ≠ (v388 : Value).ownBlock)) (by (with_reducible repeat (first|apply ra_|apply rb_|apply rc_));exact Kd.R_mono HO_7.out (fun _ hk => ⟨⟨hk.1,hk.2.2⟩,hk.2.1⟩)) hg hat);have n2_:=ak_ (Kd.R_after (ok:=(fun k_ => some k_ ≠ (.slice (some ad397) t381.length co37 : Value).ownBlock ∧ some k_ ≠ (v385 : Value).ownBlock)) (by (with_reducible repeat (first|apply ra_|apply rb_|apply rc_));exact Kd.R_mono HO_9.out (fun _ hk => ⟨⟨hk.1,hk.2.1⟩,hk.2.2⟩)) hg hat);have n3_:=ak_ (hb);have n4_:=ak_ (ho);clear HO_6;clear HO_7;clear HO_9;clear HB;clear HO_8;have HO_6:=n0_;have HO_7:=n1_;have HO_9:=n2_;have HB:=n3_;have HO401:=n4_;clear n0_ n1_ n2_ n3_ n4_;clear ho hb hg hat)))
                go_roundg k3
                case measure => have:=HK1.out;have:=HK2.out;have:=HK3.out;omega
                case rel => exact ⟨(y399),(wrap64 (x11_2 + 1)),(by first|rfl|(simp;done)|(simp [*];done)),H',⟨by have:=HK1.out;have:=HK2.out;have:=HK3.out;omega⟩,⟨by (with_reducible repeat (first|apply ra_|apply rb_|apply rc_));exact Kd.R_mono HO_6.out (fun _ hk => ⟨hk.1.1,⟨hk.2,hk.1.2⟩⟩)⟩,⟨by (with_reducible repeat (first|apply ra_|apply rb_|apply rc_));exact Kd.R_mono HO_7.out (fun _ hk => ⟨hk.1.1,⟨hk.2,hk.1.2⟩⟩)⟩,⟨by (with_reducible repeat (first|apply ra_|apply rb_|apply rc_));exact HO401.out⟩,⟨by (with_reducible repeat (first|apply ra_|apply rb_|apply rc_));exact Kd.R_mono HO_9.out (fun _ hk => ⟨hk.1.1,⟨hk.1.2,hk.2⟩⟩)⟩,⟨by repeat (first|(with_reducible first|exact HB.out|apply ba_|apply bb_|apply bc_)|exact HB.out)⟩⟩
               ·rw [if_neg c36] at H
                exact absurd H (by simp)
              ·rw [if_neg c34] at H
               exact absurd H (by simp)
             ·rw [if_neg c33] at H
              exact absurd H (by simp)
        ·rw [if_neg c19] at H
         have c19b0:=decide_eq_false c19
         clear c19
         obtain rfl:=Option.some.inj H
         go_wp2
         repeat (go_quiet (fail);try go_wp2)
         go_ret
         exact ⟨_,by first|rfl|(simp [errW_none,errW_some] <;> rfl)|(simp [*,errW_none,errW_some] <;> rfl),by (with_reducible repeat (first|apply ra_|apply rb_|apply rc_));exact Kd.R_mono HO_8.out (fun _ hk => trivial),by repeat (first|(with_reducible first|exact HB.out|apply ba_|apply bb_|apply bc_)|exact HB.out)⟩
  ·rw [if_neg c6] at H
   exact absurd H (by simp)
 ·rw [if_neg c5] at H
  exact absurd H (by simp)

end Go.Proofs.Ytlmacbiahofmcaa.P
