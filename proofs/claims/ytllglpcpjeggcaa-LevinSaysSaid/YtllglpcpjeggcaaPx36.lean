/- The machine side of the laws of one chapter, without conditions: each call of a Go function comes to what the Lean function of its name answers. Written for this claim by a program of the prover. -/
import Derived.Test.YtllglpcpjeggcaaPx0
import Derived.Test.YtllglpcpjeggcaaPx27
import Derived.Test.YtllglpcpjeggcaaPx28
import Derived.Test.YtllglpcpjeggcaaPx30
import Derived.Test.YtllglpcpjeggcaaPx31
import Derived.Test.YtllglpcpjeggcaaPx32
import Derived.Test.YtllglpcpjeggcaaPx35
namespace Go.Proofs.Ytllglpcpjeggcaa.P
open Go.RowKit Go.Proofs.YtllglpcpjeggcaaW.PrintWords Go.Proofs.YtllglpcpjeggcaaW.PrintLast Go.Proofs.YtllglpcpjeggcaaW.PrintMore
attribute [local go_sem] max2_int min2_int max_two min_two max_three min_three max_four min_four   -- for this text's walks alone
set_option linter.unusedVariables false
set_option linter.unusedSimpArgs false

/-! ### madrigalref6_Solve: function 18 -/
mutual
def madrigalref6_Solve.l0 : Nat → List Int → Int → Option (List Int)
 | 0,_,_ => none
 | k + 1,x0,x3 => if 0 < (x0.length : Int) then (if (rd x0 0) < 536870912 then (madrigalref6_Solve.l1 k x0 x3 0) else (madrigalref6_Solve.l2 k x0 x3)) else (none)
def madrigalref6_Solve.l1 : Nat → List Int → Int → Int → Option (List Int)
 | 0,_,_,_ => none
 | k + 1,x0,x3,x4 => if x4 < (x0.length : Int) then (if 0 ≤ x4 then ((madrigalref1_Clamp.f k (wrap64 ((rd x0 x4) * 2)) (-1125899906842624) 1125899906842624).bind fun t505 => (madrigalref6_Solve.l1 k (x0.set (x4 : Int).toNat t505) x3 (wrap64 (x4 + 1)))) else (none)) else (madrigalref6_Solve.l0 k x0 x3)
def madrigalref6_Solve.l2 : Nat → List Int → Int → Option (List Int)
 | 0,_,_ => none
 | k + 1,x0,x3 => if 0 < (x0.length : Int) then (if (rd x0 0) ≥ 1073741824 then (madrigalref6_Solve.l3 k x0 x3 0) else (madrigalref6_Solve.l4 k (x0.set (0 : Int).toNat (wrap64 ((wrap64 ((rd x0 0) + (wrap64 (Int.tdiv (rd x0 0) 1024)))) + 1))) x3 (wrap64 ((wrap64 ((rd x0 0) + (wrap64 (Int.tdiv (rd x0 0) 1024)))) + 1)) ([] : List Int) 0)) else (none)
def madrigalref6_Solve.l3 : Nat → List Int → Int → Int → Option (List Int)
 | 0,_,_,_ => none
 | k + 1,x0,x3,x5 => if x5 < (x0.length : Int) then (if 0 ≤ x5 then ((madrigalref1_Down.f (rd x0 x5) 2).bind fun t509 => (madrigalref6_Solve.l3 k (x0.set (x5 : Int).toNat t509) x3 (wrap64 (x5 + 1)))) else (none)) else (madrigalref6_Solve.l2 k x0 x3)
def madrigalref6_Solve.l4 : Nat → List Int → Int → Int → List Int → Int → Option (List Int)
 | 0,_,_,_,_,_ => none
 | k + 1,x0,x3,x6,x7,x8 => if x8 < x3 then (if 0 ≤ (wrap64 (x8 + 1)) then (if (wrap64 (x8 + 1)) < (x0.length : Int) then (madrigalref6_Solve.l5 k x0 x3 x6 x7 x8 (rd x0 (wrap64 (x8 + 1))) 0) else (none)) else (none)) else (madrigalref6_Solve.l7 k x7 0)
def madrigalref6_Solve.l5 : Nat → List Int → Int → Int → List Int → Int → Int → Int → Option (List Int)
 | 0,_,_,_,_,_,_,_ => none
 | k + 1,x0,x3,x6,x7,x8,x9,x10 => if x10 < x8 then (if 0 ≤ x10 then (if x10 < (x7.length : Int) then (if 0 ≤ (wrap64 (x8 - x10)) then (if (wrap64 (x8 - x10)) < (x0.length : Int) then ((madrigalref1_Mul.f k (rd x7 x10) (rd x0 (wrap64 (x8 - x10))) 24).bind fun t518 => (madrigalref6_Solve.l5 k x0 x3 x6 x7 x8 (wrap64 (x9 - t518)) (wrap64 (x10 + 1)))) else (none)) else (none)) else (none)) else (none)) else ((madrigalref1_Div.f k x9 x6 24).bind fun t519 => ((madrigalref1_Clamp.f k t519 (-16760438) 16760438).bind fun t520 => (madrigalref6_Solve.l6 k x0 x3 x6 x7 x8 t520 ([] : List Int) 0)))
def madrigalref6_Solve.l6 : Nat → List Int → Int → Int → List Int → Int → Int → List Int → Int → Option (List Int)
 | 0,_,_,_,_,_,_,_,_ => none
 | k + 1,x0,x3,x6,x7,x8,x11,x12,x13 => if x13 < x8 then (if 0 ≤ x13 then (if x13 < (x7.length : Int) then (if 0 ≤ (wrap64 ((wrap64 (x8 - 1)) - x13)) then (if (wrap64 ((wrap64 (x8 - 1)) - x13)) < (x7.length : Int) then ((madrigalref1_Mul.f k x11 (rd x7 (wrap64 ((wrap64 (x8 - 1)) - x13))) 24).bind fun t523 => ((madrigalref1_Clamp.f k (wrap64 ((rd x7 x13) - t523)) (-2147483648) 2147483648).bind fun t524 => (if x12.length < 17592186044416 then (madrigalref6_Solve.l6 k x0 x3 x6 x7 x8 x11 (x12 ++ [t524]) (wrap64 (x13 + 1))) else (none)))) else (none)) else (none)) else (none)) else (none)) else (if x12.length < 17592186044416 then ((some (x12 ++ [x11] : List Int)).bind fun y528 => ((madrigalref1_Mul.f k x11 x11 24).bind fun t531 => ((madrigalref1_Mul.f k x6 (wrap64 (16777216 - t531)) 24).bind fun t532 => (if t532 < 1 then (madrigalref6_Solve.l4 k x0 x3 1 y528 (wrap64 (x8 + 1))) else (madrigalref6_Solve.l4 k x0 x3 t532 y528 (wrap64 (x8 + 1))))))) else (none))
def madrigalref6_Solve.l7 : Nat → List Int → Int → Option (List Int)
 | 0,_,_ => none
 | k + 1,x7,x14 => if x14 < (x7.length : Int) then (if 0 ≤ x14 then ((madrigalref1_Mul.f k (rd x7 x14) 1 12).bind fun t534 => (madrigalref6_Solve.l7 k (x7.set (x14 : Int).toNat t534) (wrap64 (x14 + 1)))) else (none)) else ((madrigalref6_Fit.f k x7).bind fun t536 => (some t536))
end
def madrigalref6_Solve.f (k : Nat) (l0 : List Int) : Option (List Int):=if 0 < (l0.length : Int) then (if (rd l0 0) < 1 then (if 0 ≤ (wrap64 ((l0.length : Int) - 1)) then (if (wrap64 ((l0.length : Int) - 1) : Int).toNat ≤ 35184372088832 then (some (List.replicate (wrap64 ((l0.length : Int) - 1) : Int).toNat 0)) else (none)) else (none)) else ((madrigalref6_clamped.f k l0 (-2199023255552) 2199023255552).bind fun t500 => (madrigalref6_Solve.l0 k t500 (wrap64 ((l0.length : Int) - 1))))) else (none)
theorem madrigalref6_Solve.mono_l : ∀ k,(∀ y0 y1,LeO (madrigalref6_Solve.l0 k y0 y1) (madrigalref6_Solve.l0 (k + 1) y0 y1)) ∧ (∀ y0 y1 y2,LeO (madrigalref6_Solve.l1 k y0 y1 y2) (madrigalref6_Solve.l1 (k + 1) y0 y1 y2)) ∧ (∀ y0 y1,LeO (madrigalref6_Solve.l2 k y0 y1) (madrigalref6_Solve.l2 (k + 1) y0 y1)) ∧ (∀ y0 y1 y2,LeO (madrigalref6_Solve.l3 k y0 y1 y2) (madrigalref6_Solve.l3 (k + 1) y0 y1 y2)) ∧ (∀ y0 y1 y2 y3 y4,LeO (madrigalref6_Solve.l4 k y0 y1 y2 y3 y4) (madrigalref6_Solve.l4 (k + 1) y0 y1 y2 y3 y4)) ∧ (∀ y0 y1 y2 y3 y4 y5 y6,LeO (madrigalref6_Solve.l5 k y0 y1 y2 y3 y4 y5 y6) (madrigalref6_Solve.l5 (k + 1) y0 y1 y2 y3 y4 y5 y6)) ∧ (∀ y0 y1 y2 y3 y4 y5 y6 y7,LeO (madrigalref6_Solve.l6 k y0 y1 y2 y3 y4 y5 y6 y7) (madrigalref6_Solve.l6 (k + 1) y0 y1 y2 y3 y4 y5 y6 y7)) ∧ (∀ y0 y1,LeO (madrigalref6_Solve.l7 k y0 y1) (madrigalref6_Solve.l7 (k + 1) y0 y1))
 | 0 => ⟨fun _ _ r h => by simp [madrigalref6_Solve.l0] at h,fun _ _ _ r h => by simp [madrigalref6_Solve.l1] at h,fun _ _ r h => by simp [madrigalref6_Solve.l2] at h,fun _ _ _ r h => by simp [madrigalref6_Solve.l3] at h,fun _ _ _ _ _ r h => by simp [madrigalref6_Solve.l4] at h,fun _ _ _ _ _ _ _ r h => by simp [madrigalref6_Solve.l5] at h,fun _ _ _ _ _ _ _ _ r h => by simp [madrigalref6_Solve.l6] at h,fun _ _ r h => by simp [madrigalref6_Solve.l7] at h⟩
 | k + 1 => by
  obtain ⟨ih0,ih1,ih2,ih3,ih4,ih5,ih6,ih7⟩:=madrigalref6_Solve.mono_l k
  refine ⟨?_,?_,?_,?_,?_,?_,?_,?_⟩
  all_goals (intros;first|unfold madrigalref6_Solve.l0|unfold madrigalref6_Solve.l1|unfold madrigalref6_Solve.l2|unfold madrigalref6_Solve.l3|unfold madrigalref6_Solve.l4|unfold madrigalref6_Solve.l5|unfold madrigalref6_Solve.l6|unfold madrigalref6_Solve.l7)
  all_goals (repeat' first|(with_reducible first|exact ih0 _ _|exact ih1 _ _ _|exact ih2 _ _|exact ih3 _ _ _|exact ih4 _ _ _ _ _|exact ih5 _ _ _ _ _ _ _|exact ih6 _ _ _ _ _ _ _ _|exact ih7 _ _|exact madrigalref1_Clamp.mono _ _ _ _|exact madrigalref1_Div.mono _ _ _ _|exact madrigalref1_Mul.mono _ _ _ _|exact madrigalref6_Fit.mono _ _|exact madrigalref6_clamped.mono _ _ _ _|exact LeO.refl _|exact LeO.none _|refine LeO.ite ?_ ?_|refine LeO.bind ?_ (fun _ => ?_))|exact ih0 _ _|exact ih1 _ _ _|exact ih2 _ _|exact ih3 _ _ _|exact ih4 _ _ _ _ _|exact ih5 _ _ _ _ _ _ _|exact ih6 _ _ _ _ _ _ _ _|exact ih7 _ _|exact madrigalref1_Clamp.mono _ _ _ _|exact madrigalref1_Div.mono _ _ _ _|exact madrigalref1_Mul.mono _ _ _ _|exact madrigalref6_Fit.mono _ _|exact madrigalref6_clamped.mono _ _ _ _|exact LeO.none _|refine LeO.ite ?_ ?_|refine LeO.bind ?_ (fun _ => ?_))
theorem madrigalref6_Solve.mono : ∀ a0 k,LeO (madrigalref6_Solve.f k a0) (madrigalref6_Solve.f (k + 1) a0):=by
 intro a0 k
 obtain ⟨ih0,ih1,ih2,ih3,ih4,ih5,ih6,ih7⟩:=madrigalref6_Solve.mono_l k
 unfold madrigalref6_Solve.f
 repeat' first|(with_reducible first|exact ih0 _ _|exact ih1 _ _ _|exact ih2 _ _|exact ih3 _ _ _|exact ih4 _ _ _ _ _|exact ih5 _ _ _ _ _ _ _|exact ih6 _ _ _ _ _ _ _ _|exact ih7 _ _|exact madrigalref1_Clamp.mono _ _ _ _|exact madrigalref1_Div.mono _ _ _ _|exact madrigalref1_Mul.mono _ _ _ _|exact madrigalref6_Fit.mono _ _|exact madrigalref6_clamped.mono _ _ _ _|exact LeO.refl _|exact LeO.none _|refine LeO.ite ?_ ?_|refine LeO.bind ?_ (fun _ => ?_))|exact ih0 _ _|exact ih1 _ _ _|exact ih2 _ _|exact ih3 _ _ _|exact ih4 _ _ _ _ _|exact ih5 _ _ _ _ _ _ _|exact ih6 _ _ _ _ _ _ _ _|exact ih7 _ _|exact madrigalref1_Clamp.mono _ _ _ _|exact madrigalref1_Div.mono _ _ _ _|exact madrigalref1_Mul.mono _ _ _ _|exact madrigalref6_Fit.mono _ _|exact madrigalref6_clamped.mono _ _ _ _|exact LeO.none _|refine LeO.ite ?_ ?_|refine LeO.bind ?_ (fun _ => ?_)
def madrigalref6_Solve.T15 : Bool × List (List Nat × List Nat):=(true,[([],[]),([],[]),([1],[1]),([2],[2]),([],[]),([4],[4]),([5],[5]),([6],[6]),([3,7],[3,7]),([8],[8]),([0,0,1,2,3,4,5,6,7,8,9],[0]),([10,9,0,1,2,3,4,5,6,7,8,9],[9,10])])
def madrigalref6_Solve.B15 : List Nat:=[0,0,2,6,0,16,48,112,254,510,1023,2047]
theorem madrigalref6_Solve.tab15 : rtab .any (opsOf Try.f18 15) = madrigalref6_Solve.T15:=by kernel_rfl
theorem madrigalref6_Solve.bits15 : waitsOk madrigalref6_Solve.T15.2 madrigalref6_Solve.B15 = true:=by kernel_rfl
def madrigalref6_Solve.T25 : Bool × List (List Nat × List Nat):=(true,[([],[]),([],[]),([],[]),([1,2],[1,2]),([3],[3]),([],[]),([],[]),([],[]),([6,7],[6,7]),([5,8],[5,8]),([9],[9]),([4,10],[4,10]),([0,11],[0,11]),([12,11,0,1,2,3,4,5,6,7,8,9,10,11,12],[0,12])])
def madrigalref6_Solve.B25 : List Nat:=[0,0,0,6,14,0,0,0,192,480,992,2046,4095,8191]
theorem madrigalref6_Solve.tab25 : rtab .any (opsOf Try.f18 25) = madrigalref6_Solve.T25:=by kernel_rfl
theorem madrigalref6_Solve.bits25 : waitsOk madrigalref6_Solve.T25.2 madrigalref6_Solve.B25 = true:=by kernel_rfl
def madrigalref6_Solve.T31 : Bool × List (List Nat × List Nat):=(true,[([],[]),([],[]),([],[]),([1,2],[1,2]),([3],[3]),([],[]),([],[]),([],[]),([7],[7]),([],[]),([8,9],[8,9]),([6,10],[6,10]),([11],[11]),([5,12],[5,12]),([4,13],[4,13]),([14,13],[14]),([15],[15]),([0,16,15],[0,16]),([17,17,0,1,2,3,4,5,6,7,8,9,10,11,12,13,14,15,16,17],[0,17])])
def madrigalref6_Solve.B31 : List Nat:=[0,0,0,6,14,0,0,0,128,0,896,1984,4032,8160,16382,32766,65534,131071,262143]
theorem madrigalref6_Solve.tab31 : rtab .any (opsOf Try.f18 31) = madrigalref6_Solve.T31:=by kernel_rfl
theorem madrigalref6_Solve.bits31 : waitsOk madrigalref6_Solve.T31.2 madrigalref6_Solve.B31 = true:=by kernel_rfl
set_option maxHeartbeats 8000000 in
set_option maxRecDepth 100000 in
theorem madrigalref6_Solve.calls (k : Nat) (A0 : Option Addr) (c0 : Nat) (l0 : List Int) (r : List Int) (w : World) (hr0 : Kd.C (Kd.int .i64) w A0 l0.length l0) (hc0 : l0.length ≤ c0) (h : madrigalref6_Solve.f k l0 = some r) :
  Calls Try.prog 18 #[.slice A0 l0.length c0] w fun e w' => ∃ v0_ : Value,e = .returned (v0_) ∧ Kd.R (Kd.int .i64) 2 w' w.heap.size (fun _ => True) v0_ r ∧ Below w.heap.size w w':=by
 have HR0:=ak_ hr0
 have HC0:=ak_ hc0
 clear hr0 hc0
 have HB:=ak_ (Below.refl w.heap.size w)
 have H : (if 0 < (l0.length : Int) then (if (rd l0 0) < 1 then (if 0 ≤ (wrap64 ((l0.length : Int) - 1)) then (if (wrap64 ((l0.length : Int) - 1) : Int).toNat ≤ 35184372088832 then (some (List.replicate (wrap64 ((l0.length : Int) - 1) : Int).toNat 0)) else (none)) else (none)) else ((madrigalref6_clamped.f k l0 (-2199023255552) 2199023255552).bind fun t500 => (madrigalref6_Solve.l0 k t500 (wrap64 ((l0.length : Int) - 1))))) else (none)) = some r:=h
 clear h
 by_cases c2 : 0 < (l0.length : Int)
 ·rw [if_pos c2] at H
  have c2b0:=decide_eq_true c2
  have c2b1 : decide (0 < l0.length) = true:=decide_eq_true (by omega)
  clear c2
  by_cases c3 : (rd l0 0) < 1
  ·rw [if_pos c3] at H
   have c3b0:=decide_eq_true c3
   clear c3
   obtain ⟨ji4,hji4⟩ : ∃ j_ : Int,(wrap64 ((l0.length : Int) - 1)) = j_:=⟨_,rfl⟩
   replace H : (if 0 ≤ (ji4) then (if (ji4 : Int).toNat ≤ 35184372088832 then (some (List.replicate (ji4 : Int).toNat 0)) else (none)) else (none)) = some r:=by first|(rw [hji4] at H;exact H)|(simp only [hji4] at H ⊢;exact H)
   have hji4w : (IntKind.i64.wrap ((l0.length : Int) - 1)) = ji4:=(i64_w _).trans hji4
   by_cases c5 : 0 ≤ (ji4)
   ·rw [if_pos c5] at H
    have c5b0:=eq_true c5
    have c5b1 : decide (0 ≤ (ji4)) = true:=decide_eq_true c5
    clear c5
    by_cases c6 : (ji4 : Int).toNat ≤ 35184372088832
    ·rw [if_pos c6] at H
     have c6b0:=eq_true c6
     have c6b1 : decide ((ji4 : Int).toNat ≤ 35184372088832) = true:=decide_eq_true c6
     clear c6
     obtain ⟨y497,hy497⟩ : ∃ y_ : List Int,y_ = (List.replicate (ji4 : Int).toNat 0):=⟨_,rfl⟩
     replace H : (some y497) = some r:=by first|(rw [hy497];with_reducible exact H)|(have H2_:=(Option.bind_some _ _).symm.trans H;rw [hy497];with_reducible exact H2_)|(have H2_:=(Option.bind_some _ _).symm.trans H;with_reducible exact H2_)|with_reducible exact H|(rw [hy497];exact H)|exact H
     have Ny497:=ak_ hy497
     clear hy497
     obtain rfl:=Option.some.inj H
     have p496 : 0 ≤ (0 : Int):=(by omega)
     have q496 : 0 < (l0.length : Int):=of_decide_eq_true (by first|(with_reducible assumption)|assumption)
     obtain ⟨ad496,e496,hx496_0⟩:=Kd.at_int HR0.out 0 p496 q496
     cases e496
     have qi496 : (0 < l0.length) = True:=eq_true (by omega)
     (try rw [show ((0 : Int)).toNat = 0 from rfl] at hx496_0)
     (try rw [Addr.add_zero'] at hx496_0)
     replace p496:=eq_true p496
     replace q496:=eq_true q496
     go_enter Try.func18,Try.ntmps18
     go_wp2_with (first|((with_reducible refine gate_dst (N:=23) rfl ?_);refine Kd.R_make (Kd.int .i64) _ 2 rfl (N:=23) rfl 23 _ _ rfl ji4 rfl rfl Try.underlying23 (.int .i64 0) 8 info2 rfl (by decide) (by omega) 0 (ok:=fun _ => True) (okp:=fun _ => True) rfl (fun _ hk => hk) trivial (of_decide_eq_true (by first|(with_reducible assumption)|assumption)) (Nat.le_trans (Nat.mul_le_mul_right _ (of_decide_eq_true (by first|(with_reducible assumption)|assumption) : ji4.toNat ≤ 35184372088832)) (by omega)) (Below.refl _ _) (Nat.le_refl _) ?_;intro v498 w7 ho8 hb hg_ hnew_;clear hg_ hnew_;(first|rw [← Ny497.out] at ho8|(simp only [Int.reduceToNat] at ho8;rw [← Ny497.out] at ho8));have n0_:=ak_ (Kd.R_lower ho8 (below_size (by repeat (first|(with_reducible first|exact HB.out|apply ba_|apply bb_|apply bc_)|exact HB.out))));have n1_:=ak_ (below_step (by repeat (first|(with_reducible first|exact HB.out|apply ba_|apply bb_|apply bc_)|exact HB.out)) hb);clear HB;have HO499:=n0_;have HB:=n1_;clear n0_ n1_;clear hb ho8))
     go_ret
     exact ⟨_,by first|rfl|(simp [errW_none,errW_some] <;> rfl)|(simp only [← hji4];first|rfl|(simp [errW_none,errW_some] <;> rfl))|(simp [*,errW_none,errW_some] <;> rfl),by (with_reducible repeat (first|apply ra_|apply rb_|apply rc_));exact HO499.out,by repeat (first|(with_reducible first|exact HB.out|apply ba_|apply bb_|apply bc_)|exact HB.out)⟩
    ·rw [if_neg c6] at H
     exact absurd H (by simp)
   ·rw [if_neg c5] at H
    exact absurd H (by simp)
  ·rw [if_neg c3] at H
   have c3b0:=decide_eq_false c3
   clear c3
   replace H:=Option.bind_eq_some_iff.mp H
   obtain ⟨t500,A90,H⟩:=H
   (try dsimp only at H)
   have A9:=ak_ A90
   clear A90
   have H':=ak_ H
   clear H
   have p496 : 0 ≤ (0 : Int):=(by omega)
   have q496 : 0 < (l0.length : Int):=of_decide_eq_true (by first|(with_reducible assumption)|assumption)
   obtain ⟨ad496,e496,hx496_0⟩:=Kd.at_int HR0.out 0 p496 q496
   cases e496
   have qi496 : (0 < l0.length) = True:=eq_true (by omega)
   (try rw [show ((0 : Int)).toNat = 0 from rfl] at hx496_0)
   (try rw [Addr.add_zero'] at hx496_0)
   replace p496:=eq_true p496
   replace q496:=eq_true q496
   go_enter Try.func18,Try.ntmps18
   go_wp2_with (first|((with_reducible refine gate_callee (f:=31) rfl ?_);refine goesL_ (some 25) rfl rfl Try.func31 (by kernel_rfl) rfl #[.slice (some ad496) l0.length c0,.int .i64 (-2199023255552),.int .i64 2199023255552] rfl (by (try simp only [List.map_toArray,List.map_cons,List.map_nil]);first|done|rfl|(simp only [List.length_drop,List.length_take];rfl)) ?_;(with_reducible refine (madrigalref6_clamped.calls k _ _ l0 (-2199023255552) 2199023255552 t500 _ ?side1 ?side2 A9.out).mono ?_);(case side1 => repeat (first|exact HR0.out|(with_reducible refine Kd.C_alloc ?_ _)|(with_reducible refine Kd.C_drewN ?_ _)|(with_reducible refine Kd.C_drew ?_)));(case side2 => exact HC0.out);rintro e w10 ⟨v501,rfl,ho0,hb⟩;refine ⟨_,rfl,?_⟩;have n0_:=ak_ (Kd.R_lower ho0 (below_size (by repeat (first|(with_reducible first|exact HB.out|apply ba_|apply bb_|apply bc_)|exact HB.out))));have n1_:=ak_ (below_step (by repeat (first|(with_reducible first|exact HB.out|apply ba_|apply bb_|apply bc_)|exact HB.out)) hb);clear HB;have HO502:=n0_;have HB:=n1_;clear n0_ n1_;(try clear hb);(try clear ho0)))
   go_loopg [] k (fun kq w' => ∃ (x0_1 : List Int),Aside0 (madrigalref6_Solve.l0 kq x0_1 (wrap64 ((l0.length : Int) - 1)) = some r) ∧ Aside0 (kq ≤ k) ∧ Aside0 (Kd.R (Kd.int .i64) 2 w' w.heap.size (fun _ => True) v501 x0_1) ∧ Aside0 (Below w.heap.size w w'))
   case atStart => exact ⟨(t500),H',⟨Nat.le_refl _⟩,⟨by (with_reducible repeat (first|apply ra_|apply rb_|apply rc_));exact HO502.out⟩,⟨by repeat (first|(with_reducible first|exact HB.out|apply ba_|apply bb_|apply bc_)|exact HB.out)⟩⟩
   case round => as_aux_lemma =>
    clear H'
    try clear c1
    try clear c2
    try clear c2b0
    try clear c2b1
    try clear p2
    try clear c3
    try clear c3b0
    try clear p4
    try clear q4
    try clear hx4
    try clear qi4
    try clear c5
    try clear c5b0
    try clear c5b1
    try clear c6
    try clear c6b0
    try clear c6b1
    try clear p6
    try clear hx496_0
    try clear p496
    try clear q496
    obtain ⟨x0_1,HA,HK1,HO_0,HB⟩:=hrel
    (try simp only [i64_w,i32_w])
    cases gk with
    | zero => exact absurd HA.out (by simp [madrigalref6_Solve.l0])
    | succ k1 =>
     have H:=HA.out
     clear HA
     simp only [madrigalref6_Solve.l0] at H
     by_cases c11 : 0 < (x0_1.length : Int)
     ·rw [if_pos c11] at H
      have c11b0:=decide_eq_true c11
      have c11b1 : decide (0 < x0_1.length) = true:=decide_eq_true (by omega)
      clear c11
      by_cases c12 : (rd x0_1 0) < 536870912
      ·rw [if_pos c12] at H
       have c12b0:=decide_eq_true c12
       clear c12
       have H':=ak_ H
       clear H
       obtain ⟨Ao13,co13,eo13⟩:=Kd.R_slice HO_0.out
       subst eo13
       have p503 : 0 ≤ (0 : Int):=(by omega)
       have q503 : 0 < (x0_1.length : Int):=of_decide_eq_true (by first|(with_reducible assumption)|assumption)
       obtain ⟨ad503,e503,hx503_0⟩:=Kd.at_int (Kd.R_reads' HO_0.out).2.2 0 p503 q503
       cases e503
       have qi503 : (0 < x0_1.length) = True:=eq_true (by omega)
       (try rw [show ((0 : Int)).toNat = 0 from rfl] at hx503_0)
       (try rw [Addr.add_zero'] at hx503_0)
       replace p503:=eq_true p503
       replace q503:=eq_true q503
       go_wp2
       go_loopg [4] k1 (fun kq v4 w' => ∃ (x0_2 : List Int) (x4_2 : Int),v4 = .int .i64 x4_2 ∧ Aside0 (madrigalref6_Solve.l1 kq x0_2 (wrap64 ((l0.length : Int) - 1)) x4_2 = some r) ∧ Aside0 (kq ≤ k1) ∧ Aside0 (Kd.R (Kd.int .i64) 2 w' w.heap.size (fun _ => True) (.slice (some ad503) x0_1.length co13) x0_2) ∧ Aside0 (Below w.heap.size w w'))
       case atStart => exact ⟨(x0_1),(0),(by first|rfl|(simp;done)|(simp [*];done)),H',⟨Nat.le_refl _⟩,⟨by (with_reducible repeat (first|apply ra_|apply rb_|apply rc_));exact HO_0.out⟩,⟨by repeat (first|(with_reducible first|exact HB.out|apply ba_|apply bb_|apply bc_)|exact HB.out)⟩⟩
       case round => as_aux_lemma =>
        clear H'
        try clear c1
        try clear c2
        try clear c2b0
        try clear c2b1
        try clear p2
        try clear c3
        try clear c3b0
        try clear p4
        try clear q4
        try clear hx4
        try clear qi4
        try clear c5
        try clear c5b0
        try clear c5b1
        try clear p5
        try clear q5
        try clear hx5
        try clear qi5
        try clear c6
        try clear c6b0
        try clear c6b1
        try clear p6
        try clear c11
        try clear c11b0
        try clear c11b1
        try clear c12
        try clear c12b0
        try clear hx496_0
        try clear hx503_0
        try clear p2
        try clear p4
        try clear p496
        try clear p503
        try clear p6
        try clear q4
        try clear q496
        try clear q503
        obtain ⟨x0_2,x4_2,rfl,HA,HK2,HO_0,HB⟩:=hrel
        (try simp only [i64_w,i32_w])
        have hl0_2:=(Kd.R_reads' HO_0.out).1
        rw [hl0_2] at HO_0
        (try simp only [hl0_2])
        cases gk with
        | zero => exact absurd HA.out (by simp [madrigalref6_Solve.l1])
        | succ k2 =>
         have H:=HA.out
         clear HA
         simp only [madrigalref6_Solve.l1] at H
         by_cases c14 : x4_2 < (x0_2.length : Int)
         ·rw [if_pos c14] at H
          have c14b0:=decide_eq_true c14
          (try (have c14h0:=c14b0;simp only [hl0_2] at c14h0))
          clear c14
          by_cases c15 : 0 ≤ x4_2
          ·rw [if_pos c15] at H
           have c15b0:=decide_eq_true c15
           (try (have c15h0:=c15b0;simp only [hl0_2] at c15h0))
           clear c15
           replace H:=Option.bind_eq_some_iff.mp H
           obtain ⟨t505,A160,H⟩:=H
           (try dsimp only at H)
           have A16:=ak_ A160
           clear A160
           obtain ⟨y506,hy506⟩ : ∃ y_ : List Int,y_ = (x0_2.set (x4_2 : Int).toNat t505):=⟨_,rfl⟩
           replace H : (madrigalref6_Solve.l1 k2 y506 (wrap64 ((l0.length : Int) - 1)) (wrap64 (x4_2 + 1))) = some r:=by first|(rw [hy506];with_reducible exact H)|(have H2_:=(Option.bind_some _ _).symm.trans H;rw [hy506];with_reducible exact H2_)|(have H2_:=(Option.bind_some _ _).symm.trans H;with_reducible exact H2_)|with_reducible exact H|(rw [hy506];exact H)|exact H
           have Ny506:=ak_ hy506
           clear hy506
           have H':=ak_ H
           clear H
           have p504 : 0 ≤ (x4_2 : Int):=of_decide_eq_true (by first|(with_reducible assumption)|assumption)
           have q504 : x4_2 < (x0_2.length : Int):=of_decide_eq_true (by first|(with_reducible assumption)|assumption)
           obtain ⟨ad504,e504,hx504_0⟩:=Kd.at_int (Kd.R_reads' HO_0.out).2.2 x4_2 p504 q504
           obtain rfl : ad503 = ad504:=(by injection e504)
           replace p504:=eq_true p504
           replace q504:=eq_true q504
           go_wp2_with (first|((with_reducible refine gate_callee (f:=32) rfl ?_);refine goesL_ (some 43) rfl rfl Try.func32 (by kernel_rfl) rfl #[.int .i64 (wrap64 ((rd x0_2 x4_2) * 2)),.int .i64 (-1125899906842624),.int .i64 1125899906842624] rfl (by (try simp only [List.map_toArray,List.map_cons,List.map_nil]);first|done|rfl|(simp only [List.length_drop,List.length_take];rfl)) ?_;(with_reducible refine (madrigalref1_Clamp.calls k2 (wrap64 ((rd x0_2 x4_2) * 2)) (-1125899906842624) 1125899906842624 t505 _ A16.out).mono ?_);rintro e w' ⟨rfl,⟨nd,rfl⟩⟩;refine ⟨_,rfl,?_⟩;(try (rw [drewN_self wr];generalize hq_ : World.drewN wr _ = wr;have n0_ : Aside0 (Kd.R (Kd.int .i64) 2 wr w.heap.size (fun _ => True) (.slice (some ad503) x0_2.length co13) x0_2):=⟨by rw [← hq_];exact (by (with_reducible repeat (first|apply ra_|apply rb_|apply rc_));exact HO_0.out)⟩;have n1_ : Aside0 (Below w.heap.size w wr):=⟨by rw [← hq_];exact (by repeat (first|(with_reducible first|exact HB.out|apply ba_|apply bb_|apply bc_)|exact HB.out))⟩;clear HO_0 HB hq_;have HO_0:=n0_;have HB:=n1_;clear n0_ n1_));have p17 : 0 ≤ (x4_2 : Int):=of_decide_eq_true (by first|(with_reducible assumption)|assumption);have q17 : (x4_2 : Int) < ((x0_2.length : Int) : Int):=of_decide_eq_true (by first|(with_reducible assumption)|assumption);obtain ⟨go17,co17,eo17,gb17,gl17,cl17,HG17⟩:=Kd.R_form HO_0.out (by omega);(first|cases eo17|(injection eo17 with ea_ en_ ec_;(first|subst ea_|(injection ea_ with ea_;subst ea_));subst ec_;clear en_));have GB17:=ak_ gb17;have GG17:=ak_ HG17;clear gb17 gl17 HG17;(first|simp only [add_plain] at hx503_0|skip);(first|simp only [add_plain] at hx504_0|skip);obtain ⟨hx17_0,hf17_0⟩:=Kd.R_celln 0 HO_0.out (x4_2 : Int) p17 q17;replace p17:=eq_true p17;replace q17:=eq_true q17;obtain ⟨hy18_,hz18_⟩:=Kd.R_celln 0 HO_0.out (x4_2 : Int) (of_decide_eq_true (by first|(with_reducible assumption)|assumption)) (of_decide_eq_true (by first|(with_reducible assumption)|assumption));have HP18:=Kd.R_putg HO_0.out (x4_2 : Int) t505)|((with_reducible refine gate_store (t:=2) (p:=44) rfl ?_);refine store_event (t:=2) (p:=44) (v:=?vo_w19) (w1:=(wr.setCell ⟨go17,(x4_2 : Int).toNat,none⟩ (.int .i64 t505))) ?hg ?ho ?hn ?hr ?_;(case ho => rfl);(case hg => rfl);(case hn => rfl);(case hr => first|(go_simp;done)|(go_simp;rfl));intro w19 hw;have hg : wr.grownBy w19 (some go17):=(by rw [hw];exact HP18.2);have hp_ : Kd.R (Kd.int .i64) 2 w19 w.heap.size (fun _ => True) (.slice (some ⟨go17,0,none⟩) x0_2.length co13) y506:=(by rw [hw,Ny506.out];exact HP18.1);clear HP18;have n0_:=ak_ (hp_);have n1_:=ak_ ((by rw [hw];exact below_set (HB.out) GB17.out : Below w.heap.size w w19));clear HO_0;clear HB;have HO_0:=n0_;have HB:=n1_;clear n0_ n1_;clear hg hw hp_))
           (try simp only [← hl0_2])
           go_roundg k2
           case measure => have:=HK1.out;have:=HK2.out;omega
           case rel => exact ⟨(y506),(wrap64 (x4_2 + 1)),(by first|rfl|(simp;done)|(simp [*];done)),H',⟨by have:=HK1.out;have:=HK2.out;omega⟩,⟨by (try simp only [hl0_2]);(with_reducible repeat (first|apply ra_|apply rb_|apply rc_));exact HO_0.out⟩,⟨by repeat (first|(with_reducible first|exact HB.out|apply ba_|apply bb_|apply bc_)|exact HB.out)⟩⟩
          ·rw [if_neg c15] at H
           exact absurd H (by simp)
         ·rw [if_neg c14] at H
          have c14b0:=decide_eq_false c14
          (try (have c14h0:=c14b0;simp only [hl0_2] at c14h0))
          clear c14
          have H':=ak_ H
          clear H
          go_wp2
          (try simp only [← hl0_2])
          go_roundg k2
          case measure => have:=HK1.out;have:=HK2.out;omega
          case rel => exact ⟨(x0_2),H',⟨by have:=HK1.out;have:=HK2.out;omega⟩,⟨by (try simp only [hl0_2]);(with_reducible repeat (first|apply ra_|apply rb_|apply rc_));exact HO_0.out⟩,⟨by repeat (first|(with_reducible first|exact HB.out|apply ba_|apply bb_|apply bc_)|exact HB.out)⟩⟩
      ·rw [if_neg c12] at H
       have c12b0:=decide_eq_false c12
       clear c12
       have H':=ak_ H
       clear H
       obtain ⟨Ao20,co20,eo20⟩:=Kd.R_slice HO_0.out
       subst eo20
       have p503 : 0 ≤ (0 : Int):=(by omega)
       have q503 : 0 < (x0_1.length : Int):=of_decide_eq_true (by first|(with_reducible assumption)|assumption)
       obtain ⟨ad503,e503,hx503_0⟩:=Kd.at_int (Kd.R_reads' HO_0.out).2.2 0 p503 q503
       cases e503
       have qi503 : (0 < x0_1.length) = True:=eq_true (by omega)
       (try rw [show ((0 : Int)).toNat = 0 from rfl] at hx503_0)
       (try rw [Addr.add_zero'] at hx503_0)
       replace p503:=eq_true p503
       replace q503:=eq_true q503
       go_wp2
       go_loopg [] k1 (fun kq w' => ∃ (x0_2 : List Int),Aside0 (madrigalref6_Solve.l2 kq x0_2 (wrap64 ((l0.length : Int) - 1)) = some r) ∧ Aside0 (kq ≤ k1) ∧ Aside0 (Kd.R (Kd.int .i64) 2 w' w.heap.size (fun _ => True) (.slice (some ad503) x0_1.length co20) x0_2) ∧ Aside0 (Below w.heap.size w w'))
       case atStart => exact ⟨(x0_1),H',⟨Nat.le_refl _⟩,⟨by (with_reducible repeat (first|apply ra_|apply rb_|apply rc_));exact HO_0.out⟩,⟨by repeat (first|(with_reducible first|exact HB.out|apply ba_|apply bb_|apply bc_)|exact HB.out)⟩⟩
       case round => as_aux_lemma =>
        clear H'
        try clear c1
        try clear p1
        try clear q1
        try clear hx1
        try clear hf1
        try clear c2
        try clear c2b0
        try clear c2b1
        try clear p2
        try clear c3
        try clear c3b0
        try clear p4
        try clear q4
        try clear hx4
        try clear qi4
        try clear c5
        try clear c5b0
        try clear c5b1
        try clear p5
        try clear q5
        try clear hx5
        try clear qi5
        try clear c6
        try clear c6b0
        try clear c6b1
        try clear p6
        try clear c11
        try clear c11b0
        try clear c11b1
        try clear c12
        try clear c12b0
        try clear c14
        try clear c14b0
        try clear c14h0
        try clear c15
        try clear c15b0
        try clear c15h0
        try clear p17
        try clear q17
        try clear hx17
        try clear hf17
        try clear c18
        try clear hx17_0
        try clear hx496_0
        try clear hx503_0
        try clear hx504_0
        try clear p17
        try clear p2
        try clear p4
        try clear p496
        try clear p5
        try clear p503
        try clear p504
        try clear p6
        try clear q17
        try clear q4
        try clear q496
        try clear q5
        try clear q503
        try clear q504
        obtain ⟨x0_2,HA,HK2,HO_0,HB⟩:=hrel
        (try simp only [i64_w,i32_w])
        have hl0_2:=(Kd.R_reads' HO_0.out).1
        rw [hl0_2] at HO_0
        (try simp only [hl0_2])
        cases gk with
        | zero => exact absurd HA.out (by simp [madrigalref6_Solve.l2])
        | succ k2 =>
         have H:=HA.out
         clear HA
         simp only [madrigalref6_Solve.l2] at H
         by_cases c21 : 0 < (x0_2.length : Int)
         ·rw [if_pos c21] at H
          have c21b0:=decide_eq_true c21
          have c21b1 : decide (0 < x0_2.length) = true:=decide_eq_true (by omega)
          (try (have c21h0:=c21b0;simp only [hl0_2] at c21h0))
          (try (have c21h1:=c21b1;simp only [hl0_2] at c21h1))
          clear c21
          by_cases c22 : (rd x0_2 0) ≥ 1073741824
          ·rw [if_pos c22] at H
           have c22b0 : decide (1073741824 ≤ (rd x0_2 0)) = true:=decide_eq_true c22
           (try (have c22h0:=c22b0;simp only [hl0_2] at c22h0))
           clear c22
           have H':=ak_ H
           clear H
           have p507 : 0 ≤ (0 : Int):=(by omega)
           have q507 : 0 < (x0_2.length : Int):=of_decide_eq_true (by first|(with_reducible assumption)|assumption)
           obtain ⟨ad507,e507,hx507_0⟩:=Kd.at_int (Kd.R_reads' HO_0.out).2.2 0 p507 q507
           obtain rfl : ad503 = ad507:=(by injection e507)
           have qi507 : (0 < x0_2.length) = True:=eq_true (by omega)
           (try rw [show ((0 : Int)).toNat = 0 from rfl] at hx507_0)
           (try rw [Addr.add_zero'] at hx507_0)
           replace p507:=eq_true p507
           replace q507:=eq_true q507
           go_wp2
           go_loopg [5] k2 (fun kq v5 w' => ∃ (x0_3 : List Int) (x5_3 : Int),v5 = .int .i64 x5_3 ∧ Aside0 (madrigalref6_Solve.l3 kq x0_3 (wrap64 ((l0.length : Int) - 1)) x5_3 = some r) ∧ Aside0 (kq ≤ k2) ∧ Aside0 (Kd.R (Kd.int .i64) 2 w' w.heap.size (fun _ => True) (.slice (some ad503) x0_2.length co20) x0_3) ∧ Aside0 (Below w.heap.size w w'))
           case atStart => exact ⟨(x0_2),(0),(by first|rfl|(simp;done)|(simp [*];done)),H',⟨Nat.le_refl _⟩,⟨by (try simp only [hl0_2]);(with_reducible repeat (first|apply ra_|apply rb_|apply rc_));exact HO_0.out⟩,⟨by repeat (first|(with_reducible first|exact HB.out|apply ba_|apply bb_|apply bc_)|exact HB.out)⟩⟩
           case round => as_aux_lemma =>
            clear H'
            try clear c1
            try clear p1
            try clear q1
            try clear hx1
            try clear hf1
            try clear c2
            try clear c2b0
            try clear c2b1
            try clear p2
            try clear c3
            try clear c3b0
            try clear p4
            try clear q4
            try clear hx4
            try clear qi4
            try clear c5
            try clear c5b0
            try clear c5b1
            try clear p5
            try clear q5
            try clear hx5
            try clear qi5
            try clear c6
            try clear c6b0
            try clear c6b1
            try clear p6
            try clear c11
            try clear c11b0
            try clear c11b1
            try clear c12
            try clear c12b0
            try clear c14
            try clear c14b0
            try clear c14h0
            try clear c15
            try clear c15b0
            try clear c15h0
            try clear p17
            try clear q17
            try clear hx17
            try clear hf17
            try clear c18
            try clear c21
            try clear c21b0
            try clear c21b1
            try clear c21h0
            try clear c21h1
            try clear c22
            try clear c22b0
            try clear c22h0
            try clear hx17_0
            try clear hx496_0
            try clear hx503_0
            try clear hx504_0
            try clear hx507_0
            try clear p1
            try clear p17
            try clear p2
            try clear p4
            try clear p496
            try clear p5
            try clear p503
            try clear p504
            try clear p507
            try clear p6
            try clear q1
            try clear q17
            try clear q4
            try clear q496
            try clear q5
            try clear q503
            try clear q504
            try clear q507
            obtain ⟨x0_3,x5_3,rfl,HA,HK3,HO_0,HB⟩:=hrel
            (try simp only [i64_w,i32_w])
            have hl0_3:=(Kd.R_reads' HO_0.out).1
            rw [hl0_3] at HO_0
            (try simp only [hl0_3])
            cases gk with
            | zero => exact absurd HA.out (by simp [madrigalref6_Solve.l3])
            | succ k3 =>
             have H:=HA.out
             clear HA
             simp only [madrigalref6_Solve.l3] at H
             by_cases c23 : x5_3 < (x0_3.length : Int)
             ·rw [if_pos c23] at H
              have c23b0:=decide_eq_true c23
              (try (have c23h0:=c23b0;simp only [hl0_2,hl0_3] at c23h0))
              clear c23
              by_cases c24 : 0 ≤ x5_3
              ·rw [if_pos c24] at H
               have c24b0:=decide_eq_true c24
               (try (have c24h0:=c24b0;simp only [hl0_2,hl0_3] at c24h0))
               clear c24
               replace H:=Option.bind_eq_some_iff.mp H
               obtain ⟨t509,A250,H⟩:=H
               (try dsimp only at H)
               have A25:=ak_ A250
               clear A250
               obtain ⟨y510,hy510⟩ : ∃ y_ : List Int,y_ = (x0_3.set (x5_3 : Int).toNat t509):=⟨_,rfl⟩
               replace H : (madrigalref6_Solve.l3 k3 y510 (wrap64 ((l0.length : Int) - 1)) (wrap64 (x5_3 + 1))) = some r:=by first|(rw [hy510];with_reducible exact H)|(have H2_:=(Option.bind_some _ _).symm.trans H;rw [hy510];with_reducible exact H2_)|(have H2_:=(Option.bind_some _ _).symm.trans H;with_reducible exact H2_)|with_reducible exact H|(rw [hy510];exact H)|exact H
               have Ny510:=ak_ hy510
               clear hy510
               have H':=ak_ H
               clear H
               have p508 : 0 ≤ (x5_3 : Int):=of_decide_eq_true (by first|(with_reducible assumption)|assumption)
               have q508 : x5_3 < (x0_3.length : Int):=of_decide_eq_true (by first|(with_reducible assumption)|assumption)
               obtain ⟨ad508,e508,hx508_0⟩:=Kd.at_int (Kd.R_reads' HO_0.out).2.2 x5_3 p508 q508
               obtain rfl : ad503 = ad508:=(by injection e508)
               replace p508:=eq_true p508
               replace q508:=eq_true q508
               go_wp2_with (first|((with_reducible refine gate_callee (f:=33) rfl ?_);refine goesL_ (some 61) rfl rfl Try.func33 (by kernel_rfl) rfl #[.int .i64 (rd x0_3 x5_3),.int .i64 2] rfl (by (try simp only [List.map_toArray,List.map_cons,List.map_nil]);first|done|rfl|(simp only [List.length_drop,List.length_take];rfl)) ?_;(with_reducible refine (madrigalref1_Down.calls (rd x0_3 x5_3) 2 t509 _ A25.out).mono ?_);rintro e w' ⟨rfl,⟨nd,rfl⟩⟩;refine ⟨_,rfl,?_⟩;(try (rw [drewN_self wr];generalize hq_ : World.drewN wr _ = wr;have n0_ : Aside0 (Kd.R (Kd.int .i64) 2 wr w.heap.size (fun _ => True) (.slice (some ad503) x0_3.length co20) x0_3):=⟨by rw [← hq_];exact (by (with_reducible repeat (first|apply ra_|apply rb_|apply rc_));exact HO_0.out)⟩;have n1_ : Aside0 (Below w.heap.size w wr):=⟨by rw [← hq_];exact (by repeat (first|(with_reducible first|exact HB.out|apply ba_|apply bb_|apply bc_)|exact HB.out))⟩;clear HO_0 HB hq_;have HO_0:=n0_;have HB:=n1_;clear n0_ n1_));have p26 : 0 ≤ (x5_3 : Int):=of_decide_eq_true (by first|(with_reducible assumption)|assumption);have q26 : (x5_3 : Int) < ((x0_3.length : Int) : Int):=of_decide_eq_true (by first|(with_reducible assumption)|assumption);obtain ⟨go26,co26,eo26,gb26,gl26,cl26,HG26⟩:=Kd.R_form HO_0.out (by omega);(first|cases eo26|(injection eo26 with ea_ en_ ec_;(first|subst ea_|(injection ea_ with ea_;subst ea_));subst ec_;clear en_));have GB26:=ak_ gb26;have GG26:=ak_ HG26;clear gb26 gl26 HG26;(first|simp only [add_plain] at hx503_0|skip);(first|simp only [add_plain] at hx507_0|skip);(first|simp only [add_plain] at hx508_0|skip);obtain ⟨hx26_0,hf26_0⟩:=Kd.R_celln 0 HO_0.out (x5_3 : Int) p26 q26;replace p26:=eq_true p26;replace q26:=eq_true q26;obtain ⟨hy27_,hz27_⟩:=Kd.R_celln 0 HO_0.out (x5_3 : Int) (of_decide_eq_true (by first|(with_reducible assumption)|assumption)) (of_decide_eq_true (by first|(with_reducible assumption)|assumption));have HP27:=Kd.R_putg HO_0.out (x5_3 : Int) t509)|((with_reducible refine gate_store (t:=2) (p:=62) rfl ?_);refine store_event (t:=2) (p:=62) (v:=?vo_w28) (w1:=(wr.setCell ⟨go26,(x5_3 : Int).toNat,none⟩ (.int .i64 t509))) ?hg ?ho ?hn ?hr ?_;(case ho => rfl);(case hg => rfl);(case hn => rfl);(case hr => first|(go_simp;done)|(go_simp;rfl));intro w28 hw;have hg : wr.grownBy w28 (some go26):=(by rw [hw];exact HP27.2);have hp_ : Kd.R (Kd.int .i64) 2 w28 w.heap.size (fun _ => True) (.slice (some ⟨go26,0,none⟩) x0_3.length co20) y510:=(by rw [hw,Ny510.out];exact HP27.1);clear HP27;have n0_:=ak_ (hp_);have n1_:=ak_ ((by rw [hw];exact below_set (HB.out) GB26.out : Below w.heap.size w w28));clear HO_0;clear HB;have HO_0:=n0_;have HB:=n1_;clear n0_ n1_;clear hg hw hp_))
               (try simp only [← hl0_3])
               go_roundg k3
               case measure => have:=HK1.out;have:=HK2.out;have:=HK3.out;omega
               case rel => exact ⟨(y510),(wrap64 (x5_3 + 1)),(by first|rfl|(simp;done)|(simp [*];done)),H',⟨by have:=HK1.out;have:=HK2.out;have:=HK3.out;omega⟩,⟨by (try simp only [hl0_2]);(try simp only [hl0_3]);(with_reducible repeat (first|apply ra_|apply rb_|apply rc_));exact HO_0.out⟩,⟨by repeat (first|(with_reducible first|exact HB.out|apply ba_|apply bb_|apply bc_)|exact HB.out)⟩⟩
              ·rw [if_neg c24] at H
               exact absurd H (by simp)
             ·rw [if_neg c23] at H
              have c23b0:=decide_eq_false c23
              (try (have c23h0:=c23b0;simp only [hl0_2,hl0_3] at c23h0))
              clear c23
              have H':=ak_ H
              clear H
              go_wp2
              (try simp only [← hl0_2,← hl0_3])
              go_roundg k3
              case measure => have:=HK1.out;have:=HK2.out;have:=HK3.out;omega
              case rel => exact ⟨(x0_3),H',⟨by have:=HK1.out;have:=HK2.out;have:=HK3.out;omega⟩,⟨by (try simp only [hl0_2]);(try simp only [hl0_3]);(with_reducible repeat (first|apply ra_|apply rb_|apply rc_));exact HO_0.out⟩,⟨by repeat (first|(with_reducible first|exact HB.out|apply ba_|apply bb_|apply bc_)|exact HB.out)⟩⟩
          ·rw [if_neg c22] at H
           have c22b0 : decide (1073741824 ≤ (rd x0_2 0)) = false:=decide_eq_false c22
           (try (have c22h0:=c22b0;simp only [hl0_2] at c22h0))
           clear c22
           obtain ⟨y513,hy513⟩ : ∃ y_ : List Int,y_ = (x0_2.set (0 : Int).toNat (wrap64 ((wrap64 ((rd x0_2 0) + (wrap64 (Int.tdiv (rd x0_2 0) 1024)))) + 1))):=⟨_,rfl⟩
           replace H : (madrigalref6_Solve.l4 k2 y513 (wrap64 ((l0.length : Int) - 1)) (wrap64 ((wrap64 ((rd x0_2 0) + (wrap64 (Int.tdiv (rd x0_2 0) 1024)))) + 1)) ([] : List Int) 0) = some r:=by first|(rw [hy513];with_reducible exact H)|(have H2_:=(Option.bind_some _ _).symm.trans H;rw [hy513];with_reducible exact H2_)|(have H2_:=(Option.bind_some _ _).symm.trans H;with_reducible exact H2_)|with_reducible exact H|(rw [hy513];exact H)|exact H
           have Ny513:=ak_ hy513
           clear hy513
           have H':=ak_ H
           clear H
           have p507 : 0 ≤ (0 : Int):=(by omega)
           have q507 : 0 < (x0_2.length : Int):=of_decide_eq_true (by first|(with_reducible assumption)|assumption)
           obtain ⟨ad507,e507,hx507_0⟩:=Kd.at_int (Kd.R_reads' HO_0.out).2.2 0 p507 q507
           obtain rfl : ad503 = ad507:=(by injection e507)
           have qi507 : (0 < x0_2.length) = True:=eq_true (by omega)
           (try rw [show ((0 : Int)).toNat = 0 from rfl] at hx507_0)
           (try rw [Addr.add_zero'] at hx507_0)
           replace p507:=eq_true p507
           replace q507:=eq_true q507
           try go_wp2
           have n0_:=ak_ (Kd.R_drew HO_0.out)
           have n1_:=ak_ (below_drew1 HB.out)
           clear HO_0
           clear HB
           have HO_0:=n0_
           have HB:=n1_
           clear n0_ n1_
           have p511 : 0 ≤ (0 : Int):=(by omega)
           have q511 : 0 < (x0_2.length : Int):=of_decide_eq_true (by first|(with_reducible assumption)|assumption)
           obtain ⟨ad511,e511,hx511_0⟩:=Kd.at_int (Kd.R_reads' HO_0.out).2.2 0 p511 q511
           obtain rfl : ad503 = ad511:=(by injection e511)
           have qi511 : (0 < x0_2.length) = True:=eq_true (by omega)
           (try rw [show ((0 : Int)).toNat = 0 from rfl] at hx511_0)
           (try rw [Addr.add_zero'] at hx511_0)
           replace p511:=eq_true p511
           replace q511:=eq_true q511
           have p512 : 0 ≤ (0 : Int):=(by omega)
           have q512 : 0 < (x0_2.length : Int):=of_decide_eq_true (by first|(with_reducible assumption)|assumption)
           obtain ⟨ad512,e512,hx512_0⟩:=Kd.at_int (Kd.R_reads' HO_0.out).2.2 0 p512 q512
           obtain rfl : ad503 = ad512:=(by injection e512)
           have qi512 : (0 < x0_2.length) = True:=eq_true (by omega)
           (try rw [show ((0 : Int)).toNat = 0 from rfl] at hx512_0)
           (try rw [Addr.add_zero'] at hx512_0)
           replace p512:=eq_true p512
           replace q512:=eq_true q512
           have p29 : 0 ≤ (0 : Int):=(by omega)
           have q29 : (0 : Int) < ((x0_2.length : Int) : Int):=of_decide_eq_true (by first|(with_reducible assumption)|assumption)
           have qi29 : (0 < x0_2.length) = True:=eq_true (by omega)
           obtain ⟨go29,co29,eo29,gb29,gl29,cl29,HG29⟩:=Kd.R_form HO_0.out (by omega)
           (first|cases eo29|(injection eo29 with ea_ en_ ec_;(first|subst ea_|(injection ea_ with ea_;subst ea_));subst ec_;clear en_))
           have GB29:=ak_ gb29
           have GG29:=ak_ HG29
           clear gb29 gl29 HG29
           (first|simp only [add_plain] at hx507_0|skip)
           (first|simp only [add_plain] at hx511_0|skip)
           (first|simp only [add_plain] at hx512_0|skip)
           obtain ⟨hx29_0,hf29_0⟩:=Kd.R_celln 0 HO_0.out (0 : Int) p29 q29
           (try rw [show ((0 : Int)).toNat = 0 from rfl] at hx29_0)
           (try simp only [Nat.reduceMul,Nat.zero_mul,Nat.zero_add,Nat.reduceAdd] at hx29_0)
           (try rw [show ((0 : Int)).toNat = 0 from rfl] at hf29_0)
           (try simp only [Nat.reduceMul,Nat.zero_mul,Nat.zero_add,Nat.reduceAdd] at hf29_0)
           replace p29:=eq_true p29
           replace q29:=eq_true q29
           have HP32:=Kd.R_putn HO_0.out (0 : Int) (wrap64 ((wrap64 ((rd x0_2 0) + (wrap64 (Int.tdiv (rd x0_2 0) 1024)))) + 1))
           rw [← Ny513.out] at HP32
           have HQ32:=ak_ HP32
           clear HP32
           refine start_ (n:=12) (S:=fun w' => w'.cell? ⟨go29,0,none⟩ = some (.int .i64 (rd x0_2 0)) ∧ w'.cell? ⟨go29,0,none⟩ = some (.int .i64 (rd x0_2 0))) (ds:=[11]) #[false,false,false,false,false,false,false,false,false,false,false,false] (by kernel_rfl) rfl rfl ⟨hx511_0,hx512_0⟩ (fun hHeld => ?_);refine with_tabW madrigalref6_Solve.tab15 madrigalref6_Solve.bits15 (fun HT_ HW_ => ?_)
           generalize wr.drew = w31 at HO_0 HB GG29 HQ32 hf29_0 hx29_0 hx507_0 hx511_0 hx512_0 hHeld ⊢
           refine pure_ (i:=0) (N:=some 63) (v:=?_) (a':=?_) #[true,false,false,false,false,false,false,false,false,false,false,false] rfl rfl (any_of HT_.out (by kernel_rfl)) (fun _ _ _ h => h) (Or.inl ⟨by rfl,?_⟩) ?_ ?_
           rotate_left
           ·intro w'
            go_simp
            with_reducible rfl
           rotate_left
           ·simp only [Act.put,List.setIfInBounds_toArray,List.set_cons_zero,List.set_cons_succ,i64_w,i32_w]
            rfl
           refine pure_ (i:=1) (N:=some 64) (v:=?_) (a':=?_) #[true,true,false,false,false,false,false,false,false,false,false,false] rfl rfl (any_of HT_.out (by kernel_rfl)) (fun _ _ _ h => h) (Or.inl ⟨by rfl,?_⟩) ?_ ?_
           rotate_left
           ·intro w'
            go_simp
            with_reducible rfl
           rotate_left
           ·simp only [Act.put,List.setIfInBounds_toArray,List.set_cons_zero,List.set_cons_succ,i64_w,i32_w]
            rfl
           refine pure_ (i:=2) (N:=some 65) (v:=?_) (a':=?_) #[true,true,true,false,false,false,false,false,false,false,false,false] rfl rfl (any_of HT_.out (by kernel_rfl)) (fun _ _ _ h => h) (Or.inl ⟨by rfl,?_⟩) ?_ ?_
           rotate_left
           ·intro w'
            go_simp
            with_reducible rfl
           rotate_left
           ·simp only [Act.put,List.setIfInBounds_toArray,List.set_cons_zero,List.set_cons_succ,i64_w,i32_w]
            rfl
           refine pure_ (i:=4) (N:=some 67) (v:=?_) (a':=?_) #[true,true,true,false,true,false,false,false,false,false,false,false] rfl rfl (any_of HT_.out (by kernel_rfl)) (fun _ _ _ h => h) (Or.inl ⟨by rfl,?_⟩) ?_ ?_
           rotate_left
           ·intro w'
            go_simp
            with_reducible rfl
           rotate_left
           ·simp only [Act.put,List.setIfInBounds_toArray,List.set_cons_zero,List.set_cons_succ,i64_w,i32_w]
            rfl
           refine pure_ (i:=5) (N:=some 68) (v:=?_) (a':=?_) #[true,true,true,false,true,true,false,false,false,false,false,false] rfl rfl (any_of HT_.out (by kernel_rfl)) (fun _ _ _ h => h) (Or.inl ⟨by rfl,?_⟩) ?_ ?_
           rotate_left
           ·intro w'
            go_simp
            with_reducible rfl
           rotate_left
           ·simp only [Act.put,List.setIfInBounds_toArray,List.set_cons_zero,List.set_cons_succ,i64_w,i32_w]
            rfl
           refine take_ (i:=3) (N:=some 66) (v:=?_) (a':=?_) #[true,true,true,true,true,true,false,false,false,false,false,false] rfl rfl (take_ofW HT_.out HW_.out (by kernel_rfl)) (fun _ _ _ h => h) (Or.inl ⟨by rfl,?_⟩) hHeld ?_ ?_
           rotate_left
           ·rintro w' ⟨s0,s1⟩
            go_simp
            with_reducible rfl
           rotate_left
           ·simp only [Act.put,List.setIfInBounds_toArray,List.set_cons_zero,List.set_cons_succ,i64_w,i32_w]
            rfl
           refine take_ (i:=6) (N:=some 69) (v:=?_) (a':=?_) #[true,true,true,true,true,true,true,false,false,false,false,false] rfl rfl (take_ofW HT_.out HW_.out (by kernel_rfl)) (fun _ _ _ h => h) (Or.inl ⟨by rfl,?_⟩) hHeld ?_ ?_
           rotate_left
           ·rintro w' ⟨s0,s1⟩
            go_simp
            with_reducible rfl
           rotate_left
           ·simp only [Act.put,List.setIfInBounds_toArray,List.set_cons_zero,List.set_cons_succ,i64_w,i32_w]
            rfl
           refine pure_ (i:=7) (N:=some 70) (v:=?_) (a':=?_) #[true,true,true,true,true,true,true,true,false,false,false,false] rfl rfl (any_of HT_.out (by kernel_rfl)) (fun _ _ _ h => h) (Or.inl ⟨by rfl,?_⟩) ?_ ?_
           rotate_left
           ·intro w'
            go_simp
            with_reducible rfl
           rotate_left
           ·simp only [Act.put,List.setIfInBounds_toArray,List.set_cons_zero,List.set_cons_succ,i64_w,i32_w]
            rfl
           refine pure_ (i:=8) (N:=some 71) (v:=?_) (a':=?_) #[true,true,true,true,true,true,true,true,true,false,false,false] rfl rfl (any_of HT_.out (by kernel_rfl)) (fun _ _ _ h => h) (Or.inl ⟨by rfl,?_⟩) ?_ ?_
           rotate_left
           ·intro w'
            go_simp
            with_reducible rfl
           rotate_left
           ·simp only [Act.put,List.setIfInBounds_toArray,List.set_cons_zero,List.set_cons_succ,i64_w,i32_w]
            rfl
           refine pure_ (i:=9) (N:=some 72) (v:=?_) (a':=?_) #[true,true,true,true,true,true,true,true,true,true,false,false] rfl rfl (any_of HT_.out (by kernel_rfl)) (fun _ _ _ h => h) (Or.inl ⟨by rfl,?_⟩) ?_ ?_
           rotate_left
           ·intro w'
            go_simp
            with_reducible rfl
           rotate_left
           ·simp only [Act.put,List.setIfInBounds_toArray,List.set_cons_zero,List.set_cons_succ,i64_w,i32_w]
            rfl
           refine pure_ (i:=10) (N:=some 73) (v:=?_) (a':=?_) #[true,true,true,true,true,true,true,true,true,true,true,false] rfl rfl (any_of HT_.out (by kernel_rfl)) (fun _ _ _ h => h) (Or.inl ⟨by rfl,?_⟩) ?_ ?_
           rotate_left
           ·intro w'
            go_simp
            with_reducible rfl
           rotate_left
           ·simp only [Act.put,List.setIfInBounds_toArray,List.set_cons_zero,List.set_cons_succ,i64_w,i32_w]
            rfl
           refine last_ (i:=11) (N:=none) #[true,true,true,true,true,true,true,true,true,true,true,true] rfl rfl (one_of HT_.out (by kernel_rfl)) (by decide) (fun K hK => ?_)
           refine skip_ (w1:=?_) (by rfl) rfl ?_ ?_
           rotate_left
           ·go_simp
            rfl
           refine hK.out _ _ ?_
           clear hK K
           refine done_ (done_of HT_.out (by kernel_rfl)) ?_
           have p30 : 0 ≤ (0 : Int):=(by omega)
           have q30 : (0 : Int) < ((x0_2.length : Int) : Int):=of_decide_eq_true (by first|(with_reducible assumption)|assumption)
           replace p30:=eq_true p30
           replace q30:=eq_true q30
           try go_wp2
           go_loopg [6,7,8] k2 (fun kq v6 v7 v8 w' => ∃ (x6_3 : Int) (x7_3 : List Int) (x8_3 : Int),v6 = .int .i64 x6_3 ∧ v8 = .int .i64 x8_3 ∧ Aside0 (madrigalref6_Solve.l4 kq y513 (wrap64 ((l0.length : Int) - 1)) x6_3 x7_3 x8_3 = some r) ∧ Aside0 (kq ≤ k2) ∧ Aside0 (Kd.R (Kd.int .i64) 2 w' w.heap.size (fun k_ => some k_ ≠ (v7 : Value).ownBlock) (.slice (some ⟨go29,0,none⟩) x0_2.length co20) y513) ∧ Aside0 (Kd.R (Kd.int .i64) 2 w' w.heap.size (fun k_ => some k_ ≠ ((.slice (some ⟨go29,0,none⟩) x0_2.length co20) : Value).ownBlock) v7 x7_3) ∧ Aside0 (Below w.heap.size w w'))
           case atStart => exact ⟨(wrap64 ((wrap64 ((rd x0_2 0) + (wrap64 (Int.tdiv (rd x0_2 0) 1024)))) + 1)),(([] : List Int)),(0),(by first|rfl|(simp;done)|(simp [*];done)),(by first|rfl|(simp;done)|(simp [*];done)),H',⟨Nat.le_refl _⟩,⟨by (try simp only [hl0_2]);(with_reducible repeat (first|apply ra_|apply rb_|apply rc_));exact Kd.R_mono HQ32.out (fun _ hk => (by simp [Value.ownBlock]))⟩,⟨by (try simp only [hl0_2]);first|exact Kd.R_nil _ _ _ _ _|exact Kd.N_nil _ _ _ _ _|exact Kd.V_nil _ _ _ _ _|exact Kd.Q_nil _ _ _ _ _|exact Kd.S_nil _ _ _ _ _⟩,⟨by repeat (first|(with_reducible first|exact HB.out|apply ba_|apply bb_|apply bc_|refine below_set ?_ GB29.out)|exact HB.out)⟩⟩
           case round => as_aux_lemma =>
            clear H'
            try clear c1
            try clear p1
            try clear q1
            try clear hx1
            try clear hf1
            try clear c2
            try clear c2b0
            try clear c2b1
            try clear p2
            try clear q2
            try clear hx2
            try clear qi2
            try clear hf2
            try clear c3
            try clear c3b0
            try clear p3
            try clear q3
            try clear p4
            try clear q4
            try clear hx4
            try clear qi4
            try clear c5
            try clear c5b0
            try clear c5b1
            try clear p5
            try clear q5
            try clear hx5
            try clear qi5
            try clear c6
            try clear c6b0
            try clear c6b1
            try clear p6
            try clear c11
            try clear c11b0
            try clear c11b1
            try clear c12
            try clear c12b0
            try clear c14
            try clear c14b0
            try clear c14h0
            try clear c15
            try clear c15b0
            try clear c15h0
            try clear p17
            try clear q17
            try clear hx17
            try clear hf17
            try clear c18
            try clear c21
            try clear c21b0
            try clear c21b1
            try clear c21h0
            try clear c21h1
            try clear c22
            try clear c22b0
            try clear c22h0
            try clear c23
            try clear c23b0
            try clear c23h0
            try clear c24
            try clear c24b0
            try clear c24h0
            try clear p26
            try clear q26
            try clear hx26
            try clear hf26
            try clear p29
            try clear q29
            try clear hx29
            try clear qi29
            try clear hf29
            try clear p30
            try clear q30
            try clear c31
            try clear c32
            try clear hx17_0
            try clear hx26_0
            try clear hx29_0
            try clear hx496_0
            try clear hx503_0
            try clear hx504_0
            try clear hx507_0
            try clear hx508_0
            try clear hx511_0
            try clear hx512_0
            try clear p1
            try clear p17
            try clear p2
            try clear p26
            try clear p29
            try clear p30
            try clear p4
            try clear p496
            try clear p5
            try clear p503
            try clear p504
            try clear p507
            try clear p508
            try clear p511
            try clear p512
            try clear p6
            try clear q1
            try clear q17
            try clear q26
            try clear q29
            try clear q30
            try clear q4
            try clear q496
            try clear q5
            try clear q503
            try clear q504
            try clear q507
            try clear q508
            try clear q511
            try clear q512
            obtain ⟨x6_3,x7_3,x8_3,rfl,rfl,HA,HK3,HO_0,HO_7,HB⟩:=hrel
            (try simp only [i64_w,i32_w])
            have hl0_3:=(Kd.R_reads' HO_0.out).1
            rw [hl0_3] at HO_0
            (try simp only [hl0_3])
            (try simp only [hl0_3] at HO_7)
            cases gk with
            | zero => exact absurd HA.out (by simp [madrigalref6_Solve.l4])
            | succ k3 =>
             have H:=HA.out
             clear HA
             simp only [madrigalref6_Solve.l4] at H
             by_cases c33 : x8_3 < (wrap64 ((l0.length : Int) - 1))
             ·rw [if_pos c33] at H
              have c33b0:=decide_eq_true c33
              (try (have c33h0:=c33b0;simp only [hl0_2,hl0_3] at c33h0))
              clear c33
              obtain ⟨ji34,hji34⟩ : ∃ j_ : Int,(wrap64 (x8_3 + 1)) = j_:=⟨_,rfl⟩
              replace H : (if 0 ≤ (ji34) then (if (ji34) < (y513.length : Int) then (madrigalref6_Solve.l5 k3 y513 (wrap64 ((l0.length : Int) - 1)) x6_3 x7_3 x8_3 (rd y513 (ji34)) 0) else (none)) else (none)) = some r:=by first|(rw [hji34] at H;exact H)|(simp only [hji34] at H ⊢;exact H)
              have hji34w : (IntKind.i64.wrap (x8_3 + 1)) = ji34:=(i64_w _).trans hji34
              by_cases c35 : 0 ≤ (ji34)
              ·rw [if_pos c35] at H
               have c35b0:=decide_eq_true c35
               (try (have c35h0:=c35b0;simp only [hl0_2,hl0_3] at c35h0))
               clear c35
               by_cases c36 : (ji34) < (y513.length : Int)
               ·rw [if_pos c36] at H
                have c36b0:=decide_eq_true c36
                (try (have c36h0:=c36b0;simp only [hl0_2,hl0_3] at c36h0))
                clear c36
                have H':=ak_ H
                clear H
                have p515 : 0 ≤ ((ji34) : Int):=of_decide_eq_true (by first|(with_reducible assumption)|assumption)
                have q515 : (ji34) < (y513.length : Int):=of_decide_eq_true (by first|(with_reducible assumption)|assumption)
                obtain ⟨ad515,e515,hx515_0⟩:=Kd.at_int (Kd.R_reads' HO_0.out).2.2 (ji34) p515 q515
                obtain rfl : (⟨go29,0,none⟩ : Addr) = ad515:=(by injection e515)
                (first|simp only [add_plain] at hx515_0|simp only [add_at] at hx515_0|simp only [Addr.add,Nat.zero_add] at hx515_0|skip)
                replace p515:=eq_true p515
                replace q515:=eq_true q515
                go_wp2
                go_loopg [9,10] k3 (fun kq v9 v10 w' => ∃ (x9_4 : Int) (x10_4 : Int),v9 = .int .i64 x9_4 ∧ v10 = .int .i64 x10_4 ∧ Aside0 (madrigalref6_Solve.l5 kq y513 (wrap64 ((l0.length : Int) - 1)) x6_3 x7_3 x8_3 x9_4 x10_4 = some r) ∧ Aside0 (kq ≤ k3) ∧ Aside0 (Kd.R (Kd.int .i64) 2 w' w.heap.size (fun k_ => some k_ ≠ (u7 : Value).ownBlock) (.slice (some ⟨go29,0,none⟩) y513.length co20) y513) ∧ Aside0 (Kd.R (Kd.int .i64) 2 w' w.heap.size (fun k_ => some k_ ≠ ((.slice (some ⟨go29,0,none⟩) y513.length co20) : Value).ownBlock) u7 x7_3) ∧ Aside0 (Below w.heap.size w w'))
                case atStart => exact ⟨(rd y513 (ji34)),(0),(by first|rfl|(simp;done)|(simp only [← hji34] <;> (first|rfl|simp))|(simp [*];done)),(by first|rfl|(simp;done)|(simp [*];done)),H',⟨Nat.le_refl _⟩,⟨by (try simp only [hl0_2]);(try simp only [hl0_3]);(with_reducible repeat (first|apply ra_|apply rb_|apply rc_));exact HO_0.out⟩,⟨by (try simp only [hl0_2]);(try simp only [hl0_3]);(with_reducible repeat (first|apply ra_|apply rb_|apply rc_));exact HO_7.out⟩,⟨by repeat (first|(with_reducible first|exact HB.out|apply ba_|apply bb_|apply bc_)|exact HB.out)⟩⟩
                case round => as_aux_lemma =>
                 clear H'
                 try clear c1
                 try clear p1
                 try clear q1
                 try clear hx1
                 try clear hf1
                 try clear c2
                 try clear c2b0
                 try clear c2b1
                 try clear p2
                 try clear q2
                 try clear hx2
                 try clear qi2
                 try clear hf2
                 try clear c3
                 try clear c3b0
                 try clear p3
                 try clear q3
                 try clear p4
                 try clear q4
                 try clear hx4
                 try clear qi4
                 try clear c5
                 try clear c5b0
                 try clear c5b1
                 try clear p5
                 try clear q5
                 try clear hx5
                 try clear qi5
                 try clear c6
                 try clear c6b0
                 try clear c6b1
                 try clear p6
                 try clear c11
                 try clear c11b0
                 try clear c11b1
                 try clear c12
                 try clear c12b0
                 try clear c14
                 try clear c14b0
                 try clear c14h0
                 try clear c15
                 try clear c15b0
                 try clear c15h0
                 try clear p17
                 try clear q17
                 try clear hx17
                 try clear hf17
                 try clear c18
                 try clear c21
                 try clear c21b0
                 try clear c21b1
                 try clear c21h0
                 try clear c21h1
                 try clear c22
                 try clear c22b0
                 try clear c22h0
                 try clear c23
                 try clear c23b0
                 try clear c23h0
                 try clear c24
                 try clear c24b0
                 try clear c24h0
                 try clear p26
                 try clear q26
                 try clear hx26
                 try clear hf26
                 try clear p29
                 try clear q29
                 try clear hx29
                 try clear qi29
                 try clear hf29
                 try clear p30
                 try clear q30
                 try clear c31
                 try clear c32
                 try clear c33
                 try clear c33b0
                 try clear c33h0
                 try clear c35
                 try clear c35b0
                 try clear c35h0
                 try clear c36
                 try clear c36b0
                 try clear c36h0
                 try clear hx17_0
                 try clear hx26_0
                 try clear hx29_0
                 try clear hx496_0
                 try clear hx503_0
                 try clear hx504_0
                 try clear hx507_0
                 try clear hx508_0
                 try clear hx511_0
                 try clear hx512_0
                 try clear hx515_0
                 try clear p1
                 try clear p17
                 try clear p2
                 try clear p26
                 try clear p29
                 try clear p3
                 try clear p30
                 try clear p4
                 try clear p496
                 try clear p5
                 try clear p503
                 try clear p504
                 try clear p507
                 try clear p508
                 try clear p511
                 try clear p512
                 try clear p515
                 try clear p6
                 try clear q1
                 try clear q17
                 try clear q2
                 try clear q26
                 try clear q29
                 try clear q3
                 try clear q30
                 try clear q4
                 try clear q496
                 try clear q5
                 try clear q503
                 try clear q504
                 try clear q507
                 try clear q508
                 try clear q511
                 try clear q512
                 try clear q515
                 obtain ⟨x9_4,x10_4,rfl,rfl,HA,HK4,HO_0,HO_7,HB⟩:=hrel
                 (try simp only [i64_w,i32_w])
                 cases gk with
                 | zero => exact absurd HA.out (by simp [madrigalref6_Solve.l5])
                 | succ k4 =>
                  have H:=HA.out
                  clear HA
                  simp only [madrigalref6_Solve.l5] at H
                  by_cases c37 : x10_4 < x8_3
                  ·rw [if_pos c37] at H
                   have c37b0:=decide_eq_true c37
                   (try (have c37h0:=c37b0;simp only [hl0_2,hl0_3] at c37h0))
                   clear c37
                   by_cases c38 : 0 ≤ x10_4
                   ·rw [if_pos c38] at H
                    have c38b0:=decide_eq_true c38
                    (try (have c38h0:=c38b0;simp only [hl0_2,hl0_3] at c38h0))
                    clear c38
                    by_cases c39 : x10_4 < (x7_3.length : Int)
                    ·rw [if_pos c39] at H
                     have c39b0:=decide_eq_true c39
                     (try (have c39h0:=c39b0;simp only [hl0_2,hl0_3] at c39h0))
                     clear c39
                     obtain ⟨ji40,hji40⟩ : ∃ j_ : Int,(wrap64 (x8_3 - x10_4)) = j_:=⟨_,rfl⟩
                     replace H : (if 0 ≤ (ji40) then (if (ji40) < (y513.length : Int) then ((madrigalref1_Mul.f k4 (rd x7_3 x10_4) (rd y513 (ji40)) 24).bind fun t518 => (madrigalref6_Solve.l5 k4 y513 (wrap64 ((l0.length : Int) - 1)) x6_3 x7_3 x8_3 (wrap64 (x9_4 - t518)) (wrap64 (x10_4 + 1)))) else (none)) else (none)) = some r:=by first|(rw [hji40] at H;exact H)|(simp only [hji40] at H ⊢;exact H)
                     have hji40w : (IntKind.i64.wrap (x8_3 - x10_4)) = ji40:=(i64_w _).trans hji40
                     by_cases c41 : 0 ≤ (ji40)
                     ·rw [if_pos c41] at H
                      have c41b0:=decide_eq_true c41
                      (try (have c41h0:=c41b0;simp only [hl0_2,hl0_3] at c41h0))
                      clear c41
                      by_cases c42 : (ji40) < (y513.length : Int)
                      ·rw [if_pos c42] at H
                       have c42b0:=decide_eq_true c42
                       (try (have c42h0:=c42b0;simp only [hl0_2,hl0_3] at c42h0))
                       clear c42
                       replace H:=Option.bind_eq_some_iff.mp H
                       obtain ⟨t518,A430,H⟩:=H
                       (try dsimp only at H)
                       have A43:=ak_ A430
                       clear A430
                       have H':=ak_ H
                       clear H
                       try go_wp2
                       have n0_:=ak_ (Kd.R_drew HO_0.out)
                       have n1_:=ak_ (Kd.R_drew HO_7.out)
                       have n2_:=ak_ (below_drew1 HB.out)
                       clear HO_0
                       clear HO_7
                       clear HB
                       have HO_0:=n0_
                       have HO_7:=n1_
                       have HB:=n2_
                       clear n0_ n1_ n2_
                       obtain ⟨Ao45,co45,eo45⟩:=Kd.R_slice HO_7.out
                       (first|subst eo45|(injection eo45 with f1_ f2_ f3_;have f4_:=f1_.symm;have f5_:=f3_.symm;clear f1_ f2_ f3_;subst f4_;subst f5_))
                       have p516 : 0 ≤ (x10_4 : Int):=of_decide_eq_true (by first|(with_reducible assumption)|assumption)
                       have q516 : x10_4 < (x7_3.length : Int):=of_decide_eq_true (by first|(with_reducible assumption)|assumption)
                       obtain ⟨ad516,e516,hx516_0⟩:=Kd.at_int (Kd.R_reads' HO_7.out).2.2 x10_4 p516 q516
                       cases e516
                       replace p516:=eq_true p516
                       replace q516:=eq_true q516
                       have p517 : 0 ≤ ((ji40) : Int):=of_decide_eq_true (by first|(with_reducible assumption)|assumption)
                       have q517 : (ji40) < (y513.length : Int):=of_decide_eq_true (by first|(with_reducible assumption)|assumption)
                       obtain ⟨ad517,e517,hx517_0⟩:=Kd.at_int (Kd.R_reads' HO_0.out).2.2 (ji40) p517 q517
                       obtain rfl : (⟨go29,0,none⟩ : Addr) = ad517:=(by injection e517)
                       (first|simp only [add_plain] at hx517_0|simp only [add_at] at hx517_0|simp only [Addr.add,Nat.zero_add] at hx517_0|skip)
                       replace p517:=eq_true p517
                       replace q517:=eq_true q517
                       refine start_ (n:=14) (S:=fun w' => w'.cell? (ad516.add (x10_4).toNat) = some (.int .i64 (rd x7_3 x10_4)) ∧ w'.cell? ⟨go29,((ji40)).toNat,none⟩ = some (.int .i64 (rd y513 (ji40)))) (ds:=[]) #[false,false,false,false,false,false,false,false,false,false,false,false,false,false] (by kernel_rfl) rfl rfl ⟨hx516_0,hx517_0⟩ (fun hHeld => ?_);refine with_tabW madrigalref6_Solve.tab25 madrigalref6_Solve.bits25 (fun HT_ HW_ => ?_)
                       generalize wr.drew = w44 at HO_0 HO_7 HB hx516_0 hx517_0 hHeld ⊢
                       refine pure_ (i:=0) (N:=some 92) (v:=?_) (a':=?_) #[true,false,false,false,false,false,false,false,false,false,false,false,false,false] rfl rfl (any_of HT_.out (by kernel_rfl)) (fun _ _ _ h => h) (Or.inl ⟨by rfl,?_⟩) ?_ ?_
                       rotate_left
                       ·intro w'
                        go_simp
                        with_reducible rfl
                       rotate_left
                       ·simp only [Act.put,List.setIfInBounds_toArray,List.set_cons_zero,List.set_cons_succ,i64_w,i32_w]
                        rfl
                       refine pure_ (i:=1) (N:=some 93) (v:=?_) (a':=?_) #[true,true,false,false,false,false,false,false,false,false,false,false,false,false] rfl rfl (any_of HT_.out (by kernel_rfl)) (fun _ _ _ h => h) (Or.inl ⟨by rfl,?_⟩) ?_ ?_
                       rotate_left
                       ·intro w'
                        go_simp
                        with_reducible rfl
                       rotate_left
                       ·simp only [Act.put,List.setIfInBounds_toArray,List.set_cons_zero,List.set_cons_succ,i64_w,i32_w]
                        rfl
                       refine pure_ (i:=2) (N:=some 94) (v:=?_) (a':=?_) #[true,true,true,false,false,false,false,false,false,false,false,false,false,false] rfl rfl (any_of HT_.out (by kernel_rfl)) (fun _ _ _ h => h) (Or.inl ⟨by rfl,?_⟩) ?_ ?_
                       rotate_left
                       ·intro w'
                        go_simp
                        with_reducible rfl
                       rotate_left
                       ·simp only [Act.put,List.setIfInBounds_toArray,List.set_cons_zero,List.set_cons_succ,i64_w,i32_w]
                        rfl
                       refine pure_ (i:=3) (N:=some 95) (v:=?_) (a':=?_) #[true,true,true,true,false,false,false,false,false,false,false,false,false,false] rfl rfl (any_of HT_.out (by kernel_rfl)) (fun _ _ _ h => h) (Or.inl ⟨by rfl,?_⟩) ?_ ?_
                       rotate_left
                       ·intro w'
                        go_simp
                        with_reducible rfl
                       rotate_left
                       ·simp only [Act.put,List.setIfInBounds_toArray,List.set_cons_zero,List.set_cons_succ,i64_w,i32_w]
                        rfl
                       refine pure_ (i:=5) (N:=some 97) (v:=?_) (a':=?_) #[true,true,true,true,false,true,false,false,false,false,false,false,false,false] rfl rfl (any_of HT_.out (by kernel_rfl)) (fun _ _ _ h => h) (Or.inl ⟨by rfl,?_⟩) ?_ ?_
                       rotate_left
                       ·intro w'
                        go_simp
                        with_reducible rfl
                       rotate_left
                       ·simp only [Act.put,List.setIfInBounds_toArray,List.set_cons_zero,List.set_cons_succ,i64_w,i32_w]
                        rfl
                       refine pure_ (i:=6) (N:=some 98) (v:=?_) (a':=?_) #[true,true,true,true,false,true,true,false,false,false,false,false,false,false] rfl rfl (any_of HT_.out (by kernel_rfl)) (fun _ _ _ h => h) (Or.inl ⟨by rfl,?_⟩) ?_ ?_
                       rotate_left
                       ·intro w'
                        go_simp
                        with_reducible rfl
                       rotate_left
                       ·simp only [Act.put,List.setIfInBounds_toArray,List.set_cons_zero,List.set_cons_succ,i64_w,i32_w]
                        rfl
                       refine pure_ (i:=7) (N:=some 99) (v:=?_) (a':=?_) #[true,true,true,true,false,true,true,true,false,false,false,false,false,false] rfl rfl (any_of HT_.out (by kernel_rfl)) (fun _ _ _ h => h) (Or.inl ⟨by rfl,?_⟩) ?_ ?_
                       rotate_left
                       ·intro w'
                        go_simp
                        with_reducible rfl
                       rotate_left
                       ·simp only [Act.put,List.setIfInBounds_toArray,List.set_cons_zero,List.set_cons_succ,i64_w,i32_w]
                        rfl
                       refine pure_ (i:=8) (N:=some 100) (v:=?_) (a':=?_) #[true,true,true,true,false,true,true,true,true,false,false,false,false,false] rfl rfl (any_of HT_.out (by kernel_rfl)) (fun _ _ _ h => h) (Or.inl ⟨by rfl,?_⟩) ?_ ?_
                       rotate_left
                       ·intro w'
                        go_simp
                        with_reducible rfl
                       rotate_left
                       ·simp only [Act.put,List.setIfInBounds_toArray,List.set_cons_zero,List.set_cons_succ,i64_w,i32_w]
                        rfl
                       refine pure_ (i:=9) (N:=some 101) (v:=?_) (a':=?_) #[true,true,true,true,false,true,true,true,true,true,false,false,false,false] rfl rfl (any_of HT_.out (by kernel_rfl)) (fun _ _ _ h => h) (Or.inl ⟨by rfl,?_⟩) ?_ ?_
                       rotate_left
                       ·intro w'
                        go_simp
                        with_reducible rfl
                       rotate_left
                       ·simp only [Act.put,List.setIfInBounds_toArray,List.set_cons_zero,List.set_cons_succ,i64_w,i32_w]
                        rfl
                       refine take_ (i:=4) (N:=some 96) (v:=?_) (a':=?_) #[true,true,true,true,true,true,true,true,true,true,false,false,false,false] rfl rfl (take_ofW HT_.out HW_.out (by kernel_rfl)) (fun _ _ _ h => h) (Or.inl ⟨by rfl,?_⟩) hHeld ?_ ?_
                       rotate_left
                       ·rintro w' ⟨s0,s1⟩
                        go_simp
                        with_reducible rfl
                       rotate_left
                       ·simp only [Act.put,List.setIfInBounds_toArray,List.set_cons_zero,List.set_cons_succ,i64_w,i32_w]
                        rfl
                       refine take_ (i:=10) (N:=some 102) (v:=?_) (a':=?_) #[true,true,true,true,true,true,true,true,true,true,true,false,false,false] rfl rfl (take_ofW HT_.out HW_.out (by kernel_rfl)) (fun _ _ _ h => h) (Or.inl ⟨by rfl,?_⟩) hHeld ?_ ?_
                       rotate_left
                       ·rintro w' ⟨s0,s1⟩
                        go_simp
                        with_reducible rfl
                       rotate_left
                       ·simp only [Act.put,List.setIfInBounds_toArray,List.set_cons_zero,List.set_cons_succ,i64_w,i32_w]
                        rfl
                       refine one_ (i:=11) (N:=some 103) #[true,true,true,true,true,true,true,true,true,true,true,true,false,false] rfl rfl (one_of HT_.out (by kernel_rfl)) (by decide) (fun K hK => ?_)
                       refine goes_ Try.func34 (by kernel_rfl) rfl #[.int .i64 (rd x7_3 x10_4),.int .i64 (rd y513 (ji40)),.int .i64 24] (by rfl) rfl rfl (by (try simp only [List.map_toArray,List.map_cons,List.map_nil]);first|done|(simp only [hji40];rfl)|rfl|(simp only [List.length_drop,List.length_take];rfl)) ?_
                       with_reducible refine (madrigalref1_Mul.calls k4 (rd x7_3 x10_4) (rd y513 (ji40)) 24 t518 _ A43.out).mono ?_
                       rintro e w' ⟨rfl,⟨nd,rfl⟩⟩
                       refine ⟨_,rfl,?_⟩
                       refine hK.out _ _ ⟨hHeld.1,hHeld.2⟩ (fun hHeld => ?_)
                       clear hK K
                       refine norm_ (a':=?_) ?_ ?_
                       rotate_left
                       ·show Act.put _ (some 103) _ = _
                        simp only [Act.put,List.setIfInBounds_toArray,List.set_cons_zero,List.set_cons_succ,i64_w,i32_w]
                        rfl
                       refine pure_ (i:=12) (N:=some 104) (v:=?_) (a':=?_) #[true,true,true,true,true,true,true,true,true,true,true,true,true,false] rfl rfl (any_of HT_.out (by kernel_rfl)) (fun _ _ _ h => h) (Or.inl ⟨by rfl,?_⟩) ?_ ?_
                       rotate_left
                       ·intro w'
                        go_simp
                        with_reducible rfl
                       rotate_left
                       ·simp only [Act.put,List.setIfInBounds_toArray,List.set_cons_zero,List.set_cons_succ,i64_w,i32_w]
                        rfl
                       refine pure_ (i:=13) (N:=some 9) (v:=?_) (a':=?_) #[true,true,true,true,true,true,true,true,true,true,true,true,true,true] rfl rfl (any_of HT_.out (by kernel_rfl)) (fun _ _ _ h => h) (Or.inl ⟨by rfl,?_⟩) ?_ ?_
                       rotate_left
                       ·intro w'
                        go_simp
                        with_reducible rfl
                       rotate_left
                       ·simp only [Act.put,List.setIfInBounds_toArray,List.set_cons_zero,List.set_cons_succ,i64_w,i32_w]
                        rfl
                       refine done_ (done_of HT_.out (by kernel_rfl)) ?_
                       try go_wp2
                       go_roundg k4
                       case measure => have:=HK1.out;have:=HK2.out;have:=HK3.out;have:=HK4.out;omega
                       case rel => exact ⟨(wrap64 (x9_4 - t518)),(wrap64 (x10_4 + 1)),(by first|rfl|(simp;done)|(simp [*];done)),(by first|rfl|(simp;done)|(simp [*];done)),H',⟨by have:=HK1.out;have:=HK2.out;have:=HK3.out;have:=HK4.out;omega⟩,⟨by (try simp only [hl0_2]);(try simp only [hl0_3]);(with_reducible repeat (first|apply ra_|apply rb_|apply rc_));exact HO_0.out⟩,⟨by (try simp only [hl0_2]);(try simp only [hl0_3]);(with_reducible repeat (first|apply ra_|apply rb_|apply rc_));exact HO_7.out⟩,⟨by repeat (first|(with_reducible first|exact HB.out|apply ba_|apply bb_|apply bc_)|exact HB.out)⟩⟩
                      ·rw [if_neg c42] at H
                       exact absurd H (by simp)
                     ·rw [if_neg c41] at H
                      exact absurd H (by simp)
                    ·rw [if_neg c39] at H
                     exact absurd H (by simp)
                   ·rw [if_neg c38] at H
                    exact absurd H (by simp)
                  ·rw [if_neg c37] at H
                   have c37b0:=decide_eq_false c37
                   (try (have c37h0:=c37b0;simp only [hl0_2,hl0_3] at c37h0))
                   clear c37
                   replace H:=Option.bind_eq_some_iff.mp H
                   obtain ⟨t519,A460,H⟩:=H
                   (try dsimp only at H)
                   have A46:=ak_ A460
                   clear A460
                   replace H:=Option.bind_eq_some_iff.mp H
                   obtain ⟨t520,A470,H⟩:=H
                   (try dsimp only at H)
                   have A47:=ak_ A470
                   clear A470
                   have H':=ak_ H
                   clear H
                   go_wp2_with (first|((with_reducible refine gate_callee (f:=35) rfl ?_);refine goesL_ (some 107) rfl rfl Try.func35 (by kernel_rfl) rfl #[.int .i64 x9_4,.int .i64 x6_3,.int .i64 24] rfl (by (try simp only [List.map_toArray,List.map_cons,List.map_nil]);first|done|rfl|(simp only [List.length_drop,List.length_take];rfl)) ?_;(with_reducible refine (madrigalref1_Div.calls k4 x9_4 x6_3 24 t519 _ A46.out).mono ?_);rintro e w' ⟨rfl,⟨nd,rfl⟩⟩;refine ⟨_,rfl,?_⟩)|((with_reducible refine gate_callee (f:=32) rfl ?_);refine goesL_ (some 108) rfl rfl Try.func32 (by kernel_rfl) rfl #[.int .i64 t519,.int .i64 (-16760438),.int .i64 16760438] rfl (by (try simp only [List.map_toArray,List.map_cons,List.map_nil]);first|done|rfl|(simp only [List.length_drop,List.length_take];rfl)) ?_;(with_reducible refine (madrigalref1_Clamp.calls k4 t519 (-16760438) 16760438 t520 _ A47.out).mono ?_);rintro e w' ⟨rfl,⟨nd,rfl⟩⟩;refine ⟨_,rfl,?_⟩))
                   go_loopg [12,13] k4 (fun kq v12 v13 w' => ∃ (x12_5 : List Int) (x13_5 : Int),v13 = .int .i64 x13_5 ∧ Aside0 (madrigalref6_Solve.l6 kq y513 (wrap64 ((l0.length : Int) - 1)) x6_3 x7_3 x8_3 t520 x12_5 x13_5 = some r) ∧ Aside0 (kq ≤ k4) ∧ Aside0 (Kd.R (Kd.int .i64) 2 w' w.heap.size (fun k_ => some k_ ≠ (u7 : Value).ownBlock ∧ some k_ ≠ (v12 : Value).ownBlock) (.slice (some ⟨go29,0,none⟩) y513.length co20) y513) ∧ Aside0 (Kd.R (Kd.int .i64) 2 w' w.heap.size (fun k_ => some k_ ≠ ((.slice (some ⟨go29,0,none⟩) y513.length co20) : Value).ownBlock ∧ some k_ ≠ (v12 : Value).ownBlock) u7 x7_3) ∧ Aside0 (Kd.R (Kd.int .i64) 2 w' w.heap.size (fun k_ => some k_ ≠ ((.slice (some ⟨go29,0,none⟩) y513.length co20) : Value).ownBlock ∧ some k_ ≠ (u7 : Value).ownBlock) v12 x12_5) ∧ Aside0 (Below w.heap.size w w'))
                   case atStart => exact ⟨(([] : List Int)),(0),(by first|rfl|(simp;done)|(simp [*];done)),H',⟨Nat.le_refl _⟩,⟨by (try simp only [hl0_2]);(try simp only [hl0_3]);(with_reducible repeat (first|apply ra_|apply rb_|apply rc_));exact Kd.R_mono HO_0.out (fun _ hk => ⟨hk,(by simp [Value.ownBlock])⟩)⟩,⟨by (try simp only [hl0_2]);(try simp only [hl0_3]);(with_reducible repeat (first|apply ra_|apply rb_|apply rc_));exact Kd.R_mono HO_7.out (fun _ hk => ⟨hk,(by simp [Value.ownBlock])⟩)⟩,⟨by (try simp only [hl0_2]);(try simp only [hl0_3]);first|exact Kd.R_nil _ _ _ _ _|exact Kd.N_nil _ _ _ _ _|exact Kd.V_nil _ _ _ _ _|exact Kd.Q_nil _ _ _ _ _|exact Kd.S_nil _ _ _ _ _⟩,⟨by repeat (first|(with_reducible first|exact HB.out|apply ba_|apply bb_|apply bc_)|exact HB.out)⟩⟩
                   case round => as_aux_lemma =>
                    clear H'
                    try clear c1
                    try clear p1
                    try clear q1
                    try clear hx1
                    try clear hf1
                    try clear c2
                    try clear c2b0
                    try clear c2b1
                    try clear p2
                    try clear q2
                    try clear hx2
                    try clear qi2
                    try clear hf2
                    try clear c3
                    try clear c3b0
                    try clear p3
                    try clear q3
                    try clear c4
                    try clear p4
                    try clear q4
                    try clear hx4
                    try clear qi4
                    try clear c5
                    try clear c5b0
                    try clear c5b1
                    try clear p5
                    try clear q5
                    try clear hx5
                    try clear qi5
                    try clear c6
                    try clear c6b0
                    try clear c6b1
                    try clear p6
                    try clear c11
                    try clear c11b0
                    try clear c11b1
                    try clear c12
                    try clear c12b0
                    try clear c14
                    try clear c14b0
                    try clear c14h0
                    try clear c15
                    try clear c15b0
                    try clear c15h0
                    try clear p17
                    try clear q17
                    try clear hx17
                    try clear hf17
                    try clear c18
                    try clear c21
                    try clear c21b0
                    try clear c21b1
                    try clear c21h0
                    try clear c21h1
                    try clear c22
                    try clear c22b0
                    try clear c22h0
                    try clear c23
                    try clear c23b0
                    try clear c23h0
                    try clear c24
                    try clear c24b0
                    try clear c24h0
                    try clear p26
                    try clear q26
                    try clear hx26
                    try clear hf26
                    try clear p29
                    try clear q29
                    try clear hx29
                    try clear qi29
                    try clear hf29
                    try clear p30
                    try clear q30
                    try clear c31
                    try clear c32
                    try clear c33
                    try clear c33b0
                    try clear c33h0
                    try clear c34
                    try clear c35
                    try clear c35b0
                    try clear c35h0
                    try clear c36
                    try clear c36b0
                    try clear c36h0
                    try clear c37
                    try clear c37b0
                    try clear c37h0
                    try clear c38
                    try clear c38b0
                    try clear c38h0
                    try clear c39
                    try clear c39b0
                    try clear c39h0
                    try clear c41
                    try clear c41b0
                    try clear c41h0
                    try clear c42
                    try clear c42b0
                    try clear c42h0
                    try clear hx17_0
                    try clear hx26_0
                    try clear hx29_0
                    try clear hx496_0
                    try clear hx503_0
                    try clear hx504_0
                    try clear hx507_0
                    try clear hx508_0
                    try clear hx511_0
                    try clear hx512_0
                    try clear hx515_0
                    try clear hx516_0
                    try clear hx517_0
                    try clear p1
                    try clear p17
                    try clear p2
                    try clear p26
                    try clear p29
                    try clear p3
                    try clear p30
                    try clear p4
                    try clear p496
                    try clear p5
                    try clear p503
                    try clear p504
                    try clear p507
                    try clear p508
                    try clear p511
                    try clear p512
                    try clear p515
                    try clear p516
                    try clear p517
                    try clear p6
                    try clear q1
                    try clear q17
                    try clear q2
                    try clear q26
                    try clear q29
                    try clear q3
                    try clear q30
                    try clear q4
                    try clear q496
                    try clear q5
                    try clear q503
                    try clear q504
                    try clear q507
                    try clear q508
                    try clear q511
                    try clear q512
                    try clear q515
                    try clear q516
                    try clear q517
                    obtain ⟨x12_5,x13_5,rfl,HA,HK5,HO_0,HO_7,HO_12,HB⟩:=hrel
                    (try simp only [i64_w,i32_w])
                    cases gk with
                    | zero => exact absurd HA.out (by simp [madrigalref6_Solve.l6])
                    | succ k5 =>
                     have H:=HA.out
                     clear HA
                     simp only [madrigalref6_Solve.l6] at H
                     by_cases c48 : x13_5 < x8_3
                     ·rw [if_pos c48] at H
                      have c48b0:=decide_eq_true c48
                      (try (have c48h0:=c48b0;simp only [hl0_2,hl0_3] at c48h0))
                      clear c48
                      by_cases c49 : 0 ≤ x13_5
                      ·rw [if_pos c49] at H
                       have c49b0:=decide_eq_true c49
                       (try (have c49h0:=c49b0;simp only [hl0_2,hl0_3] at c49h0))
                       clear c49
                       by_cases c50 : x13_5 < (x7_3.length : Int)
                       ·rw [if_pos c50] at H
                        have c50b0:=decide_eq_true c50
                        (try (have c50h0:=c50b0;simp only [hl0_2,hl0_3] at c50h0))
                        clear c50
                        obtain ⟨ji51,hji51⟩ : ∃ j_ : Int,(wrap64 ((wrap64 (x8_3 - 1)) - x13_5)) = j_:=⟨_,rfl⟩
                        replace H : (if 0 ≤ (ji51) then (if (ji51) < (x7_3.length : Int) then ((madrigalref1_Mul.f k5 t520 (rd x7_3 (ji51)) 24).bind fun t523 => ((madrigalref1_Clamp.f k5 (wrap64 ((rd x7_3 x13_5) - t523)) (-2147483648) 2147483648).bind fun t524 => (if x12_5.length < 17592186044416 then (madrigalref6_Solve.l6 k5 y513 (wrap64 ((l0.length : Int) - 1)) x6_3 x7_3 x8_3 t520 (x12_5 ++ [t524]) (wrap64 (x13_5 + 1))) else (none)))) else (none)) else (none)) = some r:=by first|(rw [hji51] at H;exact H)|(simp only [hji51] at H ⊢;exact H)
                        have hji51w : (IntKind.i64.wrap ((wrap64 (x8_3 - 1)) - x13_5)) = ji51:=(i64_w _).trans hji51
                        by_cases c52 : 0 ≤ (ji51)
                        ·rw [if_pos c52] at H
                         have c52b0:=decide_eq_true c52
                         (try (have c52h0:=c52b0;simp only [hl0_2,hl0_3] at c52h0))
                         clear c52
                         by_cases c53 : (ji51) < (x7_3.length : Int)
                         ·rw [if_pos c53] at H
                          have c53b0:=decide_eq_true c53
                          (try (have c53h0:=c53b0;simp only [hl0_2,hl0_3] at c53h0))
                          clear c53
                          replace H:=Option.bind_eq_some_iff.mp H
                          obtain ⟨t523,A540,H⟩:=H
                          (try dsimp only at H)
                          have A54:=ak_ A540
                          clear A540
                          replace H:=Option.bind_eq_some_iff.mp H
                          obtain ⟨t524,A550,H⟩:=H
                          (try dsimp only at H)
                          have A55:=ak_ A550
                          clear A550
                          by_cases c56 : x12_5.length < 17592186044416
                          ·rw [if_pos c56] at H
                           have LMc56:=ak_ c56
                           clear c56
                           obtain ⟨y525,hy525⟩ : ∃ y_ : List Int,y_ = (x12_5 ++ [t524]):=⟨_,rfl⟩
                           replace H : (madrigalref6_Solve.l6 k5 y513 (wrap64 ((l0.length : Int) - 1)) x6_3 x7_3 x8_3 t520 y525 (wrap64 (x13_5 + 1))) = some r:=by first|(rw [hy525];with_reducible exact H)|(have H2_:=(Option.bind_some _ _).symm.trans H;rw [hy525];with_reducible exact H2_)|(have H2_:=(Option.bind_some _ _).symm.trans H;with_reducible exact H2_)|with_reducible exact H|(rw [hy525];exact H)|exact H
                           have Ny525:=ak_ hy525
                           clear hy525
                           have H':=ak_ H
                           clear H
                           try go_wp2
                           have n0_:=ak_ (Kd.R_drew HO_0.out)
                           have n1_:=ak_ (Kd.R_drew HO_7.out)
                           have n2_:=ak_ (Kd.R_drew HO_12.out)
                           have n3_:=ak_ (below_drew1 HB.out)
                           clear HO_0
                           clear HO_7
                           clear HO_12
                           clear HB
                           have HO_0:=n0_
                           have HO_7:=n1_
                           have HO_12:=n2_
                           have HB:=n3_
                           clear n0_ n1_ n2_ n3_
                           obtain ⟨Ao58,co58,eo58⟩:=Kd.R_slice HO_7.out
                           (first|subst eo58|(injection eo58 with f1_ f2_ f3_;have f4_:=f1_.symm;have f5_:=f3_.symm;clear f1_ f2_ f3_;subst f4_;subst f5_))
                           have p521 : 0 ≤ (x13_5 : Int):=of_decide_eq_true (by first|(with_reducible assumption)|assumption)
                           have q521 : x13_5 < (x7_3.length : Int):=of_decide_eq_true (by first|(with_reducible assumption)|assumption)
                           obtain ⟨ad521,e521,hx521_0⟩:=Kd.at_int (Kd.R_reads' HO_7.out).2.2 x13_5 p521 q521
                           cases e521
                           replace p521:=eq_true p521
                           replace q521:=eq_true q521
                           have p522 : 0 ≤ ((ji51) : Int):=of_decide_eq_true (by first|(with_reducible assumption)|assumption)
                           have q522 : (ji51) < (x7_3.length : Int):=of_decide_eq_true (by first|(with_reducible assumption)|assumption)
                           obtain ⟨ad522,e522,hx522_0⟩:=Kd.at_int (Kd.R_reads' HO_7.out).2.2 (ji51) p522 q522
                           obtain rfl : ad521 = ad522:=(by injection e522)
                           replace p522:=eq_true p522
                           replace q522:=eq_true q522
                           refine start_ (n:=19) (S:=fun w' => w'.cell? (ad521.add (x13_5).toNat) = some (.int .i64 (rd x7_3 x13_5)) ∧ w'.cell? (ad521.add ((ji51)).toNat) = some (.int .i64 (rd x7_3 (ji51)))) (ds:=[16,17]) #[false,false,false,false,false,false,false,false,false,false,false,false,false,false,false,false,false,false,false] (by kernel_rfl) rfl rfl ⟨hx521_0,hx522_0⟩ (fun hHeld => ?_);refine with_tabW madrigalref6_Solve.tab31 madrigalref6_Solve.bits31 (fun HT_ HW_ => ?_)
                           generalize wr.drew = w57 at HO_0 HO_7 HO_12 HB hx521_0 hx522_0 hHeld ⊢
                           refine pure_ (i:=0) (N:=some 114) (v:=?_) (a':=?_) #[true,false,false,false,false,false,false,false,false,false,false,false,false,false,false,false,false,false,false] rfl rfl (any_of HT_.out (by kernel_rfl)) (fun _ _ _ h => h) (Or.inl ⟨by rfl,?_⟩) ?_ ?_
                           rotate_left
                           ·intro w'
                            go_simp
                            with_reducible rfl
                           rotate_left
                           ·simp only [Act.put,List.setIfInBounds_toArray,List.set_cons_zero,List.set_cons_succ,i64_w,i32_w]
                            rfl
                           refine pure_ (i:=1) (N:=some 115) (v:=?_) (a':=?_) #[true,true,false,false,false,false,false,false,false,false,false,false,false,false,false,false,false,false,false] rfl rfl (any_of HT_.out (by kernel_rfl)) (fun _ _ _ h => h) (Or.inl ⟨by rfl,?_⟩) ?_ ?_
                           rotate_left
                           ·intro w'
                            go_simp
                            with_reducible rfl
                           rotate_left
                           ·simp only [Act.put,List.setIfInBounds_toArray,List.set_cons_zero,List.set_cons_succ,i64_w,i32_w]
                            rfl
                           refine pure_ (i:=2) (N:=some 116) (v:=?_) (a':=?_) #[true,true,true,false,false,false,false,false,false,false,false,false,false,false,false,false,false,false,false] rfl rfl (any_of HT_.out (by kernel_rfl)) (fun _ _ _ h => h) (Or.inl ⟨by rfl,?_⟩) ?_ ?_
                           rotate_left
                           ·intro w'
                            go_simp
                            with_reducible rfl
                           rotate_left
                           ·simp only [Act.put,List.setIfInBounds_toArray,List.set_cons_zero,List.set_cons_succ,i64_w,i32_w]
                            rfl
                           refine pure_ (i:=3) (N:=some 117) (v:=?_) (a':=?_) #[true,true,true,true,false,false,false,false,false,false,false,false,false,false,false,false,false,false,false] rfl rfl (any_of HT_.out (by kernel_rfl)) (fun _ _ _ h => h) (Or.inl ⟨by rfl,?_⟩) ?_ ?_
                           rotate_left
                           ·intro w'
                            go_simp
                            with_reducible rfl
                           rotate_left
                           ·simp only [Act.put,List.setIfInBounds_toArray,List.set_cons_zero,List.set_cons_succ,i64_w,i32_w]
                            rfl
                           refine pure_ (i:=5) (N:=some 119) (v:=?_) (a':=?_) #[true,true,true,true,false,true,false,false,false,false,false,false,false,false,false,false,false,false,false] rfl rfl (any_of HT_.out (by kernel_rfl)) (fun _ _ _ h => h) (Or.inl ⟨by rfl,?_⟩) ?_ ?_
                           rotate_left
                           ·intro w'
                            go_simp
                            with_reducible rfl
                           rotate_left
                           ·simp only [Act.put,List.setIfInBounds_toArray,List.set_cons_zero,List.set_cons_succ,i64_w,i32_w]
                            rfl
                           refine pure_ (i:=6) (N:=some 120) (v:=?_) (a':=?_) #[true,true,true,true,false,true,true,false,false,false,false,false,false,false,false,false,false,false,false] rfl rfl (any_of HT_.out (by kernel_rfl)) (fun _ _ _ h => h) (Or.inl ⟨by rfl,?_⟩) ?_ ?_
                           rotate_left
                           ·intro w'
                            go_simp
                            with_reducible rfl
                           rotate_left
                           ·simp only [Act.put,List.setIfInBounds_toArray,List.set_cons_zero,List.set_cons_succ,i64_w,i32_w]
                            rfl
                           refine pure_ (i:=7) (N:=some 121) (v:=?_) (a':=?_) #[true,true,true,true,false,true,true,true,false,false,false,false,false,false,false,false,false,false,false] rfl rfl (any_of HT_.out (by kernel_rfl)) (fun _ _ _ h => h) (Or.inl ⟨by rfl,?_⟩) ?_ ?_
                           rotate_left
                           ·intro w'
                            go_simp
                            with_reducible rfl
                           rotate_left
                           ·simp only [Act.put,List.setIfInBounds_toArray,List.set_cons_zero,List.set_cons_succ,i64_w,i32_w]
                            rfl
                           refine pure_ (i:=8) (N:=some 122) (v:=?_) (a':=?_) #[true,true,true,true,false,true,true,true,true,false,false,false,false,false,false,false,false,false,false] rfl rfl (any_of HT_.out (by kernel_rfl)) (fun _ _ _ h => h) (Or.inl ⟨by rfl,?_⟩) ?_ ?_
                           rotate_left
                           ·intro w'
                            go_simp
                            with_reducible rfl
                           rotate_left
                           ·simp only [Act.put,List.setIfInBounds_toArray,List.set_cons_zero,List.set_cons_succ,i64_w,i32_w]
                            rfl
                           refine pure_ (i:=9) (N:=some 123) (v:=?_) (a':=?_) #[true,true,true,true,false,true,true,true,true,true,false,false,false,false,false,false,false,false,false] rfl rfl (any_of HT_.out (by kernel_rfl)) (fun _ _ _ h => h) (Or.inl ⟨by rfl,?_⟩) ?_ ?_
                           rotate_left
                           ·intro w'
                            go_simp
                            with_reducible rfl
                           rotate_left
                           ·simp only [Act.put,List.setIfInBounds_toArray,List.set_cons_zero,List.set_cons_succ,i64_w,i32_w]
                            rfl
                           refine pure_ (i:=10) (N:=some 124) (v:=?_) (a':=?_) #[true,true,true,true,false,true,true,true,true,true,true,false,false,false,false,false,false,false,false] rfl rfl (any_of HT_.out (by kernel_rfl)) (fun _ _ _ h => h) (Or.inl ⟨by rfl,?_⟩) ?_ ?_
                           rotate_left
                           ·intro w'
                            go_simp
                            with_reducible rfl
                           rotate_left
                           ·simp only [Act.put,List.setIfInBounds_toArray,List.set_cons_zero,List.set_cons_succ,i64_w,i32_w]
                            rfl
                           refine pure_ (i:=11) (N:=some 125) (v:=?_) (a':=?_) #[true,true,true,true,false,true,true,true,true,true,true,true,false,false,false,false,false,false,false] rfl rfl (any_of HT_.out (by kernel_rfl)) (fun _ _ _ h => h) (Or.inl ⟨by rfl,?_⟩) ?_ ?_
                           rotate_left
                           ·intro w'
                            go_simp
                            with_reducible rfl
                           rotate_left
                           ·simp only [Act.put,List.setIfInBounds_toArray,List.set_cons_zero,List.set_cons_succ,i64_w,i32_w]
                            rfl
                           refine take_ (i:=4) (N:=some 118) (v:=?_) (a':=?_) #[true,true,true,true,true,true,true,true,true,true,true,true,false,false,false,false,false,false,false] rfl rfl (take_ofW HT_.out HW_.out (by kernel_rfl)) (fun _ _ _ h => h) (Or.inl ⟨by rfl,?_⟩) hHeld ?_ ?_
                           rotate_left
                           ·rintro w' ⟨s0,s1⟩
                            go_simp
                            with_reducible rfl
                           rotate_left
                           ·simp only [Act.put,List.setIfInBounds_toArray,List.set_cons_zero,List.set_cons_succ,i64_w,i32_w]
                            rfl
                           refine take_ (i:=12) (N:=some 126) (v:=?_) (a':=?_) #[true,true,true,true,true,true,true,true,true,true,true,true,true,false,false,false,false,false,false] rfl rfl (take_ofW HT_.out HW_.out (by kernel_rfl)) (fun _ _ _ h => h) (Or.inl ⟨by rfl,?_⟩) hHeld ?_ ?_
                           rotate_left
                           ·rintro w' ⟨s0,s1⟩
                            go_simp
                            with_reducible rfl
                           rotate_left
                           ·simp only [Act.put,List.setIfInBounds_toArray,List.set_cons_zero,List.set_cons_succ,i64_w,i32_w]
                            rfl
                           refine one_ (i:=13) (N:=some 127) #[true,true,true,true,true,true,true,true,true,true,true,true,true,true,false,false,false,false,false] rfl rfl (one_of HT_.out (by kernel_rfl)) (by decide) (fun K hK => ?_)
                           refine goes_ Try.func34 (by kernel_rfl) rfl #[.int .i64 t520,.int .i64 (rd x7_3 (ji51)),.int .i64 24] (by rfl) rfl rfl (by (try simp only [List.map_toArray,List.map_cons,List.map_nil]);first|done|(simp only [hji51];rfl)|rfl|(simp only [List.length_drop,List.length_take];rfl)) ?_
                           with_reducible refine (madrigalref1_Mul.calls k5 t520 (rd x7_3 (ji51)) 24 t523 _ A54.out).mono ?_
                           rintro e w' ⟨rfl,⟨nd,rfl⟩⟩
                           refine ⟨_,rfl,?_⟩
                           refine hK.out _ _ ⟨hHeld.1,hHeld.2⟩ (fun hHeld => ?_)
                           clear hK K
                           refine norm_ (a':=?_) ?_ ?_
                           rotate_left
                           ·show Act.put _ (some 127) _ = _
                            simp only [Act.put,List.setIfInBounds_toArray,List.set_cons_zero,List.set_cons_succ,i64_w,i32_w]
                            rfl
                           refine pure_ (i:=14) (N:=some 128) (v:=?_) (a':=?_) #[true,true,true,true,true,true,true,true,true,true,true,true,true,true,true,false,false,false,false] rfl rfl (any_of HT_.out (by kernel_rfl)) (fun _ _ _ h => h) (Or.inl ⟨by rfl,?_⟩) ?_ ?_
                           rotate_left
                           ·intro w'
                            go_simp
                            with_reducible rfl
                           rotate_left
                           ·simp only [Act.put,List.setIfInBounds_toArray,List.set_cons_zero,List.set_cons_succ,i64_w,i32_w]
                            rfl
                           refine one_ (i:=15) (N:=some 129) #[true,true,true,true,true,true,true,true,true,true,true,true,true,true,true,true,false,false,false] rfl rfl (one_of HT_.out (by kernel_rfl)) (by decide) (fun K hK => ?_)
                           refine goes_ Try.func32 (by kernel_rfl) rfl #[.int .i64 (wrap64 ((rd x7_3 x13_5) - t523)),.int .i64 (-2147483648),.int .i64 2147483648] (by rfl) rfl rfl (by (try simp only [List.map_toArray,List.map_cons,List.map_nil]);first|done|rfl|(simp only [List.length_drop,List.length_take];rfl)) ?_
                           with_reducible refine (madrigalref1_Clamp.calls k5 (wrap64 ((rd x7_3 x13_5) - t523)) (-2147483648) 2147483648 t524 _ A55.out).mono ?_
                           rintro e w' ⟨rfl,⟨nd,rfl⟩⟩
                           refine ⟨_,rfl,?_⟩
                           refine hK.out _ _ ⟨hHeld.1,hHeld.2⟩ (fun hHeld => ?_)
                           clear hK K
                           refine norm_ (a':=?_) ?_ ?_
                           rotate_left
                           ·show Act.put _ (some 129) _ = _
                            simp only [Act.put,List.setIfInBounds_toArray,List.set_cons_zero,List.set_cons_succ,i64_w,i32_w]
                            rfl
                           refine last_ (i:=16) (N:=some 130) #[true,true,true,true,true,true,true,true,true,true,true,true,true,true,true,true,true,false,false] rfl rfl (one_of HT_.out (by kernel_rfl)) (by decide) (fun K hK => ?_)
                           refine value_ (w1:=?_) (v:=?_) (by rfl) rfl ?_ ?_
                           rotate_left 2
                           ·go_simp
                            constructor
                            ·rfl
                            ·rfl
                           refine hK.out _ _ ?_
                           clear hK K
                           refine norm_ (a':=?_) ?_ ?_
                           rotate_left
                           ·show Act.put _ (some 130) _ = _
                            simp only [Act.put,List.setIfInBounds_toArray,List.set_cons_zero,List.set_cons_succ,i64_w,i32_w]
                            rfl
                           refine last_ (i:=17) (N:=some 131) #[true,true,true,true,true,true,true,true,true,true,true,true,true,true,true,true,true,true,false] rfl rfl (one_of HT_.out (by kernel_rfl)) (by decide) (fun K hK => ?_)
                           refine Kd.R_append_step (Kd.int .i64) (w0:=w) w.heap.size (by rfl) (.tmp 114) (.tmp 130) 23 2 (.int .i64 0) 8 rfl Try.underlying23 info2 rfl (by decide) (by omega) u12 x12_5 t524 [.int .i64 t524] (fun k_ => some k_ ≠ (.slice (some ⟨go29,0,none⟩) y513.length co20 : Value).ownBlock ∧ some k_ ≠ (.slice (some ad521) x7_3.length co58 : Value).ownBlock) (fun _ => False) rfl rfl ?aP (fun _ hk => hk.elim) ?aF ?aO ?aB ?aS ?aL ?_
                           (case aP => exact rfl)
                           (case aB => exact (by repeat (first|(with_reducible first|exact HB.out|apply ba_|apply bb_|apply bc_)|exact HB.out)))
                           (case aF => exact (fun k_ hk => ⟨Kd.fresh' (Kd.R_lt (by (with_reducible repeat (first|apply ra_|apply rb_|apply rc_));exact HO_0.out)) k_ hk,Kd.fresh' (Kd.R_lt (by (with_reducible repeat (first|apply ra_|apply rb_|apply rc_));exact HO_7.out)) k_ hk⟩))
                           (case aO => exact (by (with_reducible repeat (first|apply ra_|apply rb_|apply rc_));exact HO_12.out))
                           (case aS => exact (below_size (by repeat (first|(with_reducible first|exact HB.out|apply ba_|apply bb_|apply bc_)|exact HB.out))))
                           (case aL => have:=LMc56.out;omega)
                           intro v526 w59 ho hb hg hat
                           rw [← Ny525.out] at ho
                           have n0_:=ak_ (Kd.R_after (ok:=(fun k_ => some k_ ≠ (.slice (some ad521) x7_3.length co58 : Value).ownBlock)) (by (with_reducible repeat (first|apply ra_|apply rb_|apply rc_));exact HO_0.out) hg hat)
                           have n1_:=ak_ (Kd.R_after (ok:=(fun k_ => some k_ ≠ (.slice (some ⟨go29,0,none⟩) y513.length co20 : Value).ownBlock)) (by (with_reducible repeat (first|apply ra_|apply rb_|apply rc_));exact HO_7.out) hg hat)
                           have n2_:=ak_ (hb)
                           have n3_:=ak_ (ho)
                           clear HO_0
                           clear HO_7
                           clear HB
                           clear HO_12
                           have HO_0:=n0_
                           have HO_7:=n1_
                           have HB:=n2_
                           have HO527:=n3_
                           clear n0_ n1_ n2_ n3_
                           clear ho hb hg hat
                           refine hK.out _ _ ?_
                           clear hK K
                           refine norm_ (a':=?_) ?_ ?_
                           rotate_left
                           ·show Act.put _ (some 131) _ = _
                            simp only [Act.put,List.setIfInBounds_toArray,List.set_cons_zero,List.set_cons_succ,i64_w,i32_w]
                            rfl
                           refine pure_ (i:=18) (N:=some 12) (v:=?_) (a':=?_) #[true,true,true,true,true,true,true,true,true,true,true,true,true,true,true,true,true,true,true] rfl rfl (any_of HT_.out (by kernel_rfl)) (fun _ _ _ h => h) (Or.inl ⟨by rfl,?_⟩) ?_ ?_
                           rotate_left
                           ·intro w'
                            go_simp
                            with_reducible rfl
                           rotate_left
                           ·simp only [Act.put,List.setIfInBounds_toArray,List.set_cons_zero,List.set_cons_succ,i64_w,i32_w]
                            rfl
                           refine done_ (done_of HT_.out (by kernel_rfl)) ?_
                           try go_wp2
                           go_roundg k5
                           case measure => have:=HK1.out;have:=HK2.out;have:=HK3.out;have:=HK4.out;have:=HK5.out;omega
                           case rel => exact ⟨(y525),(wrap64 (x13_5 + 1)),(by first|rfl|(simp;done)|(simp [*];done)),H',⟨by have:=HK1.out;have:=HK2.out;have:=HK3.out;have:=HK4.out;have:=HK5.out;omega⟩,⟨by (try simp only [hl0_2]);(try simp only [hl0_3]);(with_reducible repeat (first|apply ra_|apply rb_|apply rc_));exact HO_0.out⟩,⟨by (try simp only [hl0_2]);(try simp only [hl0_3]);(with_reducible repeat (first|apply ra_|apply rb_|apply rc_));exact HO_7.out⟩,⟨by (try simp only [hl0_2]);(try simp only [hl0_3]);(with_reducible repeat (first|apply ra_|apply rb_|apply rc_));exact HO527.out⟩,⟨by repeat (first|(with_reducible first|exact HB.out|apply ba_|apply bb_|apply bc_)|exact HB.out)⟩⟩
                          ·rw [if_neg c56] at H
                           exact absurd H (by simp)
                         ·rw [if_neg c53] at H
                          exact absurd H (by simp)
                        ·rw [if_neg c52] at H
                         exact absurd H (by simp)
                       ·rw [if_neg c50] at H
                        exact absurd H (by simp)
                      ·rw [if_neg c49] at H
                       exact absurd H (by simp)
                     ·rw [if_neg c48] at H
                      have c48b0:=decide_eq_false c48
                      (try (have c48h0:=c48b0;simp only [hl0_2,hl0_3] at c48h0))
                      clear c48
                      by_cases c60 : x12_5.length < 17592186044416
                      ·rw [if_pos c60] at H
                       have LMc60:=ak_ c60
                       clear c60
                       obtain ⟨y528,hy528⟩ : ∃ y_ : List Int,y_ = (x12_5 ++ [t520]):=⟨_,rfl⟩
                       replace H : ((madrigalref1_Mul.f k5 t520 t520 24).bind fun t531 => ((madrigalref1_Mul.f k5 x6_3 (wrap64 (16777216 - t531)) 24).bind fun t532 => (if t532 < 1 then (madrigalref6_Solve.l4 k5 y513 (wrap64 ((l0.length : Int) - 1)) 1 y528 (wrap64 (x8_3 + 1))) else (madrigalref6_Solve.l4 k5 y513 (wrap64 ((l0.length : Int) - 1)) t532 y528 (wrap64 (x8_3 + 1)))))) = some r:=by first|(rw [hy528];with_reducible exact H)|(have H2_:=(Option.bind_some _ _).symm.trans H;rw [hy528];with_reducible exact H2_)|(have H2_:=(Option.bind_some _ _).symm.trans H;with_reducible exact H2_)|with_reducible exact H|(rw [hy528];exact H)|exact H
                       have Ny528:=ak_ hy528
                       clear hy528
                       replace H:=Option.bind_eq_some_iff.mp H
                       obtain ⟨t531,A610,H⟩:=H
                       (try dsimp only at H)
                       have A61:=ak_ A610
                       clear A610
                       replace H:=Option.bind_eq_some_iff.mp H
                       obtain ⟨t532,A620,H⟩:=H
                       (try dsimp only at H)
                       have A62:=ak_ A620
                       clear A620
                       by_cases c63 : t532 < 1
                       ·rw [if_pos c63] at H
                        have c63b0:=decide_eq_true c63
                        (try (have c63h0:=c63b0;simp only [hl0_2,hl0_3] at c63h0))
                        clear c63
                        have H':=ak_ H
                        clear H
                        go_wp2_with (first|((with_reducible refine gate_builtin (b:=.append) (xs:=#[.tmp 132,.tmp 134]) rfl ?_);at_builtin;refine Kd.R_append (Kd.int .i64) (w0:=w) w.heap.size rfl (.tmp 132) (.tmp 134) 23 2 (.int .i64 0) 8 rfl Try.underlying23 info2 rfl (by decide) (by omega) u12 x12_5 t520 [.int .i64 t520] (fun k_ => some k_ ≠ (.slice (some ⟨go29,0,none⟩) y513.length co20 : Value).ownBlock ∧ some k_ ≠ (u7 : Value).ownBlock) (fun _ => False) rfl rfl ?aP (fun _ hk => hk.elim) ?aF ?aO ?aB ?aS ?aL ?_;(case aP => exact rfl);(case aB => exact (by repeat (first|(with_reducible first|exact HB.out|apply ba_|apply bb_|apply bc_)|exact HB.out)));(case aF => exact (fun k_ hk => ⟨Kd.fresh' (Kd.R_lt (by (with_reducible repeat (first|apply ra_|apply rb_|apply rc_));exact HO_0.out)) k_ hk,Kd.fresh' (Kd.R_lt (by (with_reducible repeat (first|apply ra_|apply rb_|apply rc_));exact HO_7.out)) k_ hk⟩));(case aO => exact (by (with_reducible repeat (first|apply ra_|apply rb_|apply rc_));exact HO_12.out));(case aS => exact (below_size (by repeat (first|(with_reducible first|exact HB.out|apply ba_|apply bb_|apply bc_)|exact HB.out))));(case aL => have:=LMc60.out;omega);intro v529 w64 ho hb hg hat;rw [← Ny528.out] at ho;have n0_:=ak_ (Kd.R_after (ok:=(fun k_ => some k_ ≠ (u7 : Value).ownBlock)) (by (with_reducible repeat (first|apply ra_|apply rb_|apply rc_));exact HO_0.out) hg hat);have n1_:=ak_ (Kd.R_after (ok:=(fun k_ => some k_ ≠ (.slice (some ⟨go29,0,none⟩) y513.length co20 : Value).ownBlock)) (by (with_reducible repeat (first|apply ra_|apply rb_|apply rc_));exact HO_7.out) hg hat);have n2_:=ak_ (hb);have n3_:=ak_ (ho);clear HO_0;clear HO_7;clear HB;clear HO_12;have HO_0:=n0_;have HO_7:=n1_;have HB:=n2_;have HO530:=n3_;clear n0_ n1_ n2_ n3_;clear ho hb hg hat)|((with_reducible refine gate_callee (f:=34) rfl ?_);refine goesL_ (some 139) rfl rfl Try.func34 (by kernel_rfl) rfl #[.int .i64 t520,.int .i64 t520,.int .i64 24] rfl (by (try simp only [List.map_toArray,List.map_cons,List.map_nil]);first|done|rfl|(simp only [List.length_drop,List.length_take];rfl)) ?_;(with_reducible refine (madrigalref1_Mul.calls k5 t520 t520 24 t531 _ A61.out).mono ?_);rintro e w' ⟨rfl,⟨nd,rfl⟩⟩;refine ⟨_,rfl,?_⟩)|((with_reducible refine gate_callee (f:=34) rfl ?_);refine goesL_ (some 141) rfl rfl Try.func34 (by kernel_rfl) rfl #[.int .i64 x6_3,.int .i64 (wrap64 (16777216 - t531)),.int .i64 24] rfl (by (try simp only [List.map_toArray,List.map_cons,List.map_nil]);first|done|rfl|(simp only [List.length_drop,List.length_take];rfl)) ?_;(with_reducible refine (madrigalref1_Mul.calls k5 x6_3 (wrap64 (16777216 - t531)) 24 t532 _ A62.out).mono ?_);rintro e w' ⟨rfl,⟨nd,rfl⟩⟩;refine ⟨_,rfl,?_⟩))
                        (try simp only [← hl0_3])
                        go_roundg k5
                        case measure => have:=HK1.out;have:=HK2.out;have:=HK3.out;have:=HK4.out;have:=HK5.out;omega
                        case rel => exact ⟨(1),(y528),(wrap64 (x8_3 + 1)),(by first|rfl|(simp;done)|(simp [*];done)),(by first|rfl|(simp;done)|(simp [*];done)),H',⟨by have:=HK1.out;have:=HK2.out;have:=HK3.out;have:=HK4.out;have:=HK5.out;omega⟩,⟨by (try simp only [hl0_2]);(try simp only [hl0_3]);(with_reducible repeat (first|apply ra_|apply rb_|apply rc_));exact Kd.R_mono HO_0.out (fun _ hk => hk.2)⟩,⟨by (try simp only [hl0_2]);(try simp only [hl0_3]);(with_reducible repeat (first|apply ra_|apply rb_|apply rc_));exact Kd.R_mono HO530.out (fun _ hk => hk.1)⟩,⟨by repeat (first|(with_reducible first|exact HB.out|apply ba_|apply bb_|apply bc_)|exact HB.out)⟩⟩
                       ·rw [if_neg c63] at H
                        have c63b0:=decide_eq_false c63
                        (try (have c63h0:=c63b0;simp only [hl0_2,hl0_3] at c63h0))
                        clear c63
                        have H':=ak_ H
                        clear H
                        go_wp2_with (first|((with_reducible refine gate_builtin (b:=.append) (xs:=#[.tmp 132,.tmp 134]) rfl ?_);at_builtin;refine Kd.R_append (Kd.int .i64) (w0:=w) w.heap.size rfl (.tmp 132) (.tmp 134) 23 2 (.int .i64 0) 8 rfl Try.underlying23 info2 rfl (by decide) (by omega) u12 x12_5 t520 [.int .i64 t520] (fun k_ => some k_ ≠ (.slice (some ⟨go29,0,none⟩) y513.length co20 : Value).ownBlock ∧ some k_ ≠ (u7 : Value).ownBlock) (fun _ => False) rfl rfl ?aP (fun _ hk => hk.elim) ?aF ?aO ?aB ?aS ?aL ?_;(case aP => exact rfl);(case aB => exact (by repeat (first|(with_reducible first|exact HB.out|apply ba_|apply bb_|apply bc_)|exact HB.out)));(case aF => exact (fun k_ hk => ⟨Kd.fresh' (Kd.R_lt (by (with_reducible repeat (first|apply ra_|apply rb_|apply rc_));exact HO_0.out)) k_ hk,Kd.fresh' (Kd.R_lt (by (with_reducible repeat (first|apply ra_|apply rb_|apply rc_));exact HO_7.out)) k_ hk⟩));(case aO => exact (by (with_reducible repeat (first|apply ra_|apply rb_|apply rc_));exact HO_12.out));(case aS => exact (below_size (by repeat (first|(with_reducible first|exact HB.out|apply ba_|apply bb_|apply bc_)|exact HB.out))));(case aL => have:=LMc60.out;omega);intro v529 w65 ho hb hg hat;rw [← Ny528.out] at ho;have n0_:=ak_ (Kd.R_after (ok:=(fun k_ => some k_ ≠ (u7 : Value).ownBlock)) (by (with_reducible repeat (first|apply ra_|apply rb_|apply rc_));exact HO_0.out) hg hat);have n1_:=ak_ (Kd.R_after (ok:=(fun k_ => some k_ ≠ (.slice (some ⟨go29,0,none⟩) y513.length co20 : Value).ownBlock)) (by (with_reducible repeat (first|apply ra_|apply rb_|apply rc_));exact HO_7.out) hg hat);have n2_:=ak_ (hb);have n3_:=ak_ (ho);clear HO_0;clear HO_7;clear HB;clear HO_12;have HO_0:=n0_;have HO_7:=n1_;have HB:=n2_;have HO530:=n3_;clear n0_ n1_ n2_ n3_;clear ho hb hg hat)|((with_reducible refine gate_callee (f:=34) rfl ?_);refine goesL_ (some 139) rfl rfl Try.func34 (by kernel_rfl) rfl #[.int .i64 t520,.int .i64 t520,.int .i64 24] rfl (by (try simp only [List.map_toArray,List.map_cons,List.map_nil]);first|done|rfl|(simp only [List.length_drop,List.length_take];rfl)) ?_;(with_reducible refine (madrigalref1_Mul.calls k5 t520 t520 24 t531 _ A61.out).mono ?_);rintro e w' ⟨rfl,⟨nd,rfl⟩⟩;refine ⟨_,rfl,?_⟩)|((with_reducible refine gate_callee (f:=34) rfl ?_);refine goesL_ (some 141) rfl rfl Try.func34 (by kernel_rfl) rfl #[.int .i64 x6_3,.int .i64 (wrap64 (16777216 - t531)),.int .i64 24] rfl (by (try simp only [List.map_toArray,List.map_cons,List.map_nil]);first|done|rfl|(simp only [List.length_drop,List.length_take];rfl)) ?_;(with_reducible refine (madrigalref1_Mul.calls k5 x6_3 (wrap64 (16777216 - t531)) 24 t532 _ A62.out).mono ?_);rintro e w' ⟨rfl,⟨nd,rfl⟩⟩;refine ⟨_,rfl,?_⟩))
                        (try simp only [← hl0_3])
                        go_roundg k5
                        case measure => have:=HK1.out;have:=HK2.out;have:=HK3.out;have:=HK4.out;have:=HK5.out;omega
                        case rel => exact ⟨(t532),(y528),(wrap64 (x8_3 + 1)),(by first|rfl|(simp;done)|(simp [*];done)),(by first|rfl|(simp;done)|(simp [*];done)),H',⟨by have:=HK1.out;have:=HK2.out;have:=HK3.out;have:=HK4.out;have:=HK5.out;omega⟩,⟨by (try simp only [hl0_2]);(try simp only [hl0_3]);(with_reducible repeat (first|apply ra_|apply rb_|apply rc_));exact Kd.R_mono HO_0.out (fun _ hk => hk.2)⟩,⟨by (try simp only [hl0_2]);(try simp only [hl0_3]);(with_reducible repeat (first|apply ra_|apply rb_|apply rc_));exact Kd.R_mono HO530.out (fun _ hk => hk.1)⟩,⟨by repeat (first|(with_reducible first|exact HB.out|apply ba_|apply bb_|apply bc_)|exact HB.out)⟩⟩
                      ·rw [if_neg c60] at H
                       exact absurd H (by simp)
               ·rw [if_neg c36] at H
                exact absurd H (by simp)
              ·rw [if_neg c35] at H
               exact absurd H (by simp)
             ·rw [if_neg c33] at H
              have c33b0:=decide_eq_false c33
              (try (have c33h0:=c33b0;simp only [hl0_2,hl0_3] at c33h0))
              clear c33
              have H':=ak_ H
              clear H
              go_wp2
              go_loopg [14] k3 (fun kq v14 w' => ∃ (x7_4 : List Int) (x14_4 : Int),v14 = .int .i64 x14_4 ∧ Aside0 (madrigalref6_Solve.l7 kq x7_4 x14_4 = some r) ∧ Aside0 (kq ≤ k3) ∧ Aside0 (Kd.R (Kd.int .i64) 2 w' w.heap.size (fun _ => True) u7 x7_4) ∧ Aside0 (Below w.heap.size w w'))
              case atStart => exact ⟨(x7_3),(0),(by first|rfl|(simp;done)|(simp [*];done)),H',⟨Nat.le_refl _⟩,⟨by (try simp only [hl0_2]);(try simp only [hl0_3]);(with_reducible repeat (first|apply ra_|apply rb_|apply rc_));exact Kd.R_mono HO_7.out (fun _ hk => trivial)⟩,⟨by repeat (first|(with_reducible first|exact HB.out|apply ba_|apply bb_|apply bc_)|exact HB.out)⟩⟩
              case round => as_aux_lemma =>
               clear H'
               try clear c1
               try clear p1
               try clear q1
               try clear hx1
               try clear hf1
               try clear c2
               try clear c2b0
               try clear c2b1
               try clear p2
               try clear q2
               try clear hx2
               try clear qi2
               try clear hf2
               try clear c3
               try clear c3b0
               try clear p3
               try clear q3
               try clear c4
               try clear p4
               try clear q4
               try clear hx4
               try clear qi4
               try clear c5
               try clear c5b0
               try clear c5b1
               try clear p5
               try clear q5
               try clear hx5
               try clear qi5
               try clear c6
               try clear c6b0
               try clear c6b1
               try clear p6
               try clear c11
               try clear c11b0
               try clear c11b1
               try clear c12
               try clear c12b0
               try clear c14
               try clear c14b0
               try clear c14h0
               try clear c15
               try clear c15b0
               try clear c15h0
               try clear p17
               try clear q17
               try clear hx17
               try clear hf17
               try clear c18
               try clear c21
               try clear c21b0
               try clear c21b1
               try clear c21h0
               try clear c21h1
               try clear c22
               try clear c22b0
               try clear c22h0
               try clear c23
               try clear c23b0
               try clear c23h0
               try clear c24
               try clear c24b0
               try clear c24h0
               try clear p26
               try clear q26
               try clear hx26
               try clear hf26
               try clear p29
               try clear q29
               try clear hx29
               try clear qi29
               try clear hf29
               try clear p30
               try clear q30
               try clear c31
               try clear c32
               try clear c33
               try clear c33b0
               try clear c33h0
               try clear c34
               try clear c35
               try clear c35b0
               try clear c35h0
               try clear c36
               try clear c36b0
               try clear c36h0
               try clear c37
               try clear c37b0
               try clear c37h0
               try clear c38
               try clear c38b0
               try clear c38h0
               try clear c39
               try clear c39b0
               try clear c39h0
               try clear c41
               try clear c41b0
               try clear c41h0
               try clear c42
               try clear c42b0
               try clear c42h0
               try clear c48
               try clear c48b0
               try clear c48h0
               try clear c49
               try clear c49b0
               try clear c49h0
               try clear p49
               try clear q49
               try clear hx49
               try clear c50
               try clear c50b0
               try clear c50h0
               try clear p50
               try clear q50
               try clear hx50
               try clear p51
               try clear q51
               try clear hx51
               try clear c52
               try clear c52b0
               try clear c52h0
               try clear p52
               try clear q52
               try clear hx52
               try clear c53
               try clear c53b0
               try clear c53h0
               try clear c56
               try clear c60
               try clear c63
               try clear c63b0
               try clear c63h0
               try clear p64
               try clear hx17_0
               try clear hx26_0
               try clear hx29_0
               try clear hx496_0
               try clear hx503_0
               try clear hx504_0
               try clear hx507_0
               try clear hx508_0
               try clear hx511_0
               try clear hx512_0
               try clear hx515_0
               try clear hx516_0
               try clear hx517_0
               try clear hx521_0
               try clear hx522_0
               try clear p1
               try clear p17
               try clear p2
               try clear p26
               try clear p29
               try clear p3
               try clear p30
               try clear p4
               try clear p496
               try clear p5
               try clear p503
               try clear p504
               try clear p507
               try clear p508
               try clear p511
               try clear p512
               try clear p515
               try clear p516
               try clear p517
               try clear p521
               try clear p522
               try clear p6
               try clear q1
               try clear q17
               try clear q2
               try clear q26
               try clear q29
               try clear q3
               try clear q30
               try clear q4
               try clear q496
               try clear q5
               try clear q503
               try clear q504
               try clear q507
               try clear q508
               try clear q511
               try clear q512
               try clear q515
               try clear q516
               try clear q517
               try clear q521
               try clear q522
               obtain ⟨x7_4,x14_4,rfl,HA,HK4,HO_7,HB⟩:=hrel
               (try simp only [i64_w,i32_w])
               cases gk with
               | zero => exact absurd HA.out (by simp [madrigalref6_Solve.l7])
               | succ k4 =>
                have H:=HA.out
                clear HA
                simp only [madrigalref6_Solve.l7] at H
                by_cases c66 : x14_4 < (x7_4.length : Int)
                ·rw [if_pos c66] at H
                 have c66b0:=decide_eq_true c66
                 (try (have c66h0:=c66b0;simp only [hl0_2,hl0_3] at c66h0))
                 clear c66
                 by_cases c67 : 0 ≤ x14_4
                 ·rw [if_pos c67] at H
                  have c67b0:=decide_eq_true c67
                  (try (have c67h0:=c67b0;simp only [hl0_2,hl0_3] at c67h0))
                  clear c67
                  replace H:=Option.bind_eq_some_iff.mp H
                  obtain ⟨t534,A680,H⟩:=H
                  (try dsimp only at H)
                  have A68:=ak_ A680
                  clear A680
                  obtain ⟨y535,hy535⟩ : ∃ y_ : List Int,y_ = (x7_4.set (x14_4 : Int).toNat t534):=⟨_,rfl⟩
                  replace H : (madrigalref6_Solve.l7 k4 y535 (wrap64 (x14_4 + 1))) = some r:=by first|(rw [hy535];with_reducible exact H)|(have H2_:=(Option.bind_some _ _).symm.trans H;rw [hy535];with_reducible exact H2_)|(have H2_:=(Option.bind_some _ _).symm.trans H;with_reducible exact H2_)|with_reducible exact H|(rw [hy535];exact H)|exact H
                  have Ny535:=ak_ hy535
                  clear hy535
                  have H':=ak_ H
                  clear H
                  obtain ⟨Ao70,co70,eo70⟩:=Kd.R_slice HO_7.out
                  subst eo70
                  have p533 : 0 ≤ (x14_4 : Int):=of_decide_eq_true (by first|(with_reducible assumption)|assumption)
                  have q533 : x14_4 < (x7_4.length : Int):=of_decide_eq_true (by first|(with_reducible assumption)|assumption)
                  obtain ⟨ad533,e533,hx533_0⟩:=Kd.at_int (Kd.R_reads' HO_7.out).2.2 x14_4 p533 q533
                  cases e533
                  replace p533:=eq_true p533
                  replace q533:=eq_true q533
                  go_wp2_with (first|((with_reducible refine gate_callee (f:=34) rfl ?_);refine goesL_ (some 156) rfl rfl Try.func34 (by kernel_rfl) rfl #[.int .i64 (rd x7_4 x14_4),.int .i64 1,.int .i64 12] rfl (by (try simp only [List.map_toArray,List.map_cons,List.map_nil]);first|done|rfl|(simp only [List.length_drop,List.length_take];rfl)) ?_;(with_reducible refine (madrigalref1_Mul.calls k4 (rd x7_4 x14_4) 1 12 t534 _ A68.out).mono ?_);rintro e w' ⟨rfl,⟨nd,rfl⟩⟩;refine ⟨_,rfl,?_⟩;(try (rw [drewN_self wr];generalize hq_ : World.drewN wr _ = wr;have n0_ : Aside0 (Kd.R (Kd.int .i64) 2 wr w.heap.size (fun _ => True) (.slice (some ad533) x7_4.length co70) x7_4):=⟨by rw [← hq_];exact (by (with_reducible repeat (first|apply ra_|apply rb_|apply rc_));exact HO_7.out)⟩;have n1_ : Aside0 (Below w.heap.size w wr):=⟨by rw [← hq_];exact (by repeat (first|(with_reducible first|exact HB.out|apply ba_|apply bb_|apply bc_)|exact HB.out))⟩;clear HO_7 HB hq_;have HO_7:=n0_;have HB:=n1_;clear n0_ n1_));have p69 : 0 ≤ (x14_4 : Int):=of_decide_eq_true (by first|(with_reducible assumption)|assumption);have q69 : (x14_4 : Int) < ((x7_4.length : Int) : Int):=of_decide_eq_true (by first|(with_reducible assumption)|assumption);obtain ⟨go69,co69,eo69,gb69,gl69,cl69,HG69⟩:=Kd.R_form HO_7.out (by omega);(first|cases eo69|(injection eo69 with ea_ en_ ec_;(first|subst ea_|(injection ea_ with ea_;subst ea_));subst ec_;clear en_));have GB69:=ak_ gb69;have GG69:=ak_ HG69;clear gb69 gl69 HG69;(first|simp only [add_plain] at hx533_0|skip);obtain ⟨hx69_0,hf69_0⟩:=Kd.R_celln 0 HO_7.out (x14_4 : Int) p69 q69;replace p69:=eq_true p69;replace q69:=eq_true q69;obtain ⟨hy71_,hz71_⟩:=Kd.R_celln 0 HO_7.out (x14_4 : Int) (of_decide_eq_true (by first|(with_reducible assumption)|assumption)) (of_decide_eq_true (by first|(with_reducible assumption)|assumption));have HP71:=Kd.R_putg HO_7.out (x14_4 : Int) t534)|((with_reducible refine gate_store (t:=2) (p:=157) rfl ?_);refine store_event (t:=2) (p:=157) (v:=?vo_w72) (w1:=(wr.setCell ⟨go69,(x14_4 : Int).toNat,none⟩ (.int .i64 t534))) ?hg ?ho ?hn ?hr ?_;(case ho => rfl);(case hg => rfl);(case hn => rfl);(case hr => first|(go_simp;done)|(go_simp;rfl));intro w72 hw;have hg : wr.grownBy w72 (some go69):=(by rw [hw];exact HP71.2);have hp_ : Kd.R (Kd.int .i64) 2 w72 w.heap.size (fun _ => True) (.slice (some ⟨go69,0,none⟩) x7_4.length co70) y535:=(by rw [hw,Ny535.out];exact HP71.1);clear HP71;have n0_:=ak_ (hp_);have n1_:=ak_ ((by rw [hw];exact below_set (HB.out) GB69.out : Below w.heap.size w w72));clear HO_7;clear HB;have HO_7:=n0_;have HB:=n1_;clear n0_ n1_;clear hg hw hp_))
                  go_roundg k4
                  case measure => have:=HK1.out;have:=HK2.out;have:=HK3.out;have:=HK4.out;omega
                  case rel => exact ⟨(y535),(wrap64 (x14_4 + 1)),(by first|rfl|(simp;done)|(simp [*];done)),H',⟨by have:=HK1.out;have:=HK2.out;have:=HK3.out;have:=HK4.out;omega⟩,⟨by (try simp only [hl0_2]);(try simp only [hl0_3]);(with_reducible repeat (first|apply ra_|apply rb_|apply rc_));exact HO_7.out⟩,⟨by repeat (first|(with_reducible first|exact HB.out|apply ba_|apply bb_|apply bc_)|exact HB.out)⟩⟩
                 ·rw [if_neg c67] at H
                  exact absurd H (by simp)
                ·rw [if_neg c66] at H
                 have c66b0:=decide_eq_false c66
                 (try (have c66h0:=c66b0;simp only [hl0_2,hl0_3] at c66h0))
                 clear c66
                 replace H:=Option.bind_eq_some_iff.mp H
                 obtain ⟨t536,A730,H⟩:=H
                 (try dsimp only at H)
                 have A73:=ak_ A730
                 clear A730
                 obtain rfl:=Option.some.inj H
                 obtain ⟨Ao74,co74,eo74⟩:=Kd.R_slice HO_7.out
                 subst eo74
                 go_wp2_with (first|((with_reducible refine gate_callee (f:=36) rfl ?_);refine goesL_ (some 159) rfl rfl Try.func36 (by kernel_rfl) rfl #[.slice Ao74 x7_4.length co74] rfl (by (try simp only [List.map_toArray,List.map_cons,List.map_nil]);first|done|rfl|(simp only [List.length_drop,List.length_take];rfl)) ?_;(with_reducible refine (madrigalref6_Fit.calls k4 _ _ x7_4 t536 _ ?side1 ?side2 A73.out).mono ?_);(case side1 => repeat (first|exact (Kd.R_reads' HO_7.out).2.2|(with_reducible refine Kd.C_alloc ?_ _)|(with_reducible refine Kd.C_drewN ?_ _)|(with_reducible refine Kd.C_drew ?_)));(case side2 => exact (Kd.R_reads' HO_7.out).2.1);rintro e w75 ⟨v537,rfl,ho0,hb⟩;refine ⟨_,rfl,?_⟩;have n0_:=ak_ (Kd.R_elder' (by (with_reducible repeat (first|apply ra_|apply rb_|apply rc_));exact HO_7.out) (Kd.R_base ho0) hb);have n1_:=ak_ (Kd.R_lower (Kd.R_new' ho0 (Kd.R_lt (by (with_reducible repeat (first|apply ra_|apply rb_|apply rc_));exact HO_7.out))) (below_size (by repeat (first|(with_reducible first|exact HB.out|apply ba_|apply bb_|apply bc_)|exact HB.out))));have n2_:=ak_ (below_step (by repeat (first|(with_reducible first|exact HB.out|apply ba_|apply bb_|apply bc_)|exact HB.out)) hb);clear HO_7;clear HB;have HO_7:=n0_;have HO538:=n1_;have HB:=n2_;clear n0_ n1_ n2_;(try clear hb);(try clear ho0)))
                 go_ret
                 exact ⟨_,by first|rfl|(simp [errW_none,errW_some] <;> rfl)|(simp [*,errW_none,errW_some] <;> rfl),by (with_reducible repeat (first|apply ra_|apply rb_|apply rc_));exact Kd.R_mono HO538.out (fun _ hk => trivial),by repeat (first|(with_reducible first|exact HB.out|apply ba_|apply bb_|apply bc_)|exact HB.out)⟩
         ·rw [if_neg c21] at H
          exact absurd H (by simp)
     ·rw [if_neg c11] at H
      exact absurd H (by simp)
 ·rw [if_neg c2] at H
  exact absurd H (by simp)

end Go.Proofs.Ytllglpcpjeggcaa.P
