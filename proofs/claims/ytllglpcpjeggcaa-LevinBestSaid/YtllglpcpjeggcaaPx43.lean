/- The machine side of the laws of one chapter, without conditions: each call of a Go function comes to what the Lean function of its name answers. Written for this claim by a program of the prover. -/
import Derived.Test.YtllglpcpjeggcaaPx0
import Derived.Test.YtllglpcpjeggcaaPx31
namespace Go.Proofs.Ytllglpcpjeggcaa.P
open Go.RowKit Go.Proofs.YtllglpcpjeggcaaW.PrintWords Go.Proofs.YtllglpcpjeggcaaW.PrintLast Go.Proofs.YtllglpcpjeggcaaW.PrintMore
attribute [local go_sem] max2_int min2_int max_two min_two max_three min_three max_four min_four   -- for this text's walks alone
set_option linter.unusedVariables false
set_option linter.unusedSimpArgs false

/-! ### madrigalref6_poly: function 51 -/
mutual
def madrigalref6_poly.l0 : Nat → List Int → List Int → Int → Option (List Int)
 | 0,_,_,_ => none
 | k + 1,x0,x3,x4 => if x4 < (x0.length : Int) then (if 0 ≤ (wrap64 (x4 - 1)) then (if (wrap64 (x4 - 1)) < (x3.length : Int) then (if 0 ≤ x4 then (if x4 < (x3.length : Int) then ((madrigalref1_Mul.f k (rd x0 x4) (rd x3 x4) 16).bind fun t627 => (if 0 ≤ (wrap64 (x4 + 1)) then (if (wrap64 (x4 + 1)) < (x3.length : Int) then (madrigalref6_poly.l1 k x0 (x3.set ((wrap64 (x4 + 1)) : Int).toNat (wrap64 ((wrap64 (2 * (rd x3 (wrap64 (x4 - 1))))) - t627))) x4 x4) else (none)) else (none))) else (none)) else (none)) else (none)) else (none)) else (some x3)
def madrigalref6_poly.l1 : Nat → List Int → List Int → Int → Int → Option (List Int)
 | 0,_,_,_,_ => none
 | k + 1,x0,x3,x4,x5 => if x5 ≥ 2 then (if 0 ≤ x5 then (if x5 < (x3.length : Int) then (if 0 ≤ (wrap64 (x5 - 2)) then (if (wrap64 (x5 - 2)) < (x3.length : Int) then (if 0 ≤ x4 then (if x4 < (x0.length : Int) then (if 0 ≤ (wrap64 (x5 - 1)) then (if (wrap64 (x5 - 1)) < (x3.length : Int) then ((madrigalref1_Mul.f k (rd x0 x4) (rd x3 (wrap64 (x5 - 1))) 16).bind fun t633 => (madrigalref6_poly.l1 k x0 (x3.set (x5 : Int).toNat (wrap64 ((wrap64 ((rd x3 x5) + (rd x3 (wrap64 (x5 - 2))))) - t633))) x4 (wrap64 (x5 - 1)))) else (none)) else (none)) else (none)) else (none)) else (none)) else (none)) else (none)) else (none)) else (if 1 < (x3.length : Int) then (if 0 ≤ x4 then (if x4 < (x0.length : Int) then (madrigalref6_poly.l0 k x0 (x3.set (1 : Int).toNat (wrap64 ((rd x3 1) - (rd x0 x4)))) (wrap64 (x4 + 1))) else (none)) else (none)) else (none))
end
def madrigalref6_poly.f (k : Nat) (l0 : List Int) : Option (List Int):=if 0 ≤ (wrap64 ((l0.length : Int) + 1)) then (if (wrap64 ((l0.length : Int) + 1) : Int).toNat ≤ 35184372088832 then ((some (List.replicate (wrap64 ((l0.length : Int) + 1) : Int).toNat 0 : List Int)).bind fun y618 => (if 0 < (y618.length : Int) then (if 0 < (l0.length : Int) then (if 1 < (y618.length : Int) then (madrigalref6_poly.l0 k l0 ((y618.set (0 : Int).toNat 65536).set (1 : Int).toNat (wrap64 (-(rd l0 0)))) 1) else (none)) else (none)) else (none))) else (none)) else (none)
theorem madrigalref6_poly.mono_l : ∀ k,(∀ y0 y1 y2,LeO (madrigalref6_poly.l0 k y0 y1 y2) (madrigalref6_poly.l0 (k + 1) y0 y1 y2)) ∧ (∀ y0 y1 y2 y3,LeO (madrigalref6_poly.l1 k y0 y1 y2 y3) (madrigalref6_poly.l1 (k + 1) y0 y1 y2 y3))
 | 0 => ⟨fun _ _ _ r h => by simp [madrigalref6_poly.l0] at h,fun _ _ _ _ r h => by simp [madrigalref6_poly.l1] at h⟩
 | k + 1 => by
  obtain ⟨ih0,ih1⟩:=madrigalref6_poly.mono_l k
  refine ⟨?_,?_⟩
  all_goals (intros;first|unfold madrigalref6_poly.l0|unfold madrigalref6_poly.l1)
  all_goals (repeat' first|(with_reducible first|exact ih0 _ _ _|exact ih1 _ _ _ _|exact madrigalref1_Mul.mono _ _ _ _|exact LeO.refl _|exact LeO.none _|refine LeO.ite ?_ ?_|refine LeO.bind ?_ (fun _ => ?_))|exact ih0 _ _ _|exact ih1 _ _ _ _|exact madrigalref1_Mul.mono _ _ _ _|exact LeO.none _|refine LeO.ite ?_ ?_|refine LeO.bind ?_ (fun _ => ?_))
theorem madrigalref6_poly.mono : ∀ a0 k,LeO (madrigalref6_poly.f k a0) (madrigalref6_poly.f (k + 1) a0):=by
 intro a0 k
 obtain ⟨ih0,ih1⟩:=madrigalref6_poly.mono_l k
 unfold madrigalref6_poly.f
 repeat' first|(with_reducible first|exact ih0 _ _ _|exact ih1 _ _ _ _|exact madrigalref1_Mul.mono _ _ _ _|exact LeO.refl _|exact LeO.none _|refine LeO.ite ?_ ?_|refine LeO.bind ?_ (fun _ => ?_))|exact ih0 _ _ _|exact ih1 _ _ _ _|exact madrigalref1_Mul.mono _ _ _ _|exact LeO.none _|refine LeO.ite ?_ ?_|refine LeO.bind ?_ (fun _ => ?_)
def madrigalref6_poly.T7 : Bool × List (List Nat × List Nat):=(true,[([],[]),([],[]),([1],[1]),([],[]),([],[]),([4],[4]),([3,5],[3,5]),([6],[6]),([7],[7]),([],[]),([],[]),([9,10],[9,10]),([11],[11]),([],[]),([],[]),([13,14],[13,14]),([15],[15]),([12,16],[12,16]),([8,17],[8,17]),([0,2,0,1,2,3,4,5,6,7,8,9,10,11,12,13,14,15,16,17,18],[0,2]),([19,18,17,0,1,2,3,4,5,6,7,8,9,10,11,12,13,14,15,16,17,18],[18,19])])
def madrigalref6_poly.B7 : List Nat:=[0,0,2,0,0,16,56,120,248,0,0,1536,3584,0,0,24576,57344,130560,262136,524287,1048575]
theorem madrigalref6_poly.tab7 : rtab .any (opsOf Try.f51 7) = madrigalref6_poly.T7:=by kernel_rfl
theorem madrigalref6_poly.bits7 : waitsOk madrigalref6_poly.T7.2 madrigalref6_poly.B7 = true:=by kernel_rfl
def madrigalref6_poly.T11 : Bool × List (List Nat × List Nat):=(true,[([],[]),([],[]),([],[]),([],[]),([2,3],[2,3]),([4],[4]),([],[]),([],[]),([7],[7]),([6,8],[6,8]),([9],[9]),([5,10],[5,10]),([],[]),([],[]),([12,13],[12,13]),([14],[14]),([],[]),([],[]),([17],[17]),([16,18],[16,18]),([19],[19]),([15,20],[15,20]),([11,21],[11,21]),([0,1,0,1,2,3,4,5,6,7,8,9,10,11,12,13,14,15,16,17,18,19,20,21,22],[0,1]),([23,22,21,0,1,2,3,4,5,6,7,8,9,10,11,12,13,14,15,16,17,18,19,20,21,22],[22,23])])
def madrigalref6_poly.B11 : List Nat:=[0,0,0,0,12,28,0,0,128,448,960,2044,0,0,12288,28672,0,0,131072,458752,983040,2093056,4194300,8388607,16777215]
theorem madrigalref6_poly.tab11 : rtab .any (opsOf Try.f51 11) = madrigalref6_poly.T11:=by kernel_rfl
theorem madrigalref6_poly.bits11 : waitsOk madrigalref6_poly.T11.2 madrigalref6_poly.B11 = true:=by kernel_rfl
def madrigalref6_poly.T12 : Bool × List (List Nat × List Nat):=(true,[([],[]),([],[]),([1],[1]),([2],[2]),([],[]),([],[]),([4,5],[4,5]),([6],[6]),([3,7],[3,7]),([0,0,1,2,3,4,5,6,7,8],[0]),([9,8,0,1,2,3,4,5,6,7,8],[8,9])])
def madrigalref6_poly.B12 : List Nat:=[0,0,2,6,0,0,48,112,254,511,1023]
theorem madrigalref6_poly.tab12 : rtab .any (opsOf Try.f51 12) = madrigalref6_poly.T12:=by kernel_rfl
theorem madrigalref6_poly.bits12 : waitsOk madrigalref6_poly.T12.2 madrigalref6_poly.B12 = true:=by kernel_rfl
set_option maxHeartbeats 8000000 in
set_option maxRecDepth 100000 in
theorem madrigalref6_poly.calls (k : Nat) (A0 : Option Addr) (c0 : Nat) (l0 : List Int) (r : List Int) (w : World) (hr0 : Kd.C (Kd.int .i64) w A0 l0.length l0) (hc0 : l0.length ≤ c0) (h : madrigalref6_poly.f k l0 = some r) :
  Calls Try.prog 51 #[.slice A0 l0.length c0] w fun e w' => ∃ v0_ : Value,e = .returned (v0_) ∧ Kd.R (Kd.int .i64) 2 w' w.heap.size (fun _ => True) v0_ r ∧ Below w.heap.size w w':=by
 have HR0:=ak_ hr0
 have HC0:=ak_ hc0
 clear hr0 hc0
 have HB:=ak_ (Below.refl w.heap.size w)
 have H : (if 0 ≤ (wrap64 ((l0.length : Int) + 1)) then (if (wrap64 ((l0.length : Int) + 1) : Int).toNat ≤ 35184372088832 then ((some (List.replicate (wrap64 ((l0.length : Int) + 1) : Int).toNat 0 : List Int)).bind fun y618 => (if 0 < (y618.length : Int) then (if 0 < (l0.length : Int) then (if 1 < (y618.length : Int) then (madrigalref6_poly.l0 k l0 ((y618.set (0 : Int).toNat 65536).set (1 : Int).toNat (wrap64 (-(rd l0 0)))) 1) else (none)) else (none)) else (none))) else (none)) else (none)) = some r:=h
 clear h
 obtain ⟨ji2,hji2⟩ : ∃ j_ : Int,(wrap64 ((l0.length : Int) + 1)) = j_:=⟨_,rfl⟩
 replace H : (if 0 ≤ (ji2) then (if (ji2 : Int).toNat ≤ 35184372088832 then ((some (List.replicate (ji2 : Int).toNat 0 : List Int)).bind fun y618 => (if 0 < (y618.length : Int) then (if 0 < (l0.length : Int) then (if 1 < (y618.length : Int) then (madrigalref6_poly.l0 k l0 ((y618.set (0 : Int).toNat 65536).set (1 : Int).toNat (wrap64 (-(rd l0 0)))) 1) else (none)) else (none)) else (none))) else (none)) else (none)) = some r:=by first|(rw [hji2] at H;exact H)|(simp only [hji2] at H ⊢;exact H)
 have hji2w : (IntKind.i64.wrap ((l0.length : Int) + 1)) = ji2:=(i64_w _).trans hji2
 by_cases c3 : 0 ≤ (ji2)
 ·rw [if_pos c3] at H
  have c3b0:=eq_true c3
  have c3b1 : decide (0 ≤ (ji2)) = true:=decide_eq_true c3
  clear c3
  by_cases c4 : (ji2 : Int).toNat ≤ 35184372088832
  ·rw [if_pos c4] at H
   have c4b0:=eq_true c4
   have c4b1 : decide ((ji2 : Int).toNat ≤ 35184372088832) = true:=decide_eq_true c4
   clear c4
   obtain ⟨y618,hy618⟩ : ∃ y_ : List Int,y_ = (List.replicate (ji2 : Int).toNat 0):=⟨_,rfl⟩
   replace H : (if 0 < (y618.length : Int) then (if 0 < (l0.length : Int) then (if 1 < (y618.length : Int) then (madrigalref6_poly.l0 k l0 ((y618.set (0 : Int).toNat 65536).set (1 : Int).toNat (wrap64 (-(rd l0 0)))) 1) else (none)) else (none)) else (none)) = some r:=by first|(rw [hy618];with_reducible exact H)|(have H2_:=(Option.bind_some _ _).symm.trans H;rw [hy618];with_reducible exact H2_)|(have H2_:=(Option.bind_some _ _).symm.trans H;with_reducible exact H2_)|with_reducible exact H|(rw [hy618];exact H)|exact H
   have Ny618:=ak_ hy618
   clear hy618
   by_cases c5 : 0 < (y618.length : Int)
   ·rw [if_pos c5] at H
    have c5b0:=decide_eq_true c5
    have c5b1 : decide (0 < y618.length) = true:=decide_eq_true (by omega)
    clear c5
    obtain ⟨y621,hy621⟩ : ∃ y_ : List Int,y_ = (y618.set (0 : Int).toNat 65536):=⟨_,rfl⟩
    replace H : (if 0 < (l0.length : Int) then (if 1 < (y618.length : Int) then (madrigalref6_poly.l0 k l0 (y621.set (1 : Int).toNat (wrap64 (-(rd l0 0)))) 1) else (none)) else (none)) = some r:=by first|(rw [hy621];with_reducible exact H)|(have H2_:=(Option.bind_some _ _).symm.trans H;rw [hy621];with_reducible exact H2_)|(have H2_:=(Option.bind_some _ _).symm.trans H;with_reducible exact H2_)|with_reducible exact H|(rw [hy621];exact H)|exact H
    have Ny621:=ak_ hy621
    clear hy621
    by_cases c7 : 0 < (l0.length : Int)
    ·rw [if_pos c7] at H
     have c7b0:=decide_eq_true c7
     have c7b1 : decide (0 < l0.length) = true:=decide_eq_true (by omega)
     clear c7
     by_cases c8 : 1 < (y618.length : Int)
     ·rw [if_pos c8] at H
      have c8b0:=decide_eq_true c8
      have c8b1 : decide (1 < y618.length) = true:=decide_eq_true (by omega)
      clear c8
      obtain ⟨y623,hy623⟩ : ∃ y_ : List Int,y_ = (y621.set (1 : Int).toNat (wrap64 (-(rd l0 0)))):=⟨_,rfl⟩
      replace H : (madrigalref6_poly.l0 k l0 y623 1) = some r:=by first|(rw [hy623];with_reducible exact H)|(have H2_:=(Option.bind_some _ _).symm.trans H;rw [hy623];with_reducible exact H2_)|(have H2_:=(Option.bind_some _ _).symm.trans H;with_reducible exact H2_)|with_reducible exact H|(rw [hy623];exact H)|exact H
      have Ny623:=ak_ hy623
      clear hy623
      have H':=ak_ H
      clear H
      go_enter Try.func51,Try.ntmps51
      go_wp2_with (first|((with_reducible refine gate_dst (N:=9) rfl ?_);refine Kd.R_make (Kd.int .i64) _ 2 rfl (N:=9) rfl 23 _ _ rfl ji2 rfl rfl Try.underlying23 (.int .i64 0) 8 info2 rfl (by decide) (by omega) 0 (ok:=fun _ => True) (okp:=fun _ => True) rfl (fun _ hk => hk) trivial (of_decide_eq_true (by first|(with_reducible assumption)|assumption)) (Nat.le_trans (Nat.mul_le_mul_right _ (of_decide_eq_true (by first|(with_reducible assumption)|assumption) : ji2.toNat ≤ 35184372088832)) (by omega)) (Below.refl _ _) (Nat.le_refl _) ?_;intro v619 w10 ho11 hb hg_ hnew_;clear hg_ hnew_;(first|rw [← Ny618.out] at ho11|(simp only [Int.reduceToNat] at ho11;rw [← Ny618.out] at ho11));have n0_:=ak_ (Kd.R_lower ho11 (below_size (by repeat (first|(with_reducible first|exact HB.out|apply ba_|apply bb_|apply bc_)|exact HB.out))));have n1_:=ak_ (below_step (by repeat (first|(with_reducible first|exact HB.out|apply ba_|apply bb_|apply bc_)|exact HB.out)) hb);clear HB;have HO620:=n0_;have HB:=n1_;clear n0_ n1_;clear hb ho11;have p6 : 0 ≤ (0 : Int):=(by omega);have q6 : (0 : Int) < ((y618.length : Int) : Int):=of_decide_eq_true (by first|(with_reducible assumption)|assumption);have qi6 : (0 < y618.length) = True:=eq_true (by omega);obtain ⟨go6,co6,eo6,gb6,gl6,cl6,HG6⟩:=Kd.R_form HO620.out (by omega);(first|cases eo6|(injection eo6 with ea_ en_ ec_;(first|subst ea_|(injection ea_ with ea_;subst ea_));subst ec_;clear en_));have GB6:=ak_ gb6;have GG6:=ak_ HG6;clear gb6 gl6 HG6;obtain ⟨hx6_0,hf6_0⟩:=Kd.R_celln 0 HO620.out (0 : Int) p6 q6;(try rw [show ((0 : Int)).toNat = 0 from rfl] at hx6_0);(try simp only [Nat.reduceMul,Nat.zero_mul,Nat.zero_add,Nat.reduceAdd] at hx6_0);(try rw [show ((0 : Int)).toNat = 0 from rfl] at hf6_0);(try simp only [Nat.reduceMul,Nat.zero_mul,Nat.zero_add,Nat.reduceAdd] at hf6_0);replace p6:=eq_true p6;replace q6:=eq_true q6;obtain ⟨hy12_,hz12_⟩:=Kd.R_celln 0 HO620.out (0 : Int) (by omega) (of_decide_eq_true (by first|(with_reducible assumption)|assumption));(try simp only [Int.reduceToNat,Int.toNat_zero,Int.toNat_ofNat,Nat.reduceMul,Nat.zero_mul,Nat.zero_add] at hy12_ hz12_);(try rw [show ((0 : Int)).toNat = 0 from rfl] at hy12_);(try rw [show ((0 : Int)).toNat = 0 from rfl] at hz12_);have HP12:=Kd.R_putg HO620.out (0 : Int) 65536)|((with_reducible refine gate_store (t:=2) (p:=11) rfl ?_);refine store_event (t:=2) (p:=11) (v:=?vo_w13) (w1:=(w10.setCell ⟨go6,(0 : Int).toNat,none⟩ (.int .i64 65536))) ?hg ?ho ?hn ?hr ?_;(case ho => rfl);(case hg => rfl);(case hn => rfl);(case hr => first|(go_simp;done)|(go_simp;rfl));intro w13 hw;have hg : w10.grownBy w13 (some go6):=(by rw [hw];exact HP12.2);have hp_ : Kd.R (Kd.int .i64) 2 w13 w.heap.size (fun _ => True) (.slice (some ⟨go6,0,none⟩) y618.length co6) y621:=(by rw [hw,Ny621.out];exact HP12.1);clear HP12;have n0_:=ak_ (hp_);have n1_:=ak_ ((by rw [hw];exact below_set (HB.out) GB6.out : Below w.heap.size w w13));clear HO620;clear HB;have HO620:=n0_;have HB:=n1_;clear n0_ n1_;clear hg hw hp_;have p622 : 0 ≤ (0 : Int):=(by omega);have q622 : 0 < (l0.length : Int):=of_decide_eq_true (by first|(with_reducible assumption)|assumption);obtain ⟨ad622,e622,hx622_0⟩:=Kd.at_int HR0.out 0 p622 q622;cases e622;have qi622 : (0 < l0.length) = True:=eq_true (by omega);(try rw [show ((0 : Int)).toNat = 0 from rfl] at hx622_0);(try rw [Addr.add_zero'] at hx622_0);replace hx622_0:=(HB.out.cell (World.block_lt_of_cell? w _ hx622_0)).trans hx622_0;replace p622:=eq_true p622;replace q622:=eq_true q622;have p9 : 0 ≤ (1 : Int):=(by omega);have q9 : (1 : Int) < ((y618.length : Int) : Int):=of_decide_eq_true (by first|(with_reducible assumption)|assumption);have qi9 : (1 < y618.length) = True:=eq_true (by omega);obtain ⟨hx9_0,hf9_0⟩:=Kd.R_celln 0 HO620.out (1 : Int) p9 q9;(try rw [show ((1 : Int)).toNat = 1 from rfl] at hx9_0);(try simp only [Nat.reduceMul,Nat.zero_mul,Nat.zero_add,Nat.reduceAdd] at hx9_0);(try rw [show ((1 : Int)).toNat = 1 from rfl] at hf9_0);(try simp only [Nat.reduceMul,Nat.zero_mul,Nat.zero_add,Nat.reduceAdd] at hf9_0);replace p9:=eq_true p9;replace q9:=eq_true q9;obtain ⟨hy14_,hz14_⟩:=Kd.R_celln 0 HO620.out (1 : Int) (by omega) (of_decide_eq_true (by first|(with_reducible assumption)|assumption));(try simp only [Int.reduceToNat,Int.toNat_zero,Int.toNat_ofNat,Nat.reduceMul,Nat.zero_mul,Nat.zero_add] at hy14_ hz14_);(try rw [show ((1 : Int)).toNat = 1 from rfl] at hy14_);(try rw [show ((1 : Int)).toNat = 1 from rfl] at hz14_);have HP14:=Kd.R_putg HO620.out (1 : Int) (wrap64 (-(rd l0 0))))|((with_reducible refine gate_store (t:=2) (p:=17) rfl ?_);refine store_event (t:=2) (p:=17) (v:=?vo_w15) (w1:=(w13.setCell ⟨go6,(1 : Int).toNat,none⟩ (.int .i64 (wrap64 (-(rd l0 0)))))) ?hg ?ho ?hn ?hr ?_;(case ho => rfl);(case hg => rfl);(case hn => rfl);(case hr => first|(go_simp;done)|(go_simp;rfl));intro w15 hw;have hg : w13.grownBy w15 (some go6):=(by rw [hw];exact HP14.2);have hp_ : Kd.R (Kd.int .i64) 2 w15 w.heap.size (fun _ => True) (.slice (some ⟨go6,0,none⟩) y618.length co6) y623:=(by rw [hw,Ny623.out];exact HP14.1);clear HP14;have n0_:=ak_ (hp_);have n1_:=ak_ ((by rw [hw];exact below_set (HB.out) GB6.out : Below w.heap.size w w15));clear HO620;clear HB;have HO620:=n0_;have HB:=n1_;clear n0_ n1_;clear hg hw hp_))
      go_loopg [4] k (fun kq v4 w' => ∃ (x3_1 : List Int) (x4_1 : Int),v4 = .int .i64 x4_1 ∧ Aside0 (madrigalref6_poly.l0 kq l0 x3_1 x4_1 = some r) ∧ Aside0 (kq ≤ k) ∧ Aside0 (Kd.R (Kd.int .i64) 2 w' w.heap.size (fun _ => True) (.slice (some ⟨go6,0,none⟩) y618.length co6) x3_1) ∧ Aside0 (Below w.heap.size w w'))
      case atStart => exact ⟨(y623),(1),(by first|rfl|(simp;done)|(simp [*];done)),H',⟨Nat.le_refl _⟩,⟨by (with_reducible repeat (first|apply ra_|apply rb_|apply rc_));exact HO620.out⟩,⟨by repeat (first|(with_reducible first|exact HB.out|apply ba_|apply bb_|apply bc_)|exact HB.out)⟩⟩
      case round => as_aux_lemma =>
       clear H'
       try clear p2
       try clear c3
       try clear c3b0
       try clear c3b1
       try clear c4
       try clear c4b0
       try clear c4b1
       try clear c5
       try clear c5b0
       try clear c5b1
       try clear p6
       try clear q6
       try clear hx6
       try clear qi6
       try clear hf6
       try clear c7
       try clear c7b0
       try clear c7b1
       try clear c8
       try clear c8b0
       try clear c8b1
       try clear p9
       try clear q9
       try clear hx9
       try clear qi9
       try clear hf9
       try clear hx622_0
       try clear hx6_0
       try clear hx9_0
       try clear p6
       try clear p622
       try clear p9
       try clear q6
       try clear q622
       try clear q9
       obtain ⟨x3_1,x4_1,rfl,HA,HK1,HO_3,HB⟩:=hrel
       (try simp only [i64_w,i32_w])
       have hl3_1:=(Kd.R_reads' HO_3.out).1
       rw [hl3_1] at HO_3
       (try simp only [hl3_1])
       cases gk with
       | zero => exact absurd HA.out (by simp [madrigalref6_poly.l0])
       | succ k1 =>
        have H:=HA.out
        clear HA
        simp only [madrigalref6_poly.l0] at H
        by_cases c16 : x4_1 < (l0.length : Int)
        ·rw [if_pos c16] at H
         have c16b0:=decide_eq_true c16
         (try (have c16h0:=c16b0;simp only [hl3_1] at c16h0))
         clear c16
         obtain ⟨ji17,hji17⟩ : ∃ j_ : Int,(wrap64 (x4_1 - 1)) = j_:=⟨_,rfl⟩
         replace H : (if 0 ≤ (ji17) then (if (ji17) < (x3_1.length : Int) then (if 0 ≤ x4_1 then (if x4_1 < (x3_1.length : Int) then ((madrigalref1_Mul.f k1 (rd l0 x4_1) (rd x3_1 x4_1) 16).bind fun t627 => (if 0 ≤ (wrap64 (x4_1 + 1)) then (if (wrap64 (x4_1 + 1)) < (x3_1.length : Int) then (madrigalref6_poly.l1 k1 l0 (x3_1.set ((wrap64 (x4_1 + 1)) : Int).toNat (wrap64 ((wrap64 (2 * (rd x3_1 (ji17)))) - t627))) x4_1 x4_1) else (none)) else (none))) else (none)) else (none)) else (none)) else (none)) = some r:=by first|(rw [hji17] at H;exact H)|(simp only [hji17] at H ⊢;exact H)
         have hji17w : (IntKind.i64.wrap (x4_1 - 1)) = ji17:=(i64_w _).trans hji17
         by_cases c18 : 0 ≤ (ji17)
         ·rw [if_pos c18] at H
          have c18b0:=decide_eq_true c18
          (try (have c18h0:=c18b0;simp only [hl3_1] at c18h0))
          clear c18
          by_cases c19 : (ji17) < (x3_1.length : Int)
          ·rw [if_pos c19] at H
           have c19b0:=decide_eq_true c19
           (try (have c19h0:=c19b0;simp only [hl3_1] at c19h0))
           clear c19
           by_cases c20 : 0 ≤ x4_1
           ·rw [if_pos c20] at H
            have c20b0:=decide_eq_true c20
            (try (have c20h0:=c20b0;simp only [hl3_1] at c20h0))
            clear c20
            by_cases c21 : x4_1 < (x3_1.length : Int)
            ·rw [if_pos c21] at H
             have c21b0:=decide_eq_true c21
             (try (have c21h0:=c21b0;simp only [hl3_1] at c21h0))
             clear c21
             replace H:=Option.bind_eq_some_iff.mp H
             obtain ⟨t627,A220,H⟩:=H
             (try dsimp only at H)
             have A22:=ak_ A220
             clear A220
             obtain ⟨ji23,hji23⟩ : ∃ j_ : Int,(wrap64 (x4_1 + 1)) = j_:=⟨_,rfl⟩
             replace H : (if 0 ≤ (ji23) then (if (ji23) < (x3_1.length : Int) then (madrigalref6_poly.l1 k1 l0 (x3_1.set ((ji23) : Int).toNat (wrap64 ((wrap64 (2 * (rd x3_1 (ji17)))) - t627))) x4_1 x4_1) else (none)) else (none)) = some r:=by first|(rw [hji23] at H;exact H)|(simp only [hji23] at H ⊢;exact H)
             (try rw [hji23] at A22)
             have hji23w : (IntKind.i64.wrap (x4_1 + 1)) = ji23:=(i64_w _).trans hji23
             by_cases c24 : 0 ≤ (ji23)
             ·rw [if_pos c24] at H
              have c24b0:=decide_eq_true c24
              (try (have c24h0:=c24b0;simp only [hl3_1] at c24h0))
              clear c24
              by_cases c25 : (ji23) < (x3_1.length : Int)
              ·rw [if_pos c25] at H
               have c25b0:=decide_eq_true c25
               (try (have c25h0:=c25b0;simp only [hl3_1] at c25h0))
               clear c25
               obtain ⟨y628,hy628⟩ : ∃ y_ : List Int,y_ = (x3_1.set ((ji23) : Int).toNat (wrap64 ((wrap64 (2 * (rd x3_1 (ji17)))) - t627))):=⟨_,rfl⟩
               replace H : (madrigalref6_poly.l1 k1 l0 y628 x4_1 x4_1) = some r:=by first|(rw [hy628];with_reducible exact H)|(have H2_:=(Option.bind_some _ _).symm.trans H;rw [hy628];with_reducible exact H2_)|(have H2_:=(Option.bind_some _ _).symm.trans H;with_reducible exact H2_)|with_reducible exact H|(rw [hy628];exact H)|exact H
               have Ny628:=ak_ hy628
               clear hy628
               have H':=ak_ H
               clear H
               try go_wp2
               have n0_:=ak_ (Kd.R_drew HO_3.out)
               have n1_:=ak_ (below_drew1 HB.out)
               clear HO_3
               clear HB
               have HO_3:=n0_
               have HB:=n1_
               clear n0_ n1_
               have p624 : 0 ≤ ((ji17) : Int):=of_decide_eq_true (by first|(with_reducible assumption)|assumption)
               have q624 : (ji17) < (x3_1.length : Int):=of_decide_eq_true (by first|(with_reducible assumption)|assumption)
               obtain ⟨ad624,e624,hx624_0⟩:=Kd.at_int (Kd.R_reads' HO_3.out).2.2 (ji17) p624 q624
               obtain rfl : (⟨go6,0,none⟩ : Addr) = ad624:=(by injection e624)
               (first|simp only [add_plain] at hx624_0|simp only [add_at] at hx624_0|simp only [Addr.add,Nat.zero_add] at hx624_0|skip)
               replace p624:=eq_true p624
               replace q624:=eq_true q624
               have p625 : 0 ≤ (x4_1 : Int):=of_decide_eq_true (by first|(with_reducible assumption)|assumption)
               have q625 : x4_1 < (l0.length : Int):=of_decide_eq_true (by first|(with_reducible assumption)|assumption)
               obtain ⟨ad625,e625,hx625_0⟩:=Kd.at_int HR0.out x4_1 p625 q625
               have hw625_0:=hx625_0
               obtain rfl : ad622 = ad625:=(by injection e625)
               replace hx625_0:=(HB.out.cell (World.block_lt_of_cell? w _ hx625_0)).trans hx625_0
               replace p625:=eq_true p625
               replace q625:=eq_true q625
               have p626 : 0 ≤ (x4_1 : Int):=of_decide_eq_true (by first|(with_reducible assumption)|assumption)
               have q626 : x4_1 < (x3_1.length : Int):=of_decide_eq_true (by first|(with_reducible assumption)|assumption)
               obtain ⟨ad626,e626,hx626_0⟩:=Kd.at_int (Kd.R_reads' HO_3.out).2.2 x4_1 p626 q626
               obtain rfl : (⟨go6,0,none⟩ : Addr) = ad626:=(by injection e626)
               (first|simp only [add_plain] at hx626_0|simp only [add_at] at hx626_0|simp only [Addr.add,Nat.zero_add] at hx626_0|skip)
               replace p626:=eq_true p626
               replace q626:=eq_true q626
               refine start_ (n:=21) (S:=fun w' => w'.cell? ⟨go6,((ji17)).toNat,none⟩ = some (.int .i64 (rd x3_1 (ji17))) ∧ w'.cell? (ad622.add (x4_1).toNat) = some (.int .i64 (rd l0 x4_1)) ∧ w'.cell? ⟨go6,(x4_1).toNat,none⟩ = some (.int .i64 (rd x3_1 x4_1))) (ds:=[20]) #[false,false,false,false,false,false,false,false,false,false,false,false,false,false,false,false,false,false,false,false,false] (by kernel_rfl) rfl rfl ⟨hx624_0,((HB.out.cell (World.block_lt_of_cell? w _ hw625_0)).trans hw625_0),hx626_0⟩ (fun hHeld => ?_);refine with_tabW madrigalref6_poly.tab7 madrigalref6_poly.bits7 (fun HT_ HW_ => ?_)
               generalize wr.drew = w27 at HO_3 HB hx624_0 hx625_0 hx626_0 hHeld ⊢
               refine pure_ (i:=0) (N:=some 24) (v:=?_) (a':=?_) #[true,false,false,false,false,false,false,false,false,false,false,false,false,false,false,false,false,false,false,false,false] rfl rfl (any_of HT_.out (by kernel_rfl)) (fun _ _ _ h => h) (Or.inl ⟨by rfl,?_⟩) ?_ ?_
               rotate_left
               ·intro w'
                go_simp
                with_reducible rfl
               rotate_left
               ·simp only [Act.put,List.setIfInBounds_toArray,List.set_cons_zero,List.set_cons_succ,i64_w,i32_w]
                rfl
               refine pure_ (i:=1) (N:=some 25) (v:=?_) (a':=?_) #[true,true,false,false,false,false,false,false,false,false,false,false,false,false,false,false,false,false,false,false,false] rfl rfl (any_of HT_.out (by kernel_rfl)) (fun _ _ _ h => h) (Or.inl ⟨by rfl,?_⟩) ?_ ?_
               rotate_left
               ·intro w'
                go_simp
                with_reducible rfl
               rotate_left
               ·simp only [Act.put,List.setIfInBounds_toArray,List.set_cons_zero,List.set_cons_succ,i64_w,i32_w]
                rfl
               refine pure_ (i:=2) (N:=some 26) (v:=?_) (a':=?_) #[true,true,true,false,false,false,false,false,false,false,false,false,false,false,false,false,false,false,false,false,false] rfl rfl (any_of HT_.out (by kernel_rfl)) (fun _ _ _ h => h) (Or.inl ⟨by rfl,?_⟩) ?_ ?_
               rotate_left
               ·intro w'
                go_simp
                with_reducible rfl
               rotate_left
               ·simp only [Act.put,List.setIfInBounds_toArray,List.set_cons_zero,List.set_cons_succ,i64_w,i32_w]
                rfl
               refine pure_ (i:=3) (N:=some 27) (v:=?_) (a':=?_) #[true,true,true,true,false,false,false,false,false,false,false,false,false,false,false,false,false,false,false,false,false] rfl rfl (any_of HT_.out (by kernel_rfl)) (fun _ _ _ h => h) (Or.inl ⟨by rfl,?_⟩) ?_ ?_
               rotate_left
               ·intro w'
                go_simp
                with_reducible rfl
               rotate_left
               ·simp only [Act.put,List.setIfInBounds_toArray,List.set_cons_zero,List.set_cons_succ,i64_w,i32_w]
                rfl
               refine pure_ (i:=4) (N:=some 28) (v:=?_) (a':=?_) #[true,true,true,true,true,false,false,false,false,false,false,false,false,false,false,false,false,false,false,false,false] rfl rfl (any_of HT_.out (by kernel_rfl)) (fun _ _ _ h => h) (Or.inl ⟨by rfl,?_⟩) ?_ ?_
               rotate_left
               ·intro w'
                go_simp
                with_reducible rfl
               rotate_left
               ·simp only [Act.put,List.setIfInBounds_toArray,List.set_cons_zero,List.set_cons_succ,i64_w,i32_w]
                rfl
               refine pure_ (i:=5) (N:=some 29) (v:=?_) (a':=?_) #[true,true,true,true,true,true,false,false,false,false,false,false,false,false,false,false,false,false,false,false,false] rfl rfl (any_of HT_.out (by kernel_rfl)) (fun _ _ _ h => h) (Or.inl ⟨by rfl,?_⟩) ?_ ?_
               rotate_left
               ·intro w'
                go_simp
                with_reducible rfl
               rotate_left
               ·simp only [Act.put,List.setIfInBounds_toArray,List.set_cons_zero,List.set_cons_succ,i64_w,i32_w]
                rfl
               refine pure_ (i:=6) (N:=some 30) (v:=?_) (a':=?_) #[true,true,true,true,true,true,true,false,false,false,false,false,false,false,false,false,false,false,false,false,false] rfl rfl (any_of HT_.out (by kernel_rfl)) (fun _ _ _ h => h) (Or.inl ⟨by rfl,?_⟩) ?_ ?_
               rotate_left
               ·intro w'
                go_simp
                with_reducible rfl
               rotate_left
               ·simp only [Act.put,List.setIfInBounds_toArray,List.set_cons_zero,List.set_cons_succ,i64_w,i32_w]
                rfl
               refine pure_ (i:=9) (N:=some 33) (v:=?_) (a':=?_) #[true,true,true,true,true,true,true,false,false,true,false,false,false,false,false,false,false,false,false,false,false] rfl rfl (any_of HT_.out (by kernel_rfl)) (fun _ _ _ h => h) (Or.inl ⟨by rfl,?_⟩) ?_ ?_
               rotate_left
               ·intro w'
                go_simp
                with_reducible rfl
               rotate_left
               ·simp only [Act.put,List.setIfInBounds_toArray,List.set_cons_zero,List.set_cons_succ,i64_w,i32_w]
                rfl
               refine pure_ (i:=10) (N:=some 34) (v:=?_) (a':=?_) #[true,true,true,true,true,true,true,false,false,true,true,false,false,false,false,false,false,false,false,false,false] rfl rfl (any_of HT_.out (by kernel_rfl)) (fun _ _ _ h => h) (Or.inl ⟨by rfl,?_⟩) ?_ ?_
               rotate_left
               ·intro w'
                go_simp
                with_reducible rfl
               rotate_left
               ·simp only [Act.put,List.setIfInBounds_toArray,List.set_cons_zero,List.set_cons_succ,i64_w,i32_w]
                rfl
               refine pure_ (i:=11) (N:=some 35) (v:=?_) (a':=?_) #[true,true,true,true,true,true,true,false,false,true,true,true,false,false,false,false,false,false,false,false,false] rfl rfl (any_of HT_.out (by kernel_rfl)) (fun _ _ _ h => h) (Or.inl ⟨by rfl,?_⟩) ?_ ?_
               rotate_left
               ·intro w'
                go_simp
                with_reducible rfl
               rotate_left
               ·simp only [Act.put,List.setIfInBounds_toArray,List.set_cons_zero,List.set_cons_succ,i64_w,i32_w]
                rfl
               refine pure_ (i:=13) (N:=some 37) (v:=?_) (a':=?_) #[true,true,true,true,true,true,true,false,false,true,true,true,false,true,false,false,false,false,false,false,false] rfl rfl (any_of HT_.out (by kernel_rfl)) (fun _ _ _ h => h) (Or.inl ⟨by rfl,?_⟩) ?_ ?_
               rotate_left
               ·intro w'
                go_simp
                with_reducible rfl
               rotate_left
               ·simp only [Act.put,List.setIfInBounds_toArray,List.set_cons_zero,List.set_cons_succ,i64_w,i32_w]
                rfl
               refine pure_ (i:=14) (N:=some 38) (v:=?_) (a':=?_) #[true,true,true,true,true,true,true,false,false,true,true,true,false,true,true,false,false,false,false,false,false] rfl rfl (any_of HT_.out (by kernel_rfl)) (fun _ _ _ h => h) (Or.inl ⟨by rfl,?_⟩) ?_ ?_
               rotate_left
               ·intro w'
                go_simp
                with_reducible rfl
               rotate_left
               ·simp only [Act.put,List.setIfInBounds_toArray,List.set_cons_zero,List.set_cons_succ,i64_w,i32_w]
                rfl
               refine pure_ (i:=15) (N:=some 39) (v:=?_) (a':=?_) #[true,true,true,true,true,true,true,false,false,true,true,true,false,true,true,true,false,false,false,false,false] rfl rfl (any_of HT_.out (by kernel_rfl)) (fun _ _ _ h => h) (Or.inl ⟨by rfl,?_⟩) ?_ ?_
               rotate_left
               ·intro w'
                go_simp
                with_reducible rfl
               rotate_left
               ·simp only [Act.put,List.setIfInBounds_toArray,List.set_cons_zero,List.set_cons_succ,i64_w,i32_w]
                rfl
               refine take_ (i:=7) (N:=some 31) (v:=?_) (a':=?_) #[true,true,true,true,true,true,true,true,false,true,true,true,false,true,true,true,false,false,false,false,false] rfl rfl (take_ofW HT_.out HW_.out (by kernel_rfl)) (fun _ _ _ h => h) (Or.inl ⟨by rfl,?_⟩) hHeld ?_ ?_
               rotate_left
               ·rintro w' ⟨s0,s1,s2⟩
                go_simp
                with_reducible rfl
               rotate_left
               ·simp only [Act.put,List.setIfInBounds_toArray,List.set_cons_zero,List.set_cons_succ,i64_w,i32_w]
                rfl
               refine pure_ (i:=8) (N:=some 32) (v:=?_) (a':=?_) #[true,true,true,true,true,true,true,true,true,true,true,true,false,true,true,true,false,false,false,false,false] rfl rfl (any_of HT_.out (by kernel_rfl)) (fun _ _ _ h => h) (Or.inl ⟨by rfl,?_⟩) ?_ ?_
               rotate_left
               ·intro w'
                go_simp
                with_reducible rfl
               rotate_left
               ·simp only [Act.put,List.setIfInBounds_toArray,List.set_cons_zero,List.set_cons_succ,i64_w,i32_w]
                rfl
               refine take_ (i:=12) (N:=some 36) (v:=?_) (a':=?_) #[true,true,true,true,true,true,true,true,true,true,true,true,true,true,true,true,false,false,false,false,false] rfl rfl (take_ofW HT_.out HW_.out (by kernel_rfl)) (fun _ _ _ h => h) (Or.inl ⟨by rfl,?_⟩) hHeld ?_ ?_
               rotate_left
               ·rintro w' ⟨s0,s1,s2⟩
                go_simp
                with_reducible rfl
               rotate_left
               ·simp only [Act.put,List.setIfInBounds_toArray,List.set_cons_zero,List.set_cons_succ,i64_w,i32_w]
                rfl
               refine take_ (i:=16) (N:=some 40) (v:=?_) (a':=?_) #[true,true,true,true,true,true,true,true,true,true,true,true,true,true,true,true,true,false,false,false,false] rfl rfl (take_ofW HT_.out HW_.out (by kernel_rfl)) (fun _ _ _ h => h) (Or.inl ⟨by rfl,?_⟩) hHeld ?_ ?_
               rotate_left
               ·rintro w' ⟨s0,s1,s2⟩
                go_simp
                with_reducible rfl
               rotate_left
               ·simp only [Act.put,List.setIfInBounds_toArray,List.set_cons_zero,List.set_cons_succ,i64_w,i32_w]
                rfl
               refine one_ (i:=17) (N:=some 41) #[true,true,true,true,true,true,true,true,true,true,true,true,true,true,true,true,true,true,false,false,false] rfl rfl (one_of HT_.out (by kernel_rfl)) (by decide) (fun K hK => ?_)
               refine goes_ Try.func34 (by kernel_rfl) rfl #[.int .i64 (rd l0 x4_1),.int .i64 (rd x3_1 x4_1),.int .i64 16] (by rfl) rfl rfl (by (try simp only [List.map_toArray,List.map_cons,List.map_nil]);first|done|rfl|(simp only [List.length_drop,List.length_take];rfl)) ?_
               with_reducible refine (madrigalref1_Mul.calls k1 (rd l0 x4_1) (rd x3_1 x4_1) 16 t627 _ A22.out).mono ?_
               rintro e w' ⟨rfl,⟨nd,rfl⟩⟩
               refine ⟨_,rfl,?_⟩
               have p26 : 0 ≤ ((ji23) : Int):=of_decide_eq_true (by first|(with_reducible assumption)|assumption)
               have q26 : ((ji23) : Int) < ((x3_1.length : Int) : Int):=of_decide_eq_true (by first|(with_reducible assumption)|assumption)
               obtain ⟨hx26_0,hf26_0⟩:=Kd.R_celln 0 HO_3.out ((ji23) : Int) p26 q26
               replace p26:=eq_true p26
               replace q26:=eq_true q26
               have HP28:=Kd.R_putn HO_3.out ((ji23) : Int) (wrap64 ((wrap64 (2 * (rd x3_1 (ji17)))) - t627))
               rw [← Ny628.out] at HP28
               have HQ28:=ak_ HP28
               clear HP28
               refine hK.out _ _ ⟨hHeld.1,((HB.out.cell (World.block_lt_of_cell? w _ hw625_0)).trans hw625_0),hHeld.2.2⟩ (fun hHeld => ?_)
               clear hK K
               refine norm_ (a':=?_) ?_ ?_
               rotate_left
               ·show Act.put _ (some 41) _ = _
                simp only [Act.put,List.setIfInBounds_toArray,List.set_cons_zero,List.set_cons_succ,i64_w,i32_w]
                rfl
               refine pure_ (i:=18) (N:=some 42) (v:=?_) (a':=?_) #[true,true,true,true,true,true,true,true,true,true,true,true,true,true,true,true,true,true,true,false,false] rfl rfl (any_of HT_.out (by kernel_rfl)) (fun _ _ _ h => h) (Or.inl ⟨by rfl,?_⟩) ?_ ?_
               rotate_left
               ·intro w'
                go_simp
                with_reducible rfl
               rotate_left
               ·simp only [Act.put,List.setIfInBounds_toArray,List.set_cons_zero,List.set_cons_succ,i64_w,i32_w]
                rfl
               refine pure_ (i:=19) (N:=some 43) (v:=?_) (a':=?_) #[true,true,true,true,true,true,true,true,true,true,true,true,true,true,true,true,true,true,true,true,false] rfl rfl (any_of HT_.out (by kernel_rfl)) (fun _ _ _ h => h) (Or.inl ⟨by rfl,?_⟩) ?_ ?_
               rotate_left
               ·intro w'
                go_simp
                with_reducible rfl
               rotate_left
               ·simp only [Act.put,List.setIfInBounds_toArray,List.set_cons_zero,List.set_cons_succ,i64_w,i32_w]
                rfl
               refine last_ (i:=20) (N:=none) #[true,true,true,true,true,true,true,true,true,true,true,true,true,true,true,true,true,true,true,true,true] rfl rfl (one_of HT_.out (by kernel_rfl)) (by decide) (fun K hK => ?_)
               refine skip_ (w1:=?_) (by rfl) rfl ?_ ?_
               rotate_left
               ·go_simp
                rfl
               refine hK.out _ _ ?_
               clear hK K
               refine done_ (done_of HT_.out (by kernel_rfl)) ?_
               try go_wp2
               go_loopg [5] k1 (fun kq v5 w' => ∃ (x3_2 : List Int) (x5_2 : Int),v5 = .int .i64 x5_2 ∧ Aside0 (madrigalref6_poly.l1 kq l0 x3_2 x4_1 x5_2 = some r) ∧ Aside0 (kq ≤ k1) ∧ Aside0 (Kd.R (Kd.int .i64) 2 w' w.heap.size (fun _ => True) (.slice (some ⟨go6,0,none⟩) x3_1.length co6) x3_2) ∧ Aside0 (Below w.heap.size w w'))
               case atStart => exact ⟨(y628),(x4_1),(by first|rfl|(simp;done)|(simp [*];done)),H',⟨Nat.le_refl _⟩,⟨by (try simp only [hl3_1]);(with_reducible repeat (first|apply ra_|apply rb_|apply rc_));exact HQ28.out⟩,⟨by repeat (first|(with_reducible first|exact HB.out|apply ba_|apply bb_|apply bc_|refine below_set ?_ GB6.out)|exact HB.out)⟩⟩
               case round => as_aux_lemma =>
                clear H'
                try clear c1
                try clear c2
                try clear p2
                try clear q2
                try clear hx2
                try clear hf2
                try clear c3
                try clear c3b0
                try clear c3b1
                try clear c4
                try clear c4b0
                try clear c4b1
                try clear c5
                try clear c5b0
                try clear c5b1
                try clear p6
                try clear q6
                try clear hx6
                try clear qi6
                try clear hf6
                try clear c7
                try clear c7b0
                try clear c7b1
                try clear c8
                try clear c8b0
                try clear c8b1
                try clear p9
                try clear q9
                try clear hx9
                try clear qi9
                try clear hf9
                try clear c16
                try clear c16b0
                try clear c16h0
                try clear c18
                try clear c18b0
                try clear c18h0
                try clear c19
                try clear c19b0
                try clear c19h0
                try clear c20
                try clear c20b0
                try clear c20h0
                try clear c21
                try clear c21b0
                try clear c21h0
                try clear c24
                try clear c24b0
                try clear c24h0
                try clear c25
                try clear c25b0
                try clear c25h0
                try clear p26
                try clear q26
                try clear hx26
                try clear hf26
                try clear hx26_0
                try clear hx622_0
                try clear hx624_0
                try clear hx625_0
                try clear hx626_0
                try clear hx6_0
                try clear hx9_0
                try clear p2
                try clear p26
                try clear p6
                try clear p622
                try clear p624
                try clear p625
                try clear p626
                try clear p9
                try clear q26
                try clear q6
                try clear q622
                try clear q624
                try clear q625
                try clear q626
                try clear q9
                obtain ⟨x3_2,x5_2,rfl,HA,HK2,HO_3,HB⟩:=hrel
                (try simp only [i64_w,i32_w])
                have hl3_2:=(Kd.R_reads' HO_3.out).1
                rw [hl3_2] at HO_3
                (try simp only [hl3_2])
                cases gk with
                | zero => exact absurd HA.out (by simp [madrigalref6_poly.l1])
                | succ k2 =>
                 have H:=HA.out
                 clear HA
                 simp only [madrigalref6_poly.l1] at H
                 by_cases c29 : x5_2 ≥ 2
                 ·rw [if_pos c29] at H
                  have c29b0 : decide (2 ≤ x5_2) = true:=decide_eq_true c29
                  (try (have c29h0:=c29b0;simp only [hl3_1,hl3_2] at c29h0))
                  clear c29
                  by_cases c30 : 0 ≤ x5_2
                  ·rw [if_pos c30] at H
                   have c30b0:=decide_eq_true c30
                   (try (have c30h0:=c30b0;simp only [hl3_1,hl3_2] at c30h0))
                   clear c30
                   by_cases c31 : x5_2 < (x3_2.length : Int)
                   ·rw [if_pos c31] at H
                    have c31b0:=decide_eq_true c31
                    (try (have c31h0:=c31b0;simp only [hl3_1,hl3_2] at c31h0))
                    clear c31
                    obtain ⟨ji32,hji32⟩ : ∃ j_ : Int,(wrap64 (x5_2 - 2)) = j_:=⟨_,rfl⟩
                    replace H : (if 0 ≤ (ji32) then (if (ji32) < (x3_2.length : Int) then (if 0 ≤ x4_1 then (if x4_1 < (l0.length : Int) then (if 0 ≤ (wrap64 (x5_2 - 1)) then (if (wrap64 (x5_2 - 1)) < (x3_2.length : Int) then ((madrigalref1_Mul.f k2 (rd l0 x4_1) (rd x3_2 (wrap64 (x5_2 - 1))) 16).bind fun t633 => (madrigalref6_poly.l1 k2 l0 (x3_2.set (x5_2 : Int).toNat (wrap64 ((wrap64 ((rd x3_2 x5_2) + (rd x3_2 (ji32)))) - t633))) x4_1 (wrap64 (x5_2 - 1)))) else (none)) else (none)) else (none)) else (none)) else (none)) else (none)) = some r:=by first|(rw [hji32] at H;exact H)|(simp only [hji32] at H ⊢;exact H)
                    have hji32w : (IntKind.i64.wrap (x5_2 - 2)) = ji32:=(i64_w _).trans hji32
                    by_cases c33 : 0 ≤ (ji32)
                    ·rw [if_pos c33] at H
                     have c33b0:=decide_eq_true c33
                     (try (have c33h0:=c33b0;simp only [hl3_1,hl3_2] at c33h0))
                     clear c33
                     by_cases c34 : (ji32) < (x3_2.length : Int)
                     ·rw [if_pos c34] at H
                      have c34b0:=decide_eq_true c34
                      (try (have c34h0:=c34b0;simp only [hl3_1,hl3_2] at c34h0))
                      clear c34
                      by_cases c35 : 0 ≤ x4_1
                      ·rw [if_pos c35] at H
                       have c35b0:=decide_eq_true c35
                       (try (have c35h0:=c35b0;simp only [hl3_1,hl3_2] at c35h0))
                       clear c35
                       by_cases c36 : x4_1 < (l0.length : Int)
                       ·rw [if_pos c36] at H
                        have c36b0:=decide_eq_true c36
                        (try (have c36h0:=c36b0;simp only [hl3_1,hl3_2] at c36h0))
                        clear c36
                        obtain ⟨ji37,hji37⟩ : ∃ j_ : Int,(wrap64 (x5_2 - 1)) = j_:=⟨_,rfl⟩
                        replace H : (if 0 ≤ (ji37) then (if (ji37) < (x3_2.length : Int) then ((madrigalref1_Mul.f k2 (rd l0 x4_1) (rd x3_2 (ji37)) 16).bind fun t633 => (madrigalref6_poly.l1 k2 l0 (x3_2.set (x5_2 : Int).toNat (wrap64 ((wrap64 ((rd x3_2 x5_2) + (rd x3_2 (ji32)))) - t633))) x4_1 ji37)) else (none)) else (none)) = some r:=by first|(rw [hji37] at H;exact H)|(simp only [hji37] at H ⊢;exact H)
                        have hji37w : (IntKind.i64.wrap (x5_2 - 1)) = ji37:=(i64_w _).trans hji37
                        by_cases c38 : 0 ≤ (ji37)
                        ·rw [if_pos c38] at H
                         have c38b0:=decide_eq_true c38
                         (try (have c38h0:=c38b0;simp only [hl3_1,hl3_2] at c38h0))
                         clear c38
                         by_cases c39 : (ji37) < (x3_2.length : Int)
                         ·rw [if_pos c39] at H
                          have c39b0:=decide_eq_true c39
                          (try (have c39h0:=c39b0;simp only [hl3_1,hl3_2] at c39h0))
                          clear c39
                          replace H:=Option.bind_eq_some_iff.mp H
                          obtain ⟨t633,A400,H⟩:=H
                          (try dsimp only at H)
                          have A40:=ak_ A400
                          clear A400
                          obtain ⟨y634,hy634⟩ : ∃ y_ : List Int,y_ = (x3_2.set (x5_2 : Int).toNat (wrap64 ((wrap64 ((rd x3_2 x5_2) + (rd x3_2 (ji32)))) - t633))):=⟨_,rfl⟩
                          replace H : (madrigalref6_poly.l1 k2 l0 y634 x4_1 ji37) = some r:=by first|(rw [hy634];with_reducible exact H)|(have H2_:=(Option.bind_some _ _).symm.trans H;rw [hy634];with_reducible exact H2_)|(have H2_:=(Option.bind_some _ _).symm.trans H;with_reducible exact H2_)|with_reducible exact H|(rw [hy634];exact H)|exact H
                          have Ny634:=ak_ hy634
                          clear hy634
                          have H':=ak_ H
                          clear H
                          try go_wp2
                          have n0_:=ak_ (Kd.R_drew HO_3.out)
                          have n1_:=ak_ (below_drew1 HB.out)
                          clear HO_3
                          clear HB
                          have HO_3:=n0_
                          have HB:=n1_
                          clear n0_ n1_
                          have p629 : 0 ≤ (x5_2 : Int):=of_decide_eq_true (by first|(with_reducible assumption)|assumption)
                          have q629 : x5_2 < (x3_2.length : Int):=of_decide_eq_true (by first|(with_reducible assumption)|assumption)
                          obtain ⟨ad629,e629,hx629_0⟩:=Kd.at_int (Kd.R_reads' HO_3.out).2.2 x5_2 p629 q629
                          obtain rfl : (⟨go6,0,none⟩ : Addr) = ad629:=(by injection e629)
                          (first|simp only [add_plain] at hx629_0|simp only [add_at] at hx629_0|simp only [Addr.add,Nat.zero_add] at hx629_0|skip)
                          replace p629:=eq_true p629
                          replace q629:=eq_true q629
                          have p630 : 0 ≤ ((ji32) : Int):=of_decide_eq_true (by first|(with_reducible assumption)|assumption)
                          have q630 : (ji32) < (x3_2.length : Int):=of_decide_eq_true (by first|(with_reducible assumption)|assumption)
                          obtain ⟨ad630,e630,hx630_0⟩:=Kd.at_int (Kd.R_reads' HO_3.out).2.2 (ji32) p630 q630
                          obtain rfl : (⟨go6,0,none⟩ : Addr) = ad630:=(by injection e630)
                          (first|simp only [add_plain] at hx630_0|simp only [add_at] at hx630_0|simp only [Addr.add,Nat.zero_add] at hx630_0|skip)
                          replace p630:=eq_true p630
                          replace q630:=eq_true q630
                          have p631 : 0 ≤ (x4_1 : Int):=of_decide_eq_true (by first|(with_reducible assumption)|assumption)
                          have q631 : x4_1 < (l0.length : Int):=of_decide_eq_true (by first|(with_reducible assumption)|assumption)
                          obtain ⟨ad631,e631,hx631_0⟩:=Kd.at_int HR0.out x4_1 p631 q631
                          have hw631_0:=hx631_0
                          obtain rfl : ad622 = ad631:=(by injection e631)
                          replace hx631_0:=(HB.out.cell (World.block_lt_of_cell? w _ hx631_0)).trans hx631_0
                          replace p631:=eq_true p631
                          replace q631:=eq_true q631
                          have p632 : 0 ≤ ((ji37) : Int):=of_decide_eq_true (by first|(with_reducible assumption)|assumption)
                          have q632 : (ji37) < (x3_2.length : Int):=of_decide_eq_true (by first|(with_reducible assumption)|assumption)
                          obtain ⟨ad632,e632,hx632_0⟩:=Kd.at_int (Kd.R_reads' HO_3.out).2.2 (ji37) p632 q632
                          obtain rfl : (⟨go6,0,none⟩ : Addr) = ad632:=(by injection e632)
                          (first|simp only [add_plain] at hx632_0|simp only [add_at] at hx632_0|simp only [Addr.add,Nat.zero_add] at hx632_0|skip)
                          replace p632:=eq_true p632
                          replace q632:=eq_true q632
                          refine start_ (n:=25) (S:=fun w' => w'.cell? ⟨go6,(x5_2).toNat,none⟩ = some (.int .i64 (rd x3_2 x5_2)) ∧ w'.cell? ⟨go6,((ji32)).toNat,none⟩ = some (.int .i64 (rd x3_2 (ji32))) ∧ w'.cell? (ad622.add (x4_1).toNat) = some (.int .i64 (rd l0 x4_1)) ∧ w'.cell? ⟨go6,((ji37)).toNat,none⟩ = some (.int .i64 (rd x3_2 (ji37)))) (ds:=[24]) #[false,false,false,false,false,false,false,false,false,false,false,false,false,false,false,false,false,false,false,false,false,false,false,false,false] (by kernel_rfl) rfl rfl ⟨hx629_0,hx630_0,((HB.out.cell (World.block_lt_of_cell? w _ hw631_0)).trans hw631_0),hx632_0⟩ (fun hHeld => ?_);refine with_tabW madrigalref6_poly.tab11 madrigalref6_poly.bits11 (fun HT_ HW_ => ?_)
                          generalize wr.drew = w42 at HO_3 HB hx629_0 hx630_0 hx631_0 hx632_0 hHeld ⊢
                          refine pure_ (i:=0) (N:=some 49) (v:=?_) (a':=?_) #[true,false,false,false,false,false,false,false,false,false,false,false,false,false,false,false,false,false,false,false,false,false,false,false,false] rfl rfl (any_of HT_.out (by kernel_rfl)) (fun _ _ _ h => h) (Or.inl ⟨by rfl,?_⟩) ?_ ?_
                          rotate_left
                          ·intro w'
                           go_simp
                           with_reducible rfl
                          rotate_left
                          ·simp only [Act.put,List.setIfInBounds_toArray,List.set_cons_zero,List.set_cons_succ,i64_w,i32_w]
                           rfl
                          refine pure_ (i:=1) (N:=some 50) (v:=?_) (a':=?_) #[true,true,false,false,false,false,false,false,false,false,false,false,false,false,false,false,false,false,false,false,false,false,false,false,false] rfl rfl (any_of HT_.out (by kernel_rfl)) (fun _ _ _ h => h) (Or.inl ⟨by rfl,?_⟩) ?_ ?_
                          rotate_left
                          ·intro w'
                           go_simp
                           with_reducible rfl
                          rotate_left
                          ·simp only [Act.put,List.setIfInBounds_toArray,List.set_cons_zero,List.set_cons_succ,i64_w,i32_w]
                           rfl
                          refine pure_ (i:=2) (N:=some 51) (v:=?_) (a':=?_) #[true,true,true,false,false,false,false,false,false,false,false,false,false,false,false,false,false,false,false,false,false,false,false,false,false] rfl rfl (any_of HT_.out (by kernel_rfl)) (fun _ _ _ h => h) (Or.inl ⟨by rfl,?_⟩) ?_ ?_
                          rotate_left
                          ·intro w'
                           go_simp
                           with_reducible rfl
                          rotate_left
                          ·simp only [Act.put,List.setIfInBounds_toArray,List.set_cons_zero,List.set_cons_succ,i64_w,i32_w]
                           rfl
                          refine pure_ (i:=3) (N:=some 52) (v:=?_) (a':=?_) #[true,true,true,true,false,false,false,false,false,false,false,false,false,false,false,false,false,false,false,false,false,false,false,false,false] rfl rfl (any_of HT_.out (by kernel_rfl)) (fun _ _ _ h => h) (Or.inl ⟨by rfl,?_⟩) ?_ ?_
                          rotate_left
                          ·intro w'
                           go_simp
                           with_reducible rfl
                          rotate_left
                          ·simp only [Act.put,List.setIfInBounds_toArray,List.set_cons_zero,List.set_cons_succ,i64_w,i32_w]
                           rfl
                          refine pure_ (i:=4) (N:=some 53) (v:=?_) (a':=?_) #[true,true,true,true,true,false,false,false,false,false,false,false,false,false,false,false,false,false,false,false,false,false,false,false,false] rfl rfl (any_of HT_.out (by kernel_rfl)) (fun _ _ _ h => h) (Or.inl ⟨by rfl,?_⟩) ?_ ?_
                          rotate_left
                          ·intro w'
                           go_simp
                           with_reducible rfl
                          rotate_left
                          ·simp only [Act.put,List.setIfInBounds_toArray,List.set_cons_zero,List.set_cons_succ,i64_w,i32_w]
                           rfl
                          refine pure_ (i:=6) (N:=some 55) (v:=?_) (a':=?_) #[true,true,true,true,true,false,true,false,false,false,false,false,false,false,false,false,false,false,false,false,false,false,false,false,false] rfl rfl (any_of HT_.out (by kernel_rfl)) (fun _ _ _ h => h) (Or.inl ⟨by rfl,?_⟩) ?_ ?_
                          rotate_left
                          ·intro w'
                           go_simp
                           with_reducible rfl
                          rotate_left
                          ·simp only [Act.put,List.setIfInBounds_toArray,List.set_cons_zero,List.set_cons_succ,i64_w,i32_w]
                           rfl
                          refine pure_ (i:=7) (N:=some 56) (v:=?_) (a':=?_) #[true,true,true,true,true,false,true,true,false,false,false,false,false,false,false,false,false,false,false,false,false,false,false,false,false] rfl rfl (any_of HT_.out (by kernel_rfl)) (fun _ _ _ h => h) (Or.inl ⟨by rfl,?_⟩) ?_ ?_
                          rotate_left
                          ·intro w'
                           go_simp
                           with_reducible rfl
                          rotate_left
                          ·simp only [Act.put,List.setIfInBounds_toArray,List.set_cons_zero,List.set_cons_succ,i64_w,i32_w]
                           rfl
                          refine pure_ (i:=8) (N:=some 57) (v:=?_) (a':=?_) #[true,true,true,true,true,false,true,true,true,false,false,false,false,false,false,false,false,false,false,false,false,false,false,false,false] rfl rfl (any_of HT_.out (by kernel_rfl)) (fun _ _ _ h => h) (Or.inl ⟨by rfl,?_⟩) ?_ ?_
                          rotate_left
                          ·intro w'
                           go_simp
                           with_reducible rfl
                          rotate_left
                          ·simp only [Act.put,List.setIfInBounds_toArray,List.set_cons_zero,List.set_cons_succ,i64_w,i32_w]
                           rfl
                          refine pure_ (i:=9) (N:=some 58) (v:=?_) (a':=?_) #[true,true,true,true,true,false,true,true,true,true,false,false,false,false,false,false,false,false,false,false,false,false,false,false,false] rfl rfl (any_of HT_.out (by kernel_rfl)) (fun _ _ _ h => h) (Or.inl ⟨by rfl,?_⟩) ?_ ?_
                          rotate_left
                          ·intro w'
                           go_simp
                           with_reducible rfl
                          rotate_left
                          ·simp only [Act.put,List.setIfInBounds_toArray,List.set_cons_zero,List.set_cons_succ,i64_w,i32_w]
                           rfl
                          refine pure_ (i:=12) (N:=some 61) (v:=?_) (a':=?_) #[true,true,true,true,true,false,true,true,true,true,false,false,true,false,false,false,false,false,false,false,false,false,false,false,false] rfl rfl (any_of HT_.out (by kernel_rfl)) (fun _ _ _ h => h) (Or.inl ⟨by rfl,?_⟩) ?_ ?_
                          rotate_left
                          ·intro w'
                           go_simp
                           with_reducible rfl
                          rotate_left
                          ·simp only [Act.put,List.setIfInBounds_toArray,List.set_cons_zero,List.set_cons_succ,i64_w,i32_w]
                           rfl
                          refine pure_ (i:=13) (N:=some 62) (v:=?_) (a':=?_) #[true,true,true,true,true,false,true,true,true,true,false,false,true,true,false,false,false,false,false,false,false,false,false,false,false] rfl rfl (any_of HT_.out (by kernel_rfl)) (fun _ _ _ h => h) (Or.inl ⟨by rfl,?_⟩) ?_ ?_
                          rotate_left
                          ·intro w'
                           go_simp
                           with_reducible rfl
                          rotate_left
                          ·simp only [Act.put,List.setIfInBounds_toArray,List.set_cons_zero,List.set_cons_succ,i64_w,i32_w]
                           rfl
                          refine pure_ (i:=14) (N:=some 63) (v:=?_) (a':=?_) #[true,true,true,true,true,false,true,true,true,true,false,false,true,true,true,false,false,false,false,false,false,false,false,false,false] rfl rfl (any_of HT_.out (by kernel_rfl)) (fun _ _ _ h => h) (Or.inl ⟨by rfl,?_⟩) ?_ ?_
                          rotate_left
                          ·intro w'
                           go_simp
                           with_reducible rfl
                          rotate_left
                          ·simp only [Act.put,List.setIfInBounds_toArray,List.set_cons_zero,List.set_cons_succ,i64_w,i32_w]
                           rfl
                          refine pure_ (i:=16) (N:=some 65) (v:=?_) (a':=?_) #[true,true,true,true,true,false,true,true,true,true,false,false,true,true,true,false,true,false,false,false,false,false,false,false,false] rfl rfl (any_of HT_.out (by kernel_rfl)) (fun _ _ _ h => h) (Or.inl ⟨by rfl,?_⟩) ?_ ?_
                          rotate_left
                          ·intro w'
                           go_simp
                           with_reducible rfl
                          rotate_left
                          ·simp only [Act.put,List.setIfInBounds_toArray,List.set_cons_zero,List.set_cons_succ,i64_w,i32_w]
                           rfl
                          refine pure_ (i:=17) (N:=some 66) (v:=?_) (a':=?_) #[true,true,true,true,true,false,true,true,true,true,false,false,true,true,true,false,true,true,false,false,false,false,false,false,false] rfl rfl (any_of HT_.out (by kernel_rfl)) (fun _ _ _ h => h) (Or.inl ⟨by rfl,?_⟩) ?_ ?_
                          rotate_left
                          ·intro w'
                           go_simp
                           with_reducible rfl
                          rotate_left
                          ·simp only [Act.put,List.setIfInBounds_toArray,List.set_cons_zero,List.set_cons_succ,i64_w,i32_w]
                           rfl
                          refine pure_ (i:=18) (N:=some 67) (v:=?_) (a':=?_) #[true,true,true,true,true,false,true,true,true,true,false,false,true,true,true,false,true,true,true,false,false,false,false,false,false] rfl rfl (any_of HT_.out (by kernel_rfl)) (fun _ _ _ h => h) (Or.inl ⟨by rfl,?_⟩) ?_ ?_
                          rotate_left
                          ·intro w'
                           go_simp
                           with_reducible rfl
                          rotate_left
                          ·simp only [Act.put,List.setIfInBounds_toArray,List.set_cons_zero,List.set_cons_succ,i64_w,i32_w]
                           rfl
                          refine pure_ (i:=19) (N:=some 68) (v:=?_) (a':=?_) #[true,true,true,true,true,false,true,true,true,true,false,false,true,true,true,false,true,true,true,true,false,false,false,false,false] rfl rfl (any_of HT_.out (by kernel_rfl)) (fun _ _ _ h => h) (Or.inl ⟨by rfl,?_⟩) ?_ ?_
                          rotate_left
                          ·intro w'
                           go_simp
                           with_reducible rfl
                          rotate_left
                          ·simp only [Act.put,List.setIfInBounds_toArray,List.set_cons_zero,List.set_cons_succ,i64_w,i32_w]
                           rfl
                          refine take_ (i:=5) (N:=some 54) (v:=?_) (a':=?_) #[true,true,true,true,true,true,true,true,true,true,false,false,true,true,true,false,true,true,true,true,false,false,false,false,false] rfl rfl (take_ofW HT_.out HW_.out (by kernel_rfl)) (fun _ _ _ h => h) (Or.inl ⟨by rfl,?_⟩) hHeld ?_ ?_
                          rotate_left
                          ·rintro w' ⟨s0,s1,s2,s3⟩
                           go_simp
                           with_reducible rfl
                          rotate_left
                          ·simp only [Act.put,List.setIfInBounds_toArray,List.set_cons_zero,List.set_cons_succ,i64_w,i32_w]
                           rfl
                          refine take_ (i:=10) (N:=some 59) (v:=?_) (a':=?_) #[true,true,true,true,true,true,true,true,true,true,true,false,true,true,true,false,true,true,true,true,false,false,false,false,false] rfl rfl (take_ofW HT_.out HW_.out (by kernel_rfl)) (fun _ _ _ h => h) (Or.inl ⟨by rfl,?_⟩) hHeld ?_ ?_
                          rotate_left
                          ·rintro w' ⟨s0,s1,s2,s3⟩
                           go_simp
                           with_reducible rfl
                          rotate_left
                          ·simp only [Act.put,List.setIfInBounds_toArray,List.set_cons_zero,List.set_cons_succ,i64_w,i32_w]
                           rfl
                          refine pure_ (i:=11) (N:=some 60) (v:=?_) (a':=?_) #[true,true,true,true,true,true,true,true,true,true,true,true,true,true,true,false,true,true,true,true,false,false,false,false,false] rfl rfl (any_of HT_.out (by kernel_rfl)) (fun _ _ _ h => h) (Or.inl ⟨by rfl,?_⟩) ?_ ?_
                          rotate_left
                          ·intro w'
                           go_simp
                           with_reducible rfl
                          rotate_left
                          ·simp only [Act.put,List.setIfInBounds_toArray,List.set_cons_zero,List.set_cons_succ,i64_w,i32_w]
                           rfl
                          refine take_ (i:=15) (N:=some 64) (v:=?_) (a':=?_) #[true,true,true,true,true,true,true,true,true,true,true,true,true,true,true,true,true,true,true,true,false,false,false,false,false] rfl rfl (take_ofW HT_.out HW_.out (by kernel_rfl)) (fun _ _ _ h => h) (Or.inl ⟨by rfl,?_⟩) hHeld ?_ ?_
                          rotate_left
                          ·rintro w' ⟨s0,s1,s2,s3⟩
                           go_simp
                           with_reducible rfl
                          rotate_left
                          ·simp only [Act.put,List.setIfInBounds_toArray,List.set_cons_zero,List.set_cons_succ,i64_w,i32_w]
                           rfl
                          refine take_ (i:=20) (N:=some 69) (v:=?_) (a':=?_) #[true,true,true,true,true,true,true,true,true,true,true,true,true,true,true,true,true,true,true,true,true,false,false,false,false] rfl rfl (take_ofW HT_.out HW_.out (by kernel_rfl)) (fun _ _ _ h => h) (Or.inl ⟨by rfl,?_⟩) hHeld ?_ ?_
                          rotate_left
                          ·rintro w' ⟨s0,s1,s2,s3⟩
                           go_simp
                           with_reducible rfl
                          rotate_left
                          ·simp only [Act.put,List.setIfInBounds_toArray,List.set_cons_zero,List.set_cons_succ,i64_w,i32_w]
                           rfl
                          refine one_ (i:=21) (N:=some 70) #[true,true,true,true,true,true,true,true,true,true,true,true,true,true,true,true,true,true,true,true,true,true,false,false,false] rfl rfl (one_of HT_.out (by kernel_rfl)) (by decide) (fun K hK => ?_)
                          refine goes_ Try.func34 (by kernel_rfl) rfl #[.int .i64 (rd l0 x4_1),.int .i64 (rd x3_2 (ji37)),.int .i64 16] (by rfl) rfl rfl (by (try simp only [List.map_toArray,List.map_cons,List.map_nil]);first|done|(simp only [hji37];rfl)|rfl|(simp only [List.length_drop,List.length_take];rfl)) ?_
                          with_reducible refine (madrigalref1_Mul.calls k2 (rd l0 x4_1) (rd x3_2 (ji37)) 16 t633 _ A40.out).mono ?_
                          rintro e w' ⟨rfl,⟨nd,rfl⟩⟩
                          refine ⟨_,rfl,?_⟩
                          have p41 : 0 ≤ (x5_2 : Int):=of_decide_eq_true (by first|(with_reducible assumption)|assumption)
                          have q41 : (x5_2 : Int) < ((x3_2.length : Int) : Int):=of_decide_eq_true (by first|(with_reducible assumption)|assumption)
                          obtain ⟨hx41_0,hf41_0⟩:=Kd.R_celln 0 HO_3.out (x5_2 : Int) p41 q41
                          replace p41:=eq_true p41
                          replace q41:=eq_true q41
                          have HP43:=Kd.R_putn HO_3.out (x5_2 : Int) (wrap64 ((wrap64 ((rd x3_2 x5_2) + (rd x3_2 (ji32)))) - t633))
                          rw [← Ny634.out] at HP43
                          have HQ43:=ak_ HP43
                          clear HP43
                          refine hK.out _ _ ⟨hHeld.1,hHeld.2.1,((HB.out.cell (World.block_lt_of_cell? w _ hw631_0)).trans hw631_0),hHeld.2.2.2⟩ (fun hHeld => ?_)
                          clear hK K
                          refine norm_ (a':=?_) ?_ ?_
                          rotate_left
                          ·show Act.put _ (some 70) _ = _
                           simp only [Act.put,List.setIfInBounds_toArray,List.set_cons_zero,List.set_cons_succ,i64_w,i32_w]
                           rfl
                          refine pure_ (i:=22) (N:=some 71) (v:=?_) (a':=?_) #[true,true,true,true,true,true,true,true,true,true,true,true,true,true,true,true,true,true,true,true,true,true,true,false,false] rfl rfl (any_of HT_.out (by kernel_rfl)) (fun _ _ _ h => h) (Or.inl ⟨by rfl,?_⟩) ?_ ?_
                          rotate_left
                          ·intro w'
                           go_simp
                           with_reducible rfl
                          rotate_left
                          ·simp only [Act.put,List.setIfInBounds_toArray,List.set_cons_zero,List.set_cons_succ,i64_w,i32_w]
                           rfl
                          refine pure_ (i:=23) (N:=some 72) (v:=?_) (a':=?_) #[true,true,true,true,true,true,true,true,true,true,true,true,true,true,true,true,true,true,true,true,true,true,true,true,false] rfl rfl (any_of HT_.out (by kernel_rfl)) (fun _ _ _ h => h) (Or.inl ⟨by rfl,?_⟩) ?_ ?_
                          rotate_left
                          ·intro w'
                           go_simp
                           with_reducible rfl
                          rotate_left
                          ·simp only [Act.put,List.setIfInBounds_toArray,List.set_cons_zero,List.set_cons_succ,i64_w,i32_w]
                           rfl
                          refine last_ (i:=24) (N:=none) #[true,true,true,true,true,true,true,true,true,true,true,true,true,true,true,true,true,true,true,true,true,true,true,true,true] rfl rfl (one_of HT_.out (by kernel_rfl)) (by decide) (fun K hK => ?_)
                          refine skip_ (w1:=?_) (by rfl) rfl ?_ ?_
                          rotate_left
                          ·go_simp
                           rfl
                          refine hK.out _ _ ?_
                          clear hK K
                          refine done_ (done_of HT_.out (by kernel_rfl)) ?_
                          try go_wp2
                          (try simp only [← hl3_2])
                          go_roundg k2
                          case measure => have:=HK1.out;have:=HK2.out;omega
                          case rel => exact ⟨(y634),(ji37),(by first|rfl|(simp;done)|(simp only [← hji37] <;> (first|rfl|simp))|(simp [*];done)),H',⟨by have:=HK1.out;have:=HK2.out;omega⟩,⟨by (try simp only [hl3_1]);(try simp only [hl3_2]);(with_reducible repeat (first|apply ra_|apply rb_|apply rc_));exact HQ43.out⟩,⟨by repeat (first|(with_reducible first|exact HB.out|apply ba_|apply bb_|apply bc_|refine below_set ?_ GB6.out)|exact HB.out)⟩⟩
                         ·rw [if_neg c39] at H
                          exact absurd H (by simp)
                        ·rw [if_neg c38] at H
                         exact absurd H (by simp)
                       ·rw [if_neg c36] at H
                        exact absurd H (by simp)
                      ·rw [if_neg c35] at H
                       exact absurd H (by simp)
                     ·rw [if_neg c34] at H
                      exact absurd H (by simp)
                    ·rw [if_neg c33] at H
                     exact absurd H (by simp)
                   ·rw [if_neg c31] at H
                    exact absurd H (by simp)
                  ·rw [if_neg c30] at H
                   exact absurd H (by simp)
                 ·rw [if_neg c29] at H
                  have c29b0 : decide (2 ≤ x5_2) = false:=decide_eq_false c29
                  (try (have c29h0:=c29b0;simp only [hl3_1,hl3_2] at c29h0))
                  clear c29
                  by_cases c44 : 1 < (x3_2.length : Int)
                  ·rw [if_pos c44] at H
                   have c44b0:=decide_eq_true c44
                   have c44b1 : decide (1 < x3_2.length) = true:=decide_eq_true (by omega)
                   (try (have c44h0:=c44b0;simp only [hl3_1,hl3_2] at c44h0))
                   (try (have c44h1:=c44b1;simp only [hl3_1,hl3_2] at c44h1))
                   clear c44
                   by_cases c45 : 0 ≤ x4_1
                   ·rw [if_pos c45] at H
                    have c45b0:=decide_eq_true c45
                    (try (have c45h0:=c45b0;simp only [hl3_1,hl3_2] at c45h0))
                    clear c45
                    by_cases c46 : x4_1 < (l0.length : Int)
                    ·rw [if_pos c46] at H
                     have c46b0:=decide_eq_true c46
                     (try (have c46h0:=c46b0;simp only [hl3_1,hl3_2] at c46h0))
                     clear c46
                     obtain ⟨y637,hy637⟩ : ∃ y_ : List Int,y_ = (x3_2.set (1 : Int).toNat (wrap64 ((rd x3_2 1) - (rd l0 x4_1)))):=⟨_,rfl⟩
                     replace H : (madrigalref6_poly.l0 k2 l0 y637 (wrap64 (x4_1 + 1))) = some r:=by first|(rw [hy637];with_reducible exact H)|(have H2_:=(Option.bind_some _ _).symm.trans H;rw [hy637];with_reducible exact H2_)|(have H2_:=(Option.bind_some _ _).symm.trans H;with_reducible exact H2_)|with_reducible exact H|(rw [hy637];exact H)|exact H
                     have Ny637:=ak_ hy637
                     clear hy637
                     have H':=ak_ H
                     clear H
                     try go_wp2
                     have n0_:=ak_ (Kd.R_drew HO_3.out)
                     have n1_:=ak_ (below_drew1 HB.out)
                     clear HO_3
                     clear HB
                     have HO_3:=n0_
                     have HB:=n1_
                     clear n0_ n1_
                     have p635 : 0 ≤ (1 : Int):=(by omega)
                     have q635 : 1 < (x3_2.length : Int):=of_decide_eq_true (by first|(with_reducible assumption)|assumption)
                     obtain ⟨ad635,e635,hx635_0⟩:=Kd.at_int (Kd.R_reads' HO_3.out).2.2 1 p635 q635
                     obtain rfl : (⟨go6,0,none⟩ : Addr) = ad635:=(by injection e635)
                     (first|simp only [add_plain] at hx635_0|simp only [add_at] at hx635_0|simp only [Addr.add,Nat.zero_add] at hx635_0|skip)
                     have qi635 : (1 < x3_2.length) = True:=eq_true (by omega)
                     (try rw [show ((1 : Int)).toNat = 1 from rfl] at hx635_0)
                     replace p635:=eq_true p635
                     replace q635:=eq_true q635
                     have p636 : 0 ≤ (x4_1 : Int):=of_decide_eq_true (by first|(with_reducible assumption)|assumption)
                     have q636 : x4_1 < (l0.length : Int):=of_decide_eq_true (by first|(with_reducible assumption)|assumption)
                     obtain ⟨ad636,e636,hx636_0⟩:=Kd.at_int HR0.out x4_1 p636 q636
                     have hw636_0:=hx636_0
                     obtain rfl : ad622 = ad636:=(by injection e636)
                     replace hx636_0:=(HB.out.cell (World.block_lt_of_cell? w _ hx636_0)).trans hx636_0
                     replace p636:=eq_true p636
                     replace q636:=eq_true q636
                     have p47 : 0 ≤ (1 : Int):=(by omega)
                     have q47 : (1 : Int) < ((x3_2.length : Int) : Int):=of_decide_eq_true (by first|(with_reducible assumption)|assumption)
                     have qi47 : (1 < x3_2.length) = True:=eq_true (by omega)
                     obtain ⟨hx47_0,hf47_0⟩:=Kd.R_celln 0 HO_3.out (1 : Int) p47 q47
                     (try rw [show ((1 : Int)).toNat = 1 from rfl] at hx47_0)
                     (try simp only [Nat.reduceMul,Nat.zero_mul,Nat.zero_add,Nat.reduceAdd] at hx47_0)
                     (try rw [show ((1 : Int)).toNat = 1 from rfl] at hf47_0)
                     (try simp only [Nat.reduceMul,Nat.zero_mul,Nat.zero_add,Nat.reduceAdd] at hf47_0)
                     replace p47:=eq_true p47
                     replace q47:=eq_true q47
                     have HP49:=Kd.R_putn HO_3.out (1 : Int) (wrap64 ((rd x3_2 1) - (rd l0 x4_1)))
                     rw [← Ny637.out] at HP49
                     have HQ49:=ak_ HP49
                     clear HP49
                     refine start_ (n:=11) (S:=fun w' => w'.cell? ⟨go6,1,none⟩ = some (.int .i64 (rd x3_2 1)) ∧ w'.cell? (ad622.add (x4_1).toNat) = some (.int .i64 (rd l0 x4_1))) (ds:=[10]) #[false,false,false,false,false,false,false,false,false,false,false] (by kernel_rfl) rfl rfl ⟨hx635_0,((HB.out.cell (World.block_lt_of_cell? w _ hw636_0)).trans hw636_0)⟩ (fun hHeld => ?_);refine with_tabW madrigalref6_poly.tab12 madrigalref6_poly.bits12 (fun HT_ HW_ => ?_)
                     generalize wr.drew = w48 at HO_3 HB HQ49 hf47_0 hx47_0 hx635_0 hx636_0 hHeld ⊢
                     refine pure_ (i:=0) (N:=some 73) (v:=?_) (a':=?_) #[true,false,false,false,false,false,false,false,false,false,false] rfl rfl (any_of HT_.out (by kernel_rfl)) (fun _ _ _ h => h) (Or.inl ⟨by rfl,?_⟩) ?_ ?_
                     rotate_left
                     ·intro w'
                      go_simp
                      with_reducible rfl
                     rotate_left
                     ·simp only [Act.put,List.setIfInBounds_toArray,List.set_cons_zero,List.set_cons_succ,i64_w,i32_w]
                      rfl
                     refine pure_ (i:=1) (N:=some 74) (v:=?_) (a':=?_) #[true,true,false,false,false,false,false,false,false,false,false] rfl rfl (any_of HT_.out (by kernel_rfl)) (fun _ _ _ h => h) (Or.inl ⟨by rfl,?_⟩) ?_ ?_
                     rotate_left
                     ·intro w'
                      go_simp
                      with_reducible rfl
                     rotate_left
                     ·simp only [Act.put,List.setIfInBounds_toArray,List.set_cons_zero,List.set_cons_succ,i64_w,i32_w]
                      rfl
                     refine pure_ (i:=2) (N:=some 75) (v:=?_) (a':=?_) #[true,true,true,false,false,false,false,false,false,false,false] rfl rfl (any_of HT_.out (by kernel_rfl)) (fun _ _ _ h => h) (Or.inl ⟨by rfl,?_⟩) ?_ ?_
                     rotate_left
                     ·intro w'
                      go_simp
                      with_reducible rfl
                     rotate_left
                     ·simp only [Act.put,List.setIfInBounds_toArray,List.set_cons_zero,List.set_cons_succ,i64_w,i32_w]
                      rfl
                     refine pure_ (i:=4) (N:=some 77) (v:=?_) (a':=?_) #[true,true,true,false,true,false,false,false,false,false,false] rfl rfl (any_of HT_.out (by kernel_rfl)) (fun _ _ _ h => h) (Or.inl ⟨by rfl,?_⟩) ?_ ?_
                     rotate_left
                     ·intro w'
                      go_simp
                      with_reducible rfl
                     rotate_left
                     ·simp only [Act.put,List.setIfInBounds_toArray,List.set_cons_zero,List.set_cons_succ,i64_w,i32_w]
                      rfl
                     refine pure_ (i:=5) (N:=some 78) (v:=?_) (a':=?_) #[true,true,true,false,true,true,false,false,false,false,false] rfl rfl (any_of HT_.out (by kernel_rfl)) (fun _ _ _ h => h) (Or.inl ⟨by rfl,?_⟩) ?_ ?_
                     rotate_left
                     ·intro w'
                      go_simp
                      with_reducible rfl
                     rotate_left
                     ·simp only [Act.put,List.setIfInBounds_toArray,List.set_cons_zero,List.set_cons_succ,i64_w,i32_w]
                      rfl
                     refine pure_ (i:=6) (N:=some 79) (v:=?_) (a':=?_) #[true,true,true,false,true,true,true,false,false,false,false] rfl rfl (any_of HT_.out (by kernel_rfl)) (fun _ _ _ h => h) (Or.inl ⟨by rfl,?_⟩) ?_ ?_
                     rotate_left
                     ·intro w'
                      go_simp
                      with_reducible rfl
                     rotate_left
                     ·simp only [Act.put,List.setIfInBounds_toArray,List.set_cons_zero,List.set_cons_succ,i64_w,i32_w]
                      rfl
                     refine take_ (i:=3) (N:=some 76) (v:=?_) (a':=?_) #[true,true,true,true,true,true,true,false,false,false,false] rfl rfl (take_ofW HT_.out HW_.out (by kernel_rfl)) (fun _ _ _ h => h) (Or.inl ⟨by rfl,?_⟩) hHeld ?_ ?_
                     rotate_left
                     ·rintro w' ⟨s0,s1⟩
                      go_simp
                      with_reducible rfl
                     rotate_left
                     ·simp only [Act.put,List.setIfInBounds_toArray,List.set_cons_zero,List.set_cons_succ,i64_w,i32_w]
                      rfl
                     refine take_ (i:=7) (N:=some 80) (v:=?_) (a':=?_) #[true,true,true,true,true,true,true,true,false,false,false] rfl rfl (take_ofW HT_.out HW_.out (by kernel_rfl)) (fun _ _ _ h => h) (Or.inl ⟨by rfl,?_⟩) hHeld ?_ ?_
                     rotate_left
                     ·rintro w' ⟨s0,s1⟩
                      go_simp
                      with_reducible rfl
                     rotate_left
                     ·simp only [Act.put,List.setIfInBounds_toArray,List.set_cons_zero,List.set_cons_succ,i64_w,i32_w]
                      rfl
                     refine pure_ (i:=8) (N:=some 81) (v:=?_) (a':=?_) #[true,true,true,true,true,true,true,true,true,false,false] rfl rfl (any_of HT_.out (by kernel_rfl)) (fun _ _ _ h => h) (Or.inl ⟨by rfl,?_⟩) ?_ ?_
                     rotate_left
                     ·intro w'
                      go_simp
                      with_reducible rfl
                     rotate_left
                     ·simp only [Act.put,List.setIfInBounds_toArray,List.set_cons_zero,List.set_cons_succ,i64_w,i32_w]
                      rfl
                     refine pure_ (i:=9) (N:=some 82) (v:=?_) (a':=?_) #[true,true,true,true,true,true,true,true,true,true,false] rfl rfl (any_of HT_.out (by kernel_rfl)) (fun _ _ _ h => h) (Or.inl ⟨by rfl,?_⟩) ?_ ?_
                     rotate_left
                     ·intro w'
                      go_simp
                      with_reducible rfl
                     rotate_left
                     ·simp only [Act.put,List.setIfInBounds_toArray,List.set_cons_zero,List.set_cons_succ,i64_w,i32_w]
                      rfl
                     refine last_ (i:=10) (N:=none) #[true,true,true,true,true,true,true,true,true,true,true] rfl rfl (one_of HT_.out (by kernel_rfl)) (by decide) (fun K hK => ?_)
                     refine skip_ (w1:=?_) (by rfl) rfl ?_ ?_
                     rotate_left
                     ·go_simp
                      rfl
                     refine hK.out _ _ ?_
                     clear hK K
                     refine done_ (done_of HT_.out (by kernel_rfl)) ?_
                     try go_wp2
                     (try simp only [← hl3_1,← hl3_2])
                     go_roundg k2
                     case measure => have:=HK1.out;have:=HK2.out;omega
                     case rel => exact ⟨(y637),(wrap64 (x4_1 + 1)),(by first|rfl|(simp;done)|(simp [*];done)),H',⟨by have:=HK1.out;have:=HK2.out;omega⟩,⟨by (try simp only [hl3_1]);(try simp only [hl3_2]);(with_reducible repeat (first|apply ra_|apply rb_|apply rc_));exact HQ49.out⟩,⟨by repeat (first|(with_reducible first|exact HB.out|apply ba_|apply bb_|apply bc_|refine below_set ?_ GB6.out)|exact HB.out)⟩⟩
                    ·rw [if_neg c46] at H
                     exact absurd H (by simp)
                   ·rw [if_neg c45] at H
                    exact absurd H (by simp)
                  ·rw [if_neg c44] at H
                   exact absurd H (by simp)
              ·rw [if_neg c25] at H
               exact absurd H (by simp)
             ·rw [if_neg c24] at H
              exact absurd H (by simp)
            ·rw [if_neg c21] at H
             exact absurd H (by simp)
           ·rw [if_neg c20] at H
            exact absurd H (by simp)
          ·rw [if_neg c19] at H
           exact absurd H (by simp)
         ·rw [if_neg c18] at H
          exact absurd H (by simp)
        ·rw [if_neg c16] at H
         have c16b0:=decide_eq_false c16
         (try (have c16h0:=c16b0;simp only [hl3_1] at c16h0))
         clear c16
         obtain rfl:=Option.some.inj H
         go_wp2
         go_ret
         exact ⟨_,by first|rfl|(simp [errW_none,errW_some] <;> rfl)|(simp only [← hji2];first|rfl|(simp [errW_none,errW_some] <;> rfl))|(simp [*,errW_none,errW_some] <;> rfl),by (with_reducible repeat (first|apply ra_|apply rb_|apply rc_));exact HO_3.out,by repeat (first|(with_reducible first|exact HB.out|apply ba_|apply bb_|apply bc_)|exact HB.out)⟩
     ·rw [if_neg c8] at H
      exact absurd H (by simp)
    ·rw [if_neg c7] at H
     exact absurd H (by simp)
   ·rw [if_neg c5] at H
    exact absurd H (by simp)
  ·rw [if_neg c4] at H
   exact absurd H (by simp)
 ·rw [if_neg c3] at H
  exact absurd H (by simp)

end Go.Proofs.Ytllglpcpjeggcaa.P
