/- The machine side of the laws of one chapter, without conditions: each call of a Go function comes to what the Lean function of its name answers. Written for this claim by a program of the prover. -/
import Derived.Test.YtllglpcpjeggcaaPx0
import Derived.Test.YtllglpcpjeggcaaPx5
namespace Go.Proofs.Ytllglpcpjeggcaa.P
open Go.RowKit Go.Proofs.YtllglpcpjeggcaaW.PrintWords Go.Proofs.YtllglpcpjeggcaaW.PrintLast Go.Proofs.YtllglpcpjeggcaaW.PrintMore
attribute [local go_sem] max2_int min2_int max_two min_two max_three min_three max_four min_four   -- for this text's walks alone
set_option linter.unusedVariables false
set_option linter.unusedSimpArgs false

/-! ### lpc_poly: function 47 -/
mutual
def lpc_poly.l0 : Nat → List Int → List Int → Int → Option (List Int)
 | 0,_,_,_ => none
 | k + 1,x0,x3,x4 => if x4 < (x0.length : Int) then (if 0 ≤ (wrap64 (x4 - 1)) then (if (wrap64 (x4 - 1)) < (x3.length : Int) then (if 0 ≤ x4 then (if x4 < (x3.length : Int) then ((fix_Mul.f k (rd x0 x4) (rd x3 x4) 16).bind fun t305 => (if 0 ≤ (wrap64 (x4 + 1)) then (if (wrap64 (x4 + 1)) < (x3.length : Int) then (lpc_poly.l1 k x0 (x3.set ((wrap64 (x4 + 1)) : Int).toNat (wrap64 ((wrap64 (2 * (rd x3 (wrap64 (x4 - 1))))) - t305))) x4 x4) else (none)) else (none))) else (none)) else (none)) else (none)) else (none)) else (some x3)
def lpc_poly.l1 : Nat → List Int → List Int → Int → Int → Option (List Int)
 | 0,_,_,_,_ => none
 | k + 1,x0,x3,x4,x5 => if x5 ≥ 2 then (if 0 ≤ x5 then (if x5 < (x3.length : Int) then (if 0 ≤ (wrap64 (x5 - 2)) then (if (wrap64 (x5 - 2)) < (x3.length : Int) then (if 0 ≤ x4 then (if x4 < (x0.length : Int) then (if 0 ≤ (wrap64 (x5 - 1)) then (if (wrap64 (x5 - 1)) < (x3.length : Int) then ((fix_Mul.f k (rd x0 x4) (rd x3 (wrap64 (x5 - 1))) 16).bind fun t311 => (lpc_poly.l1 k x0 (x3.set (x5 : Int).toNat (wrap64 ((rd x3 x5) + (wrap64 ((rd x3 (wrap64 (x5 - 2))) - t311))))) x4 (wrap64 (x5 - 1)))) else (none)) else (none)) else (none)) else (none)) else (none)) else (none)) else (none)) else (none)) else (if 1 < (x3.length : Int) then (if 0 ≤ x4 then (if x4 < (x0.length : Int) then (lpc_poly.l0 k x0 (x3.set (1 : Int).toNat (wrap64 ((rd x3 1) - (rd x0 x4)))) (wrap64 (x4 + 1))) else (none)) else (none)) else (none))
end
def lpc_poly.f (k : Nat) (l0 : List Int) : Option (List Int):=if 0 ≤ (wrap64 ((l0.length : Int) + 1)) then (if (wrap64 ((l0.length : Int) + 1) : Int).toNat ≤ 35184372088832 then ((some (List.replicate (wrap64 ((l0.length : Int) + 1) : Int).toNat 0 : List Int)).bind fun y296 => (if 0 < (l0.length : Int) then (if 0 < (y296.length : Int) then (if 1 < (y296.length : Int) then (lpc_poly.l0 k l0 ((y296.set (0 : Int).toNat 65536).set (1 : Int).toNat (wrap64 (-(rd l0 0)))) 1) else (none)) else (none)) else (none))) else (none)) else (none)
theorem lpc_poly.mono_l : ∀ k,(∀ y0 y1 y2,LeO (lpc_poly.l0 k y0 y1 y2) (lpc_poly.l0 (k + 1) y0 y1 y2)) ∧ (∀ y0 y1 y2 y3,LeO (lpc_poly.l1 k y0 y1 y2 y3) (lpc_poly.l1 (k + 1) y0 y1 y2 y3))
 | 0 => ⟨fun _ _ _ r h => by simp [lpc_poly.l0] at h,fun _ _ _ _ r h => by simp [lpc_poly.l1] at h⟩
 | k + 1 => by
  obtain ⟨ih0,ih1⟩:=lpc_poly.mono_l k
  refine ⟨?_,?_⟩
  all_goals (intros;first|unfold lpc_poly.l0|unfold lpc_poly.l1)
  all_goals (repeat' first|(with_reducible first|exact ih0 _ _ _|exact ih1 _ _ _ _|exact fix_Mul.mono _ _ _ _|exact LeO.refl _|exact LeO.none _|refine LeO.ite ?_ ?_|refine LeO.bind ?_ (fun _ => ?_))|exact ih0 _ _ _|exact ih1 _ _ _ _|exact fix_Mul.mono _ _ _ _|exact LeO.none _|refine LeO.ite ?_ ?_|refine LeO.bind ?_ (fun _ => ?_))
theorem lpc_poly.mono : ∀ a0 k,LeO (lpc_poly.f k a0) (lpc_poly.f (k + 1) a0):=by
 intro a0 k
 obtain ⟨ih0,ih1⟩:=lpc_poly.mono_l k
 unfold lpc_poly.f
 repeat' first|(with_reducible first|exact ih0 _ _ _|exact ih1 _ _ _ _|exact fix_Mul.mono _ _ _ _|exact LeO.refl _|exact LeO.none _|refine LeO.ite ?_ ?_|refine LeO.bind ?_ (fun _ => ?_))|exact ih0 _ _ _|exact ih1 _ _ _ _|exact fix_Mul.mono _ _ _ _|exact LeO.none _|refine LeO.ite ?_ ?_|refine LeO.bind ?_ (fun _ => ?_)
def lpc_poly.T6 : Bool × List (List Nat × List Nat):=(true,[([],[]),([],[]),([1],[1]),([],[]),([],[]),([4],[4]),([3,5],[3,5]),([6],[6]),([7],[7]),([],[]),([],[]),([9,10],[9,10]),([11],[11]),([],[]),([],[]),([13,14],[13,14]),([15],[15]),([12,16],[12,16]),([8,17],[8,17]),([0,2,0,1,2,3,4,5,6,7,8,9,10,11,12,13,14,15,16,17,18],[0,2]),([19,18,17,0,1,2,3,4,5,6,7,8,9,10,11,12,13,14,15,16,17,18],[18,19])])
def lpc_poly.B6 : List Nat:=[0,0,2,0,0,16,56,120,248,0,0,1536,3584,0,0,24576,57344,130560,262136,524287,1048575]
theorem lpc_poly.tab6 : rtab .any (opsOf Try.f47 6) = lpc_poly.T6:=by kernel_rfl
theorem lpc_poly.bits6 : waitsOk lpc_poly.T6.2 lpc_poly.B6 = true:=by kernel_rfl
def lpc_poly.T10 : Bool × List (List Nat × List Nat):=(true,[([],[]),([],[]),([0,1],[0,1]),([2],[2]),([],[]),([],[]),([5],[5]),([4,6],[4,6]),([7],[7]),([],[]),([],[]),([9,10],[9,10]),([11],[11]),([],[]),([],[]),([14],[14]),([13,15],[13,15]),([16],[16]),([12,17],[12,17]),([8,18],[8,18]),([3,19],[3,19]),([0,1,0,1,2,3,4,5,6,7,8,9,10,11,12,13,14,15,16,17,18,19,20],[0,1]),([21,20,18,0,1,2,3,4,5,6,7,8,9,10,11,12,13,14,15,16,17,18,19,20],[20,21])])
def lpc_poly.B10 : List Nat:=[0,0,3,7,0,0,32,112,240,0,0,1536,3584,0,0,16384,57344,122880,261632,524272,1048575,2097151,4194303]
theorem lpc_poly.tab10 : rtab .any (opsOf Try.f47 10) = lpc_poly.T10:=by kernel_rfl
theorem lpc_poly.bits10 : waitsOk lpc_poly.T10.2 lpc_poly.B10 = true:=by kernel_rfl
def lpc_poly.T11 : Bool × List (List Nat × List Nat):=(true,[([],[]),([0],[0]),([1],[1]),([],[]),([],[]),([3,4],[3,4]),([5],[5]),([2,6],[2,6]),([0,0,1,2,3,4,5,6,7],[0]),([8,7,0,1,2,3,4,5,6,7],[7,8])])
def lpc_poly.B11 : List Nat:=[0,1,3,0,0,24,56,127,255,511]
theorem lpc_poly.tab11 : rtab .any (opsOf Try.f47 11) = lpc_poly.T11:=by kernel_rfl
theorem lpc_poly.bits11 : waitsOk lpc_poly.T11.2 lpc_poly.B11 = true:=by kernel_rfl
set_option maxHeartbeats 8000000 in
set_option maxRecDepth 100000 in
theorem lpc_poly.calls (k : Nat) (A0 : Option Addr) (c0 : Nat) (l0 : List Int) (r : List Int) (w : World) (hr0 : Kd.C (Kd.int .i64) w A0 l0.length l0) (hc0 : l0.length ≤ c0) (h : lpc_poly.f k l0 = some r) :
  Calls Try.prog 47 #[.slice A0 l0.length c0] w fun e w' => ∃ v0_ : Value,e = .returned (v0_) ∧ Kd.R (Kd.int .i64) 2 w' w.heap.size (fun _ => True) v0_ r ∧ Below w.heap.size w w':=by
 have HR0:=ak_ hr0
 have HC0:=ak_ hc0
 clear hr0 hc0
 have HB:=ak_ (Below.refl w.heap.size w)
 have H : (if 0 ≤ (wrap64 ((l0.length : Int) + 1)) then (if (wrap64 ((l0.length : Int) + 1) : Int).toNat ≤ 35184372088832 then ((some (List.replicate (wrap64 ((l0.length : Int) + 1) : Int).toNat 0 : List Int)).bind fun y296 => (if 0 < (l0.length : Int) then (if 0 < (y296.length : Int) then (if 1 < (y296.length : Int) then (lpc_poly.l0 k l0 ((y296.set (0 : Int).toNat 65536).set (1 : Int).toNat (wrap64 (-(rd l0 0)))) 1) else (none)) else (none)) else (none))) else (none)) else (none)) = some r:=h
 clear h
 obtain ⟨ji2,hji2⟩ : ∃ j_ : Int,(wrap64 ((l0.length : Int) + 1)) = j_:=⟨_,rfl⟩
 replace H : (if 0 ≤ (ji2) then (if (ji2 : Int).toNat ≤ 35184372088832 then ((some (List.replicate (ji2 : Int).toNat 0 : List Int)).bind fun y296 => (if 0 < (l0.length : Int) then (if 0 < (y296.length : Int) then (if 1 < (y296.length : Int) then (lpc_poly.l0 k l0 ((y296.set (0 : Int).toNat 65536).set (1 : Int).toNat (wrap64 (-(rd l0 0)))) 1) else (none)) else (none)) else (none))) else (none)) else (none)) = some r:=by first|(rw [hji2] at H;exact H)|(simp only [hji2] at H ⊢;exact H)
 have hji2w : (IntKind.i64.wrap ((l0.length : Int) + 1)) = ji2:=(i64_w _).trans hji2
 by_cases c3 : 0 ≤ (ji2)
 ·rw [if_pos c3] at H
  have c3b0:=eq_true c3
  have c3b1 : decide (0 ≤ (ji2)) = true:=decide_eq_true c3
  clear c3
  by_cases c4 : (ji2 : Int).toNat ≤ 35184372088832
  ·rw [if_pos c4] at H
   have c4b0:=eq_true c4
   have c4b1 : decide ((ji2 : Int).toNat ≤ 35184372088832) = true:=decide_eq_true c4
   clear c4
   obtain ⟨y296,hy296⟩ : ∃ y_ : List Int,y_ = (List.replicate (ji2 : Int).toNat 0):=⟨_,rfl⟩
   replace H : (if 0 < (l0.length : Int) then (if 0 < (y296.length : Int) then (if 1 < (y296.length : Int) then (lpc_poly.l0 k l0 ((y296.set (0 : Int).toNat 65536).set (1 : Int).toNat (wrap64 (-(rd l0 0)))) 1) else (none)) else (none)) else (none)) = some r:=by first|(rw [hy296];with_reducible exact H)|(have H2_:=(Option.bind_some _ _).symm.trans H;rw [hy296];with_reducible exact H2_)|(have H2_:=(Option.bind_some _ _).symm.trans H;with_reducible exact H2_)|with_reducible exact H|(rw [hy296];exact H)|exact H
   have Ny296:=ak_ hy296
   clear hy296
   by_cases c5 : 0 < (l0.length : Int)
   ·rw [if_pos c5] at H
    have c5b0:=decide_eq_true c5
    have c5b1 : decide (0 < l0.length) = true:=decide_eq_true (by omega)
    clear c5
    by_cases c6 : 0 < (y296.length : Int)
    ·rw [if_pos c6] at H
     have c6b0:=decide_eq_true c6
     have c6b1 : decide (0 < y296.length) = true:=decide_eq_true (by omega)
     clear c6
     obtain ⟨y300,hy300⟩ : ∃ y_ : List Int,y_ = (y296.set (0 : Int).toNat 65536):=⟨_,rfl⟩
     replace H : (if 1 < (y296.length : Int) then (lpc_poly.l0 k l0 (y300.set (1 : Int).toNat (wrap64 (-(rd l0 0)))) 1) else (none)) = some r:=by first|(rw [hy300];with_reducible exact H)|(have H2_:=(Option.bind_some _ _).symm.trans H;rw [hy300];with_reducible exact H2_)|(have H2_:=(Option.bind_some _ _).symm.trans H;with_reducible exact H2_)|with_reducible exact H|(rw [hy300];exact H)|exact H
     have Ny300:=ak_ hy300
     clear hy300
     by_cases c8 : 1 < (y296.length : Int)
     ·rw [if_pos c8] at H
      have c8b0:=decide_eq_true c8
      have c8b1 : decide (1 < y296.length) = true:=decide_eq_true (by omega)
      clear c8
      obtain ⟨y301,hy301⟩ : ∃ y_ : List Int,y_ = (y300.set (1 : Int).toNat (wrap64 (-(rd l0 0)))):=⟨_,rfl⟩
      replace H : (lpc_poly.l0 k l0 y301 1) = some r:=by first|(rw [hy301];with_reducible exact H)|(have H2_:=(Option.bind_some _ _).symm.trans H;rw [hy301];with_reducible exact H2_)|(have H2_:=(Option.bind_some _ _).symm.trans H;with_reducible exact H2_)|with_reducible exact H|(rw [hy301];exact H)|exact H
      have Ny301:=ak_ hy301
      clear hy301
      have H':=ak_ H
      clear H
      go_enter Try.func47,Try.ntmps47
      go_wp2_with (first|((with_reducible refine gate_dst (N:=9) rfl ?_);refine Kd.R_make (Kd.int .i64) _ 2 rfl (N:=9) rfl 23 _ _ rfl ji2 rfl rfl Try.underlying23 (.int .i64 0) 8 info2 rfl (by decide) (by omega) 0 (ok:=fun _ => True) (okp:=fun _ => True) rfl (fun _ hk => hk) trivial (of_decide_eq_true (by first|(with_reducible assumption)|assumption)) (Nat.le_trans (Nat.mul_le_mul_right _ (of_decide_eq_true (by first|(with_reducible assumption)|assumption) : ji2.toNat ≤ 35184372088832)) (by omega)) (Below.refl _ _) (Nat.le_refl _) ?_;intro v297 w10 ho11 hb hg_ hnew_;clear hg_ hnew_;(first|rw [← Ny296.out] at ho11|(simp only [Int.reduceToNat] at ho11;rw [← Ny296.out] at ho11));have n0_:=ak_ (Kd.R_lower ho11 (below_size (by repeat (first|(with_reducible first|exact HB.out|apply ba_|apply bb_|apply bc_)|exact HB.out))));have n1_:=ak_ (below_step (by repeat (first|(with_reducible first|exact HB.out|apply ba_|apply bb_|apply bc_)|exact HB.out)) hb);clear HB;have HO298:=n0_;have HB:=n1_;clear n0_ n1_;clear hb ho11;have p299 : 0 ≤ (0 : Int):=(by omega);have q299 : 0 < (l0.length : Int):=of_decide_eq_true (by first|(with_reducible assumption)|assumption);obtain ⟨ad299,e299,hx299_0⟩:=Kd.at_int HR0.out 0 p299 q299;cases e299;have qi299 : (0 < l0.length) = True:=eq_true (by omega);(try rw [show ((0 : Int)).toNat = 0 from rfl] at hx299_0);(try rw [Addr.add_zero'] at hx299_0);replace hx299_0:=(HB.out.cell (World.block_lt_of_cell? w _ hx299_0)).trans hx299_0;replace p299:=eq_true p299;replace q299:=eq_true q299;have p7 : 0 ≤ (0 : Int):=(by omega);have q7 : (0 : Int) < ((y296.length : Int) : Int):=of_decide_eq_true (by first|(with_reducible assumption)|assumption);have qi7 : (0 < y296.length) = True:=eq_true (by omega);obtain ⟨go7,co7,eo7,gb7,gl7,cl7,HG7⟩:=Kd.R_form HO298.out (by omega);(first|cases eo7|(injection eo7 with ea_ en_ ec_;(first|subst ea_|(injection ea_ with ea_;subst ea_));subst ec_;clear en_));have GB7:=ak_ gb7;have GG7:=ak_ HG7;clear gb7 gl7 HG7;obtain ⟨hx7_0,hf7_0⟩:=Kd.R_celln 0 HO298.out (0 : Int) p7 q7;(try rw [show ((0 : Int)).toNat = 0 from rfl] at hx7_0);(try simp only [Nat.reduceMul,Nat.zero_mul,Nat.zero_add,Nat.reduceAdd] at hx7_0);(try rw [show ((0 : Int)).toNat = 0 from rfl] at hf7_0);(try simp only [Nat.reduceMul,Nat.zero_mul,Nat.zero_add,Nat.reduceAdd] at hf7_0);replace p7:=eq_true p7;replace q7:=eq_true q7;obtain ⟨hy12_,hz12_⟩:=Kd.R_celln 0 HO298.out (0 : Int) (by omega) (of_decide_eq_true (by first|(with_reducible assumption)|assumption));(try simp only [Int.reduceToNat,Int.toNat_zero,Int.toNat_ofNat,Nat.reduceMul,Nat.zero_mul,Nat.zero_add] at hy12_ hz12_);(try rw [show ((0 : Int)).toNat = 0 from rfl] at hy12_);(try rw [show ((0 : Int)).toNat = 0 from rfl] at hz12_);have HP12:=Kd.R_putg HO298.out (0 : Int) 65536)|((with_reducible refine gate_store (t:=2) (p:=16) rfl ?_);refine store_event (t:=2) (p:=16) (v:=?vo_w13) (w1:=(w10.setCell ⟨go7,(0 : Int).toNat,none⟩ (.int .i64 65536))) ?hg ?ho ?hn ?hr ?_;(case ho => rfl);(case hg => rfl);(case hn => rfl);(case hr => first|(go_simp;done)|(go_simp;rfl));intro w13 hw;have hg : w10.grownBy w13 (some go7):=(by rw [hw];exact HP12.2);have hp_ : Kd.R (Kd.int .i64) 2 w13 w.heap.size (fun _ => True) (.slice (some ⟨go7,0,none⟩) y296.length co7) y300:=(by rw [hw,Ny300.out];exact HP12.1);clear HP12;have n0_:=ak_ (hp_);have n1_:=ak_ ((by rw [hw];exact below_set (HB.out) GB7.out : Below w.heap.size w w13));clear HO298;clear HB;have HO298:=n0_;have HB:=n1_;clear n0_ n1_;clear hg hw hp_;have p9 : 0 ≤ (1 : Int):=(by omega);have q9 : (1 : Int) < ((y296.length : Int) : Int):=of_decide_eq_true (by first|(with_reducible assumption)|assumption);have qi9 : (1 < y296.length) = True:=eq_true (by omega);obtain ⟨hx9_0,hf9_0⟩:=Kd.R_celln 0 HO298.out (1 : Int) p9 q9;(try rw [show ((1 : Int)).toNat = 1 from rfl] at hx9_0);(try simp only [Nat.reduceMul,Nat.zero_mul,Nat.zero_add,Nat.reduceAdd] at hx9_0);(try rw [show ((1 : Int)).toNat = 1 from rfl] at hf9_0);(try simp only [Nat.reduceMul,Nat.zero_mul,Nat.zero_add,Nat.reduceAdd] at hf9_0);replace p9:=eq_true p9;replace q9:=eq_true q9;obtain ⟨hy14_,hz14_⟩:=Kd.R_celln 0 HO298.out (1 : Int) (by omega) (of_decide_eq_true (by first|(with_reducible assumption)|assumption));(try simp only [Int.reduceToNat,Int.toNat_zero,Int.toNat_ofNat,Nat.reduceMul,Nat.zero_mul,Nat.zero_add] at hy14_ hz14_);(try rw [show ((1 : Int)).toNat = 1 from rfl] at hy14_);(try rw [show ((1 : Int)).toNat = 1 from rfl] at hz14_);have HP14:=Kd.R_putg HO298.out (1 : Int) (wrap64 (-(rd l0 0))))|((with_reducible refine gate_store (t:=2) (p:=17) rfl ?_);refine store_event (t:=2) (p:=17) (v:=?vo_w15) (w1:=(w13.setCell ⟨go7,(1 : Int).toNat,none⟩ (.int .i64 (wrap64 (-(rd l0 0)))))) ?hg ?ho ?hn ?hr ?_;(case ho => rfl);(case hg => rfl);(case hn => rfl);(case hr => first|(go_simp;done)|(go_simp;rfl));intro w15 hw;have hg : w13.grownBy w15 (some go7):=(by rw [hw];exact HP14.2);have hp_ : Kd.R (Kd.int .i64) 2 w15 w.heap.size (fun _ => True) (.slice (some ⟨go7,0,none⟩) y296.length co7) y301:=(by rw [hw,Ny301.out];exact HP14.1);clear HP14;have n0_:=ak_ (hp_);have n1_:=ak_ ((by rw [hw];exact below_set (HB.out) GB7.out : Below w.heap.size w w15));clear HO298;clear HB;have HO298:=n0_;have HB:=n1_;clear n0_ n1_;clear hg hw hp_))
      go_loopg [4] k (fun kq v4 w' => ∃ (x3_1 : List Int) (x4_1 : Int),v4 = .int .i64 x4_1 ∧ Aside0 (lpc_poly.l0 kq l0 x3_1 x4_1 = some r) ∧ Aside0 (kq ≤ k) ∧ Aside0 (Kd.R (Kd.int .i64) 2 w' w.heap.size (fun _ => True) (.slice (some ⟨go7,0,none⟩) y296.length co7) x3_1) ∧ Aside0 (Below w.heap.size w w'))
      case atStart => exact ⟨(y301),(1),(by first|rfl|(simp;done)|(simp [*];done)),H',⟨Nat.le_refl _⟩,⟨by (with_reducible repeat (first|apply ra_|apply rb_|apply rc_));exact HO298.out⟩,⟨by repeat (first|(with_reducible first|exact HB.out|apply ba_|apply bb_|apply bc_)|exact HB.out)⟩⟩
      case round => as_aux_lemma =>
       clear H'
       try clear p2
       try clear q2
       try clear hx2
       try clear qi2
       try clear c3
       try clear c3b0
       try clear c3b1
       try clear c4
       try clear c4b0
       try clear c4b1
       try clear c5
       try clear c5b0
       try clear c5b1
       try clear c6
       try clear c6b0
       try clear c6b1
       try clear p6
       try clear p7
       try clear q7
       try clear hx7
       try clear qi7
       try clear hf7
       try clear c8
       try clear c8b0
       try clear c8b1
       try clear p9
       try clear q9
       try clear hx9
       try clear qi9
       try clear hf9
       try clear hx299_0
       try clear hx7_0
       try clear hx9_0
       try clear p299
       try clear p7
       try clear p9
       try clear q299
       try clear q7
       try clear q9
       obtain ⟨x3_1,x4_1,rfl,HA,HK1,HO_3,HB⟩:=hrel
       (try simp only [i64_w,i32_w])
       have hl3_1:=(Kd.R_reads' HO_3.out).1
       rw [hl3_1] at HO_3
       (try simp only [hl3_1])
       cases gk with
       | zero => exact absurd HA.out (by simp [lpc_poly.l0])
       | succ k1 =>
        have H:=HA.out
        clear HA
        simp only [lpc_poly.l0] at H
        by_cases c16 : x4_1 < (l0.length : Int)
        ·rw [if_pos c16] at H
         have c16b0:=decide_eq_true c16
         (try (have c16h0:=c16b0;simp only [hl3_1] at c16h0))
         clear c16
         obtain ⟨ji17,hji17⟩ : ∃ j_ : Int,(wrap64 (x4_1 - 1)) = j_:=⟨_,rfl⟩
         replace H : (if 0 ≤ (ji17) then (if (ji17) < (x3_1.length : Int) then (if 0 ≤ x4_1 then (if x4_1 < (x3_1.length : Int) then ((fix_Mul.f k1 (rd l0 x4_1) (rd x3_1 x4_1) 16).bind fun t305 => (if 0 ≤ (wrap64 (x4_1 + 1)) then (if (wrap64 (x4_1 + 1)) < (x3_1.length : Int) then (lpc_poly.l1 k1 l0 (x3_1.set ((wrap64 (x4_1 + 1)) : Int).toNat (wrap64 ((wrap64 (2 * (rd x3_1 (ji17)))) - t305))) x4_1 x4_1) else (none)) else (none))) else (none)) else (none)) else (none)) else (none)) = some r:=by first|(rw [hji17] at H;exact H)|(simp only [hji17] at H ⊢;exact H)
         have hji17w : (IntKind.i64.wrap (x4_1 - 1)) = ji17:=(i64_w _).trans hji17
         by_cases c18 : 0 ≤ (ji17)
         ·rw [if_pos c18] at H
          have c18b0:=decide_eq_true c18
          (try (have c18h0:=c18b0;simp only [hl3_1] at c18h0))
          clear c18
          by_cases c19 : (ji17) < (x3_1.length : Int)
          ·rw [if_pos c19] at H
           have c19b0:=decide_eq_true c19
           (try (have c19h0:=c19b0;simp only [hl3_1] at c19h0))
           clear c19
           by_cases c20 : 0 ≤ x4_1
           ·rw [if_pos c20] at H
            have c20b0:=decide_eq_true c20
            (try (have c20h0:=c20b0;simp only [hl3_1] at c20h0))
            clear c20
            by_cases c21 : x4_1 < (x3_1.length : Int)
            ·rw [if_pos c21] at H
             have c21b0:=decide_eq_true c21
             (try (have c21h0:=c21b0;simp only [hl3_1] at c21h0))
             clear c21
             replace H:=Option.bind_eq_some_iff.mp H
             obtain ⟨t305,A220,H⟩:=H
             (try dsimp only at H)
             have A22:=ak_ A220
             clear A220
             obtain ⟨ji23,hji23⟩ : ∃ j_ : Int,(wrap64 (x4_1 + 1)) = j_:=⟨_,rfl⟩
             replace H : (if 0 ≤ (ji23) then (if (ji23) < (x3_1.length : Int) then (lpc_poly.l1 k1 l0 (x3_1.set ((ji23) : Int).toNat (wrap64 ((wrap64 (2 * (rd x3_1 (ji17)))) - t305))) x4_1 x4_1) else (none)) else (none)) = some r:=by first|(rw [hji23] at H;exact H)|(simp only [hji23] at H ⊢;exact H)
             (try rw [hji23] at A22)
             have hji23w : (IntKind.i64.wrap (x4_1 + 1)) = ji23:=(i64_w _).trans hji23
             by_cases c24 : 0 ≤ (ji23)
             ·rw [if_pos c24] at H
              have c24b0:=decide_eq_true c24
              (try (have c24h0:=c24b0;simp only [hl3_1] at c24h0))
              clear c24
              by_cases c25 : (ji23) < (x3_1.length : Int)
              ·rw [if_pos c25] at H
               have c25b0:=decide_eq_true c25
               (try (have c25h0:=c25b0;simp only [hl3_1] at c25h0))
               clear c25
               obtain ⟨y306,hy306⟩ : ∃ y_ : List Int,y_ = (x3_1.set ((ji23) : Int).toNat (wrap64 ((wrap64 (2 * (rd x3_1 (ji17)))) - t305))):=⟨_,rfl⟩
               replace H : (lpc_poly.l1 k1 l0 y306 x4_1 x4_1) = some r:=by first|(rw [hy306];with_reducible exact H)|(have H2_:=(Option.bind_some _ _).symm.trans H;rw [hy306];with_reducible exact H2_)|(have H2_:=(Option.bind_some _ _).symm.trans H;with_reducible exact H2_)|with_reducible exact H|(rw [hy306];exact H)|exact H
               have Ny306:=ak_ hy306
               clear hy306
               have H':=ak_ H
               clear H
               try go_wp2
               have n0_:=ak_ (Kd.R_drew HO_3.out)
               have n1_:=ak_ (below_drew1 HB.out)
               clear HO_3
               clear HB
               have HO_3:=n0_
               have HB:=n1_
               clear n0_ n1_
               have p302 : 0 ≤ ((ji17) : Int):=of_decide_eq_true (by first|(with_reducible assumption)|assumption)
               have q302 : (ji17) < (x3_1.length : Int):=of_decide_eq_true (by first|(with_reducible assumption)|assumption)
               obtain ⟨ad302,e302,hx302_0⟩:=Kd.at_int (Kd.R_reads' HO_3.out).2.2 (ji17) p302 q302
               obtain rfl : (⟨go7,0,none⟩ : Addr) = ad302:=(by injection e302)
               (first|simp only [add_plain] at hx302_0|simp only [add_at] at hx302_0|simp only [Addr.add,Nat.zero_add] at hx302_0|skip)
               replace p302:=eq_true p302
               replace q302:=eq_true q302
               have p303 : 0 ≤ (x4_1 : Int):=of_decide_eq_true (by first|(with_reducible assumption)|assumption)
               have q303 : x4_1 < (l0.length : Int):=of_decide_eq_true (by first|(with_reducible assumption)|assumption)
               obtain ⟨ad303,e303,hx303_0⟩:=Kd.at_int HR0.out x4_1 p303 q303
               have hw303_0:=hx303_0
               obtain rfl : ad299 = ad303:=(by injection e303)
               replace hx303_0:=(HB.out.cell (World.block_lt_of_cell? w _ hx303_0)).trans hx303_0
               replace p303:=eq_true p303
               replace q303:=eq_true q303
               have p304 : 0 ≤ (x4_1 : Int):=of_decide_eq_true (by first|(with_reducible assumption)|assumption)
               have q304 : x4_1 < (x3_1.length : Int):=of_decide_eq_true (by first|(with_reducible assumption)|assumption)
               obtain ⟨ad304,e304,hx304_0⟩:=Kd.at_int (Kd.R_reads' HO_3.out).2.2 x4_1 p304 q304
               obtain rfl : (⟨go7,0,none⟩ : Addr) = ad304:=(by injection e304)
               (first|simp only [add_plain] at hx304_0|simp only [add_at] at hx304_0|simp only [Addr.add,Nat.zero_add] at hx304_0|skip)
               replace p304:=eq_true p304
               replace q304:=eq_true q304
               refine start_ (n:=21) (S:=fun w' => w'.cell? ⟨go7,((ji17)).toNat,none⟩ = some (.int .i64 (rd x3_1 (ji17))) ∧ w'.cell? (ad299.add (x4_1).toNat) = some (.int .i64 (rd l0 x4_1)) ∧ w'.cell? ⟨go7,(x4_1).toNat,none⟩ = some (.int .i64 (rd x3_1 x4_1))) (ds:=[20]) #[false,false,false,false,false,false,false,false,false,false,false,false,false,false,false,false,false,false,false,false,false] (by kernel_rfl) rfl rfl ⟨hx302_0,((HB.out.cell (World.block_lt_of_cell? w _ hw303_0)).trans hw303_0),hx304_0⟩ (fun hHeld => ?_);refine with_tabW lpc_poly.tab6 lpc_poly.bits6 (fun HT_ HW_ => ?_)
               generalize wr.drew = w27 at HO_3 HB hx302_0 hx303_0 hx304_0 hHeld ⊢
               refine pure_ (i:=0) (N:=some 24) (v:=?_) (a':=?_) #[true,false,false,false,false,false,false,false,false,false,false,false,false,false,false,false,false,false,false,false,false] rfl rfl (any_of HT_.out (by kernel_rfl)) (fun _ _ _ h => h) (Or.inl ⟨by rfl,?_⟩) ?_ ?_
               rotate_left
               ·intro w'
                go_simp
                with_reducible rfl
               rotate_left
               ·simp only [Act.put,List.setIfInBounds_toArray,List.set_cons_zero,List.set_cons_succ,i64_w,i32_w]
                rfl
               refine pure_ (i:=1) (N:=some 25) (v:=?_) (a':=?_) #[true,true,false,false,false,false,false,false,false,false,false,false,false,false,false,false,false,false,false,false,false] rfl rfl (any_of HT_.out (by kernel_rfl)) (fun _ _ _ h => h) (Or.inl ⟨by rfl,?_⟩) ?_ ?_
               rotate_left
               ·intro w'
                go_simp
                with_reducible rfl
               rotate_left
               ·simp only [Act.put,List.setIfInBounds_toArray,List.set_cons_zero,List.set_cons_succ,i64_w,i32_w]
                rfl
               refine pure_ (i:=2) (N:=some 26) (v:=?_) (a':=?_) #[true,true,true,false,false,false,false,false,false,false,false,false,false,false,false,false,false,false,false,false,false] rfl rfl (any_of HT_.out (by kernel_rfl)) (fun _ _ _ h => h) (Or.inl ⟨by rfl,?_⟩) ?_ ?_
               rotate_left
               ·intro w'
                go_simp
                with_reducible rfl
               rotate_left
               ·simp only [Act.put,List.setIfInBounds_toArray,List.set_cons_zero,List.set_cons_succ,i64_w,i32_w]
                rfl
               refine pure_ (i:=3) (N:=some 27) (v:=?_) (a':=?_) #[true,true,true,true,false,false,false,false,false,false,false,false,false,false,false,false,false,false,false,false,false] rfl rfl (any_of HT_.out (by kernel_rfl)) (fun _ _ _ h => h) (Or.inl ⟨by rfl,?_⟩) ?_ ?_
               rotate_left
               ·intro w'
                go_simp
                with_reducible rfl
               rotate_left
               ·simp only [Act.put,List.setIfInBounds_toArray,List.set_cons_zero,List.set_cons_succ,i64_w,i32_w]
                rfl
               refine pure_ (i:=4) (N:=some 28) (v:=?_) (a':=?_) #[true,true,true,true,true,false,false,false,false,false,false,false,false,false,false,false,false,false,false,false,false] rfl rfl (any_of HT_.out (by kernel_rfl)) (fun _ _ _ h => h) (Or.inl ⟨by rfl,?_⟩) ?_ ?_
               rotate_left
               ·intro w'
                go_simp
                with_reducible rfl
               rotate_left
               ·simp only [Act.put,List.setIfInBounds_toArray,List.set_cons_zero,List.set_cons_succ,i64_w,i32_w]
                rfl
               refine pure_ (i:=5) (N:=some 29) (v:=?_) (a':=?_) #[true,true,true,true,true,true,false,false,false,false,false,false,false,false,false,false,false,false,false,false,false] rfl rfl (any_of HT_.out (by kernel_rfl)) (fun _ _ _ h => h) (Or.inl ⟨by rfl,?_⟩) ?_ ?_
               rotate_left
               ·intro w'
                go_simp
                with_reducible rfl
               rotate_left
               ·simp only [Act.put,List.setIfInBounds_toArray,List.set_cons_zero,List.set_cons_succ,i64_w,i32_w]
                rfl
               refine pure_ (i:=6) (N:=some 30) (v:=?_) (a':=?_) #[true,true,true,true,true,true,true,false,false,false,false,false,false,false,false,false,false,false,false,false,false] rfl rfl (any_of HT_.out (by kernel_rfl)) (fun _ _ _ h => h) (Or.inl ⟨by rfl,?_⟩) ?_ ?_
               rotate_left
               ·intro w'
                go_simp
                with_reducible rfl
               rotate_left
               ·simp only [Act.put,List.setIfInBounds_toArray,List.set_cons_zero,List.set_cons_succ,i64_w,i32_w]
                rfl
               refine pure_ (i:=9) (N:=some 33) (v:=?_) (a':=?_) #[true,true,true,true,true,true,true,false,false,true,false,false,false,false,false,false,false,false,false,false,false] rfl rfl (any_of HT_.out (by kernel_rfl)) (fun _ _ _ h => h) (Or.inl ⟨by rfl,?_⟩) ?_ ?_
               rotate_left
               ·intro w'
                go_simp
                with_reducible rfl
               rotate_left
               ·simp only [Act.put,List.setIfInBounds_toArray,List.set_cons_zero,List.set_cons_succ,i64_w,i32_w]
                rfl
               refine pure_ (i:=10) (N:=some 34) (v:=?_) (a':=?_) #[true,true,true,true,true,true,true,false,false,true,true,false,false,false,false,false,false,false,false,false,false] rfl rfl (any_of HT_.out (by kernel_rfl)) (fun _ _ _ h => h) (Or.inl ⟨by rfl,?_⟩) ?_ ?_
               rotate_left
               ·intro w'
                go_simp
                with_reducible rfl
               rotate_left
               ·simp only [Act.put,List.setIfInBounds_toArray,List.set_cons_zero,List.set_cons_succ,i64_w,i32_w]
                rfl
               refine pure_ (i:=11) (N:=some 35) (v:=?_) (a':=?_) #[true,true,true,true,true,true,true,false,false,true,true,true,false,false,false,false,false,false,false,false,false] rfl rfl (any_of HT_.out (by kernel_rfl)) (fun _ _ _ h => h) (Or.inl ⟨by rfl,?_⟩) ?_ ?_
               rotate_left
               ·intro w'
                go_simp
                with_reducible rfl
               rotate_left
               ·simp only [Act.put,List.setIfInBounds_toArray,List.set_cons_zero,List.set_cons_succ,i64_w,i32_w]
                rfl
               refine pure_ (i:=13) (N:=some 37) (v:=?_) (a':=?_) #[true,true,true,true,true,true,true,false,false,true,true,true,false,true,false,false,false,false,false,false,false] rfl rfl (any_of HT_.out (by kernel_rfl)) (fun _ _ _ h => h) (Or.inl ⟨by rfl,?_⟩) ?_ ?_
               rotate_left
               ·intro w'
                go_simp
                with_reducible rfl
               rotate_left
               ·simp only [Act.put,List.setIfInBounds_toArray,List.set_cons_zero,List.set_cons_succ,i64_w,i32_w]
                rfl
               refine pure_ (i:=14) (N:=some 38) (v:=?_) (a':=?_) #[true,true,true,true,true,true,true,false,false,true,true,true,false,true,true,false,false,false,false,false,false] rfl rfl (any_of HT_.out (by kernel_rfl)) (fun _ _ _ h => h) (Or.inl ⟨by rfl,?_⟩) ?_ ?_
               rotate_left
               ·intro w'
                go_simp
                with_reducible rfl
               rotate_left
               ·simp only [Act.put,List.setIfInBounds_toArray,List.set_cons_zero,List.set_cons_succ,i64_w,i32_w]
                rfl
               refine pure_ (i:=15) (N:=some 39) (v:=?_) (a':=?_) #[true,true,true,true,true,true,true,false,false,true,true,true,false,true,true,true,false,false,false,false,false] rfl rfl (any_of HT_.out (by kernel_rfl)) (fun _ _ _ h => h) (Or.inl ⟨by rfl,?_⟩) ?_ ?_
               rotate_left
               ·intro w'
                go_simp
                with_reducible rfl
               rotate_left
               ·simp only [Act.put,List.setIfInBounds_toArray,List.set_cons_zero,List.set_cons_succ,i64_w,i32_w]
                rfl
               refine take_ (i:=7) (N:=some 31) (v:=?_) (a':=?_) #[true,true,true,true,true,true,true,true,false,true,true,true,false,true,true,true,false,false,false,false,false] rfl rfl (take_ofW HT_.out HW_.out (by kernel_rfl)) (fun _ _ _ h => h) (Or.inl ⟨by rfl,?_⟩) hHeld ?_ ?_
               rotate_left
               ·rintro w' ⟨s0,s1,s2⟩
                go_simp
                with_reducible rfl
               rotate_left
               ·simp only [Act.put,List.setIfInBounds_toArray,List.set_cons_zero,List.set_cons_succ,i64_w,i32_w]
                rfl
               refine pure_ (i:=8) (N:=some 32) (v:=?_) (a':=?_) #[true,true,true,true,true,true,true,true,true,true,true,true,false,true,true,true,false,false,false,false,false] rfl rfl (any_of HT_.out (by kernel_rfl)) (fun _ _ _ h => h) (Or.inl ⟨by rfl,?_⟩) ?_ ?_
               rotate_left
               ·intro w'
                go_simp
                with_reducible rfl
               rotate_left
               ·simp only [Act.put,List.setIfInBounds_toArray,List.set_cons_zero,List.set_cons_succ,i64_w,i32_w]
                rfl
               refine take_ (i:=12) (N:=some 36) (v:=?_) (a':=?_) #[true,true,true,true,true,true,true,true,true,true,true,true,true,true,true,true,false,false,false,false,false] rfl rfl (take_ofW HT_.out HW_.out (by kernel_rfl)) (fun _ _ _ h => h) (Or.inl ⟨by rfl,?_⟩) hHeld ?_ ?_
               rotate_left
               ·rintro w' ⟨s0,s1,s2⟩
                go_simp
                with_reducible rfl
               rotate_left
               ·simp only [Act.put,List.setIfInBounds_toArray,List.set_cons_zero,List.set_cons_succ,i64_w,i32_w]
                rfl
               refine take_ (i:=16) (N:=some 40) (v:=?_) (a':=?_) #[true,true,true,true,true,true,true,true,true,true,true,true,true,true,true,true,true,false,false,false,false] rfl rfl (take_ofW HT_.out HW_.out (by kernel_rfl)) (fun _ _ _ h => h) (Or.inl ⟨by rfl,?_⟩) hHeld ?_ ?_
               rotate_left
               ·rintro w' ⟨s0,s1,s2⟩
                go_simp
                with_reducible rfl
               rotate_left
               ·simp only [Act.put,List.setIfInBounds_toArray,List.set_cons_zero,List.set_cons_succ,i64_w,i32_w]
                rfl
               refine one_ (i:=17) (N:=some 41) #[true,true,true,true,true,true,true,true,true,true,true,true,true,true,true,true,true,true,false,false,false] rfl rfl (one_of HT_.out (by kernel_rfl)) (by decide) (fun K hK => ?_)
               refine goes_ Try.func25 (by kernel_rfl) rfl #[.int .i64 (rd l0 x4_1),.int .i64 (rd x3_1 x4_1),.int .i64 16] (by rfl) rfl rfl (by (try simp only [List.map_toArray,List.map_cons,List.map_nil]);first|done|rfl|(simp only [List.length_drop,List.length_take];rfl)) ?_
               with_reducible refine (fix_Mul.calls k1 (rd l0 x4_1) (rd x3_1 x4_1) 16 t305 _ A22.out).mono ?_
               rintro e w' ⟨rfl,⟨nd,rfl⟩⟩
               refine ⟨_,rfl,?_⟩
               have p26 : 0 ≤ ((ji23) : Int):=of_decide_eq_true (by first|(with_reducible assumption)|assumption)
               have q26 : ((ji23) : Int) < ((x3_1.length : Int) : Int):=of_decide_eq_true (by first|(with_reducible assumption)|assumption)
               obtain ⟨hx26_0,hf26_0⟩:=Kd.R_celln 0 HO_3.out ((ji23) : Int) p26 q26
               replace p26:=eq_true p26
               replace q26:=eq_true q26
               have HP28:=Kd.R_putn HO_3.out ((ji23) : Int) (wrap64 ((wrap64 (2 * (rd x3_1 (ji17)))) - t305))
               rw [← Ny306.out] at HP28
               have HQ28:=ak_ HP28
               clear HP28
               refine hK.out _ _ ⟨hHeld.1,((HB.out.cell (World.block_lt_of_cell? w _ hw303_0)).trans hw303_0),hHeld.2.2⟩ (fun hHeld => ?_)
               clear hK K
               refine norm_ (a':=?_) ?_ ?_
               rotate_left
               ·show Act.put _ (some 41) _ = _
                simp only [Act.put,List.setIfInBounds_toArray,List.set_cons_zero,List.set_cons_succ,i64_w,i32_w]
                rfl
               refine pure_ (i:=18) (N:=some 42) (v:=?_) (a':=?_) #[true,true,true,true,true,true,true,true,true,true,true,true,true,true,true,true,true,true,true,false,false] rfl rfl (any_of HT_.out (by kernel_rfl)) (fun _ _ _ h => h) (Or.inl ⟨by rfl,?_⟩) ?_ ?_
               rotate_left
               ·intro w'
                go_simp
                with_reducible rfl
               rotate_left
               ·simp only [Act.put,List.setIfInBounds_toArray,List.set_cons_zero,List.set_cons_succ,i64_w,i32_w]
                rfl
               refine pure_ (i:=19) (N:=some 43) (v:=?_) (a':=?_) #[true,true,true,true,true,true,true,true,true,true,true,true,true,true,true,true,true,true,true,true,false] rfl rfl (any_of HT_.out (by kernel_rfl)) (fun _ _ _ h => h) (Or.inl ⟨by rfl,?_⟩) ?_ ?_
               rotate_left
               ·intro w'
                go_simp
                with_reducible rfl
               rotate_left
               ·simp only [Act.put,List.setIfInBounds_toArray,List.set_cons_zero,List.set_cons_succ,i64_w,i32_w]
                rfl
               refine last_ (i:=20) (N:=none) #[true,true,true,true,true,true,true,true,true,true,true,true,true,true,true,true,true,true,true,true,true] rfl rfl (one_of HT_.out (by kernel_rfl)) (by decide) (fun K hK => ?_)
               refine skip_ (w1:=?_) (by rfl) rfl ?_ ?_
               rotate_left
               ·go_simp
                rfl
               refine hK.out _ _ ?_
               clear hK K
               refine done_ (done_of HT_.out (by kernel_rfl)) ?_
               try go_wp2
               go_loopg [5] k1 (fun kq v5 w' => ∃ (x3_2 : List Int) (x5_2 : Int),v5 = .int .i64 x5_2 ∧ Aside0 (lpc_poly.l1 kq l0 x3_2 x4_1 x5_2 = some r) ∧ Aside0 (kq ≤ k1) ∧ Aside0 (Kd.R (Kd.int .i64) 2 w' w.heap.size (fun _ => True) (.slice (some ⟨go7,0,none⟩) x3_1.length co7) x3_2) ∧ Aside0 (Below w.heap.size w w'))
               case atStart => exact ⟨(y306),(x4_1),(by first|rfl|(simp;done)|(simp [*];done)),H',⟨Nat.le_refl _⟩,⟨by (try simp only [hl3_1]);(with_reducible repeat (first|apply ra_|apply rb_|apply rc_));exact HQ28.out⟩,⟨by repeat (first|(with_reducible first|exact HB.out|apply ba_|apply bb_|apply bc_|refine below_set ?_ GB7.out)|exact HB.out)⟩⟩
               case round => as_aux_lemma =>
                clear H'
                try clear c1
                try clear c2
                try clear p2
                try clear q2
                try clear hx2
                try clear qi2
                try clear hf2
                try clear c3
                try clear c3b0
                try clear c3b1
                try clear p3
                try clear q3
                try clear hx3
                try clear c4
                try clear c4b0
                try clear c4b1
                try clear c5
                try clear c5b0
                try clear c5b1
                try clear c6
                try clear c6b0
                try clear c6b1
                try clear p6
                try clear p7
                try clear q7
                try clear hx7
                try clear qi7
                try clear hf7
                try clear c8
                try clear c8b0
                try clear c8b1
                try clear p9
                try clear q9
                try clear hx9
                try clear qi9
                try clear hf9
                try clear c16
                try clear c16b0
                try clear c16h0
                try clear c18
                try clear c18b0
                try clear c18h0
                try clear c19
                try clear c19b0
                try clear c19h0
                try clear c20
                try clear c20b0
                try clear c20h0
                try clear c21
                try clear c21b0
                try clear c21h0
                try clear c24
                try clear c24b0
                try clear c24h0
                try clear c25
                try clear c25b0
                try clear c25h0
                try clear p26
                try clear q26
                try clear hx26
                try clear hf26
                try clear hx26_0
                try clear hx299_0
                try clear hx302_0
                try clear hx303_0
                try clear hx304_0
                try clear hx7_0
                try clear hx9_0
                try clear p2
                try clear p26
                try clear p299
                try clear p302
                try clear p303
                try clear p304
                try clear p6
                try clear p7
                try clear p9
                try clear q2
                try clear q26
                try clear q299
                try clear q302
                try clear q303
                try clear q304
                try clear q7
                try clear q9
                obtain ⟨x3_2,x5_2,rfl,HA,HK2,HO_3,HB⟩:=hrel
                (try simp only [i64_w,i32_w])
                have hl3_2:=(Kd.R_reads' HO_3.out).1
                rw [hl3_2] at HO_3
                (try simp only [hl3_2])
                cases gk with
                | zero => exact absurd HA.out (by simp [lpc_poly.l1])
                | succ k2 =>
                 have H:=HA.out
                 clear HA
                 simp only [lpc_poly.l1] at H
                 by_cases c29 : x5_2 ≥ 2
                 ·rw [if_pos c29] at H
                  have c29b0 : decide (2 ≤ x5_2) = true:=decide_eq_true c29
                  (try (have c29h0:=c29b0;simp only [hl3_1,hl3_2] at c29h0))
                  clear c29
                  by_cases c30 : 0 ≤ x5_2
                  ·rw [if_pos c30] at H
                   have c30b0:=decide_eq_true c30
                   (try (have c30h0:=c30b0;simp only [hl3_1,hl3_2] at c30h0))
                   clear c30
                   by_cases c31 : x5_2 < (x3_2.length : Int)
                   ·rw [if_pos c31] at H
                    have c31b0:=decide_eq_true c31
                    (try (have c31h0:=c31b0;simp only [hl3_1,hl3_2] at c31h0))
                    clear c31
                    obtain ⟨ji32,hji32⟩ : ∃ j_ : Int,(wrap64 (x5_2 - 2)) = j_:=⟨_,rfl⟩
                    replace H : (if 0 ≤ (ji32) then (if (ji32) < (x3_2.length : Int) then (if 0 ≤ x4_1 then (if x4_1 < (l0.length : Int) then (if 0 ≤ (wrap64 (x5_2 - 1)) then (if (wrap64 (x5_2 - 1)) < (x3_2.length : Int) then ((fix_Mul.f k2 (rd l0 x4_1) (rd x3_2 (wrap64 (x5_2 - 1))) 16).bind fun t311 => (lpc_poly.l1 k2 l0 (x3_2.set (x5_2 : Int).toNat (wrap64 ((rd x3_2 x5_2) + (wrap64 ((rd x3_2 (ji32)) - t311))))) x4_1 (wrap64 (x5_2 - 1)))) else (none)) else (none)) else (none)) else (none)) else (none)) else (none)) = some r:=by first|(rw [hji32] at H;exact H)|(simp only [hji32] at H ⊢;exact H)
                    have hji32w : (IntKind.i64.wrap (x5_2 - 2)) = ji32:=(i64_w _).trans hji32
                    by_cases c33 : 0 ≤ (ji32)
                    ·rw [if_pos c33] at H
                     have c33b0:=decide_eq_true c33
                     (try (have c33h0:=c33b0;simp only [hl3_1,hl3_2] at c33h0))
                     clear c33
                     by_cases c34 : (ji32) < (x3_2.length : Int)
                     ·rw [if_pos c34] at H
                      have c34b0:=decide_eq_true c34
                      (try (have c34h0:=c34b0;simp only [hl3_1,hl3_2] at c34h0))
                      clear c34
                      by_cases c35 : 0 ≤ x4_1
                      ·rw [if_pos c35] at H
                       have c35b0:=decide_eq_true c35
                       (try (have c35h0:=c35b0;simp only [hl3_1,hl3_2] at c35h0))
                       clear c35
                       by_cases c36 : x4_1 < (l0.length : Int)
                       ·rw [if_pos c36] at H
                        have c36b0:=decide_eq_true c36
                        (try (have c36h0:=c36b0;simp only [hl3_1,hl3_2] at c36h0))
                        clear c36
                        obtain ⟨ji37,hji37⟩ : ∃ j_ : Int,(wrap64 (x5_2 - 1)) = j_:=⟨_,rfl⟩
                        replace H : (if 0 ≤ (ji37) then (if (ji37) < (x3_2.length : Int) then ((fix_Mul.f k2 (rd l0 x4_1) (rd x3_2 (ji37)) 16).bind fun t311 => (lpc_poly.l1 k2 l0 (x3_2.set (x5_2 : Int).toNat (wrap64 ((rd x3_2 x5_2) + (wrap64 ((rd x3_2 (ji32)) - t311))))) x4_1 ji37)) else (none)) else (none)) = some r:=by first|(rw [hji37] at H;exact H)|(simp only [hji37] at H ⊢;exact H)
                        have hji37w : (IntKind.i64.wrap (x5_2 - 1)) = ji37:=(i64_w _).trans hji37
                        by_cases c38 : 0 ≤ (ji37)
                        ·rw [if_pos c38] at H
                         have c38b0:=decide_eq_true c38
                         (try (have c38h0:=c38b0;simp only [hl3_1,hl3_2] at c38h0))
                         clear c38
                         by_cases c39 : (ji37) < (x3_2.length : Int)
                         ·rw [if_pos c39] at H
                          have c39b0:=decide_eq_true c39
                          (try (have c39h0:=c39b0;simp only [hl3_1,hl3_2] at c39h0))
                          clear c39
                          replace H:=Option.bind_eq_some_iff.mp H
                          obtain ⟨t311,A400,H⟩:=H
                          (try dsimp only at H)
                          have A40:=ak_ A400
                          clear A400
                          obtain ⟨y312,hy312⟩ : ∃ y_ : List Int,y_ = (x3_2.set (x5_2 : Int).toNat (wrap64 ((rd x3_2 x5_2) + (wrap64 ((rd x3_2 (ji32)) - t311))))):=⟨_,rfl⟩
                          replace H : (lpc_poly.l1 k2 l0 y312 x4_1 ji37) = some r:=by first|(rw [hy312];with_reducible exact H)|(have H2_:=(Option.bind_some _ _).symm.trans H;rw [hy312];with_reducible exact H2_)|(have H2_:=(Option.bind_some _ _).symm.trans H;with_reducible exact H2_)|with_reducible exact H|(rw [hy312];exact H)|exact H
                          have Ny312:=ak_ hy312
                          clear hy312
                          have H':=ak_ H
                          clear H
                          try go_wp2
                          have n0_:=ak_ (Kd.R_drew HO_3.out)
                          have n1_:=ak_ (below_drew1 HB.out)
                          clear HO_3
                          clear HB
                          have HO_3:=n0_
                          have HB:=n1_
                          clear n0_ n1_
                          have p307 : 0 ≤ (x5_2 : Int):=of_decide_eq_true (by first|(with_reducible assumption)|assumption)
                          have q307 : x5_2 < (x3_2.length : Int):=of_decide_eq_true (by first|(with_reducible assumption)|assumption)
                          obtain ⟨ad307,e307,hx307_0⟩:=Kd.at_int (Kd.R_reads' HO_3.out).2.2 x5_2 p307 q307
                          obtain rfl : (⟨go7,0,none⟩ : Addr) = ad307:=(by injection e307)
                          (first|simp only [add_plain] at hx307_0|simp only [add_at] at hx307_0|simp only [Addr.add,Nat.zero_add] at hx307_0|skip)
                          replace p307:=eq_true p307
                          replace q307:=eq_true q307
                          have p308 : 0 ≤ ((ji32) : Int):=of_decide_eq_true (by first|(with_reducible assumption)|assumption)
                          have q308 : (ji32) < (x3_2.length : Int):=of_decide_eq_true (by first|(with_reducible assumption)|assumption)
                          obtain ⟨ad308,e308,hx308_0⟩:=Kd.at_int (Kd.R_reads' HO_3.out).2.2 (ji32) p308 q308
                          obtain rfl : (⟨go7,0,none⟩ : Addr) = ad308:=(by injection e308)
                          (first|simp only [add_plain] at hx308_0|simp only [add_at] at hx308_0|simp only [Addr.add,Nat.zero_add] at hx308_0|skip)
                          replace p308:=eq_true p308
                          replace q308:=eq_true q308
                          have p309 : 0 ≤ (x4_1 : Int):=of_decide_eq_true (by first|(with_reducible assumption)|assumption)
                          have q309 : x4_1 < (l0.length : Int):=of_decide_eq_true (by first|(with_reducible assumption)|assumption)
                          obtain ⟨ad309,e309,hx309_0⟩:=Kd.at_int HR0.out x4_1 p309 q309
                          have hw309_0:=hx309_0
                          obtain rfl : ad299 = ad309:=(by injection e309)
                          replace hx309_0:=(HB.out.cell (World.block_lt_of_cell? w _ hx309_0)).trans hx309_0
                          replace p309:=eq_true p309
                          replace q309:=eq_true q309
                          have p310 : 0 ≤ ((ji37) : Int):=of_decide_eq_true (by first|(with_reducible assumption)|assumption)
                          have q310 : (ji37) < (x3_2.length : Int):=of_decide_eq_true (by first|(with_reducible assumption)|assumption)
                          obtain ⟨ad310,e310,hx310_0⟩:=Kd.at_int (Kd.R_reads' HO_3.out).2.2 (ji37) p310 q310
                          obtain rfl : (⟨go7,0,none⟩ : Addr) = ad310:=(by injection e310)
                          (first|simp only [add_plain] at hx310_0|simp only [add_at] at hx310_0|simp only [Addr.add,Nat.zero_add] at hx310_0|skip)
                          replace p310:=eq_true p310
                          replace q310:=eq_true q310
                          refine start_ (n:=23) (S:=fun w' => w'.cell? ⟨go7,(x5_2).toNat,none⟩ = some (.int .i64 (rd x3_2 x5_2)) ∧ w'.cell? ⟨go7,((ji32)).toNat,none⟩ = some (.int .i64 (rd x3_2 (ji32))) ∧ w'.cell? (ad299.add (x4_1).toNat) = some (.int .i64 (rd l0 x4_1)) ∧ w'.cell? ⟨go7,((ji37)).toNat,none⟩ = some (.int .i64 (rd x3_2 (ji37)))) (ds:=[22]) #[false,false,false,false,false,false,false,false,false,false,false,false,false,false,false,false,false,false,false,false,false,false,false] (by kernel_rfl) rfl rfl ⟨hx307_0,hx308_0,((HB.out.cell (World.block_lt_of_cell? w _ hw309_0)).trans hw309_0),hx310_0⟩ (fun hHeld => ?_);refine with_tabW lpc_poly.tab10 lpc_poly.bits10 (fun HT_ HW_ => ?_)
                          generalize wr.drew = w42 at HO_3 HB hx307_0 hx308_0 hx309_0 hx310_0 hHeld ⊢
                          refine pure_ (i:=0) (N:=some 49) (v:=?_) (a':=?_) #[true,false,false,false,false,false,false,false,false,false,false,false,false,false,false,false,false,false,false,false,false,false,false] rfl rfl (any_of HT_.out (by kernel_rfl)) (fun _ _ _ h => h) (Or.inl ⟨by rfl,?_⟩) ?_ ?_
                          rotate_left
                          ·intro w'
                           go_simp
                           with_reducible rfl
                          rotate_left
                          ·simp only [Act.put,List.setIfInBounds_toArray,List.set_cons_zero,List.set_cons_succ,i64_w,i32_w]
                           rfl
                          refine pure_ (i:=1) (N:=some 50) (v:=?_) (a':=?_) #[true,true,false,false,false,false,false,false,false,false,false,false,false,false,false,false,false,false,false,false,false,false,false] rfl rfl (any_of HT_.out (by kernel_rfl)) (fun _ _ _ h => h) (Or.inl ⟨by rfl,?_⟩) ?_ ?_
                          rotate_left
                          ·intro w'
                           go_simp
                           with_reducible rfl
                          rotate_left
                          ·simp only [Act.put,List.setIfInBounds_toArray,List.set_cons_zero,List.set_cons_succ,i64_w,i32_w]
                           rfl
                          refine pure_ (i:=2) (N:=some 51) (v:=?_) (a':=?_) #[true,true,true,false,false,false,false,false,false,false,false,false,false,false,false,false,false,false,false,false,false,false,false] rfl rfl (any_of HT_.out (by kernel_rfl)) (fun _ _ _ h => h) (Or.inl ⟨by rfl,?_⟩) ?_ ?_
                          rotate_left
                          ·intro w'
                           go_simp
                           with_reducible rfl
                          rotate_left
                          ·simp only [Act.put,List.setIfInBounds_toArray,List.set_cons_zero,List.set_cons_succ,i64_w,i32_w]
                           rfl
                          refine pure_ (i:=4) (N:=some 53) (v:=?_) (a':=?_) #[true,true,true,false,true,false,false,false,false,false,false,false,false,false,false,false,false,false,false,false,false,false,false] rfl rfl (any_of HT_.out (by kernel_rfl)) (fun _ _ _ h => h) (Or.inl ⟨by rfl,?_⟩) ?_ ?_
                          rotate_left
                          ·intro w'
                           go_simp
                           with_reducible rfl
                          rotate_left
                          ·simp only [Act.put,List.setIfInBounds_toArray,List.set_cons_zero,List.set_cons_succ,i64_w,i32_w]
                           rfl
                          refine pure_ (i:=5) (N:=some 54) (v:=?_) (a':=?_) #[true,true,true,false,true,true,false,false,false,false,false,false,false,false,false,false,false,false,false,false,false,false,false] rfl rfl (any_of HT_.out (by kernel_rfl)) (fun _ _ _ h => h) (Or.inl ⟨by rfl,?_⟩) ?_ ?_
                          rotate_left
                          ·intro w'
                           go_simp
                           with_reducible rfl
                          rotate_left
                          ·simp only [Act.put,List.setIfInBounds_toArray,List.set_cons_zero,List.set_cons_succ,i64_w,i32_w]
                           rfl
                          refine pure_ (i:=6) (N:=some 55) (v:=?_) (a':=?_) #[true,true,true,false,true,true,true,false,false,false,false,false,false,false,false,false,false,false,false,false,false,false,false] rfl rfl (any_of HT_.out (by kernel_rfl)) (fun _ _ _ h => h) (Or.inl ⟨by rfl,?_⟩) ?_ ?_
                          rotate_left
                          ·intro w'
                           go_simp
                           with_reducible rfl
                          rotate_left
                          ·simp only [Act.put,List.setIfInBounds_toArray,List.set_cons_zero,List.set_cons_succ,i64_w,i32_w]
                           rfl
                          refine pure_ (i:=7) (N:=some 56) (v:=?_) (a':=?_) #[true,true,true,false,true,true,true,true,false,false,false,false,false,false,false,false,false,false,false,false,false,false,false] rfl rfl (any_of HT_.out (by kernel_rfl)) (fun _ _ _ h => h) (Or.inl ⟨by rfl,?_⟩) ?_ ?_
                          rotate_left
                          ·intro w'
                           go_simp
                           with_reducible rfl
                          rotate_left
                          ·simp only [Act.put,List.setIfInBounds_toArray,List.set_cons_zero,List.set_cons_succ,i64_w,i32_w]
                           rfl
                          refine pure_ (i:=9) (N:=some 58) (v:=?_) (a':=?_) #[true,true,true,false,true,true,true,true,false,true,false,false,false,false,false,false,false,false,false,false,false,false,false] rfl rfl (any_of HT_.out (by kernel_rfl)) (fun _ _ _ h => h) (Or.inl ⟨by rfl,?_⟩) ?_ ?_
                          rotate_left
                          ·intro w'
                           go_simp
                           with_reducible rfl
                          rotate_left
                          ·simp only [Act.put,List.setIfInBounds_toArray,List.set_cons_zero,List.set_cons_succ,i64_w,i32_w]
                           rfl
                          refine pure_ (i:=10) (N:=some 59) (v:=?_) (a':=?_) #[true,true,true,false,true,true,true,true,false,true,true,false,false,false,false,false,false,false,false,false,false,false,false] rfl rfl (any_of HT_.out (by kernel_rfl)) (fun _ _ _ h => h) (Or.inl ⟨by rfl,?_⟩) ?_ ?_
                          rotate_left
                          ·intro w'
                           go_simp
                           with_reducible rfl
                          rotate_left
                          ·simp only [Act.put,List.setIfInBounds_toArray,List.set_cons_zero,List.set_cons_succ,i64_w,i32_w]
                           rfl
                          refine pure_ (i:=11) (N:=some 60) (v:=?_) (a':=?_) #[true,true,true,false,true,true,true,true,false,true,true,true,false,false,false,false,false,false,false,false,false,false,false] rfl rfl (any_of HT_.out (by kernel_rfl)) (fun _ _ _ h => h) (Or.inl ⟨by rfl,?_⟩) ?_ ?_
                          rotate_left
                          ·intro w'
                           go_simp
                           with_reducible rfl
                          rotate_left
                          ·simp only [Act.put,List.setIfInBounds_toArray,List.set_cons_zero,List.set_cons_succ,i64_w,i32_w]
                           rfl
                          refine pure_ (i:=13) (N:=some 62) (v:=?_) (a':=?_) #[true,true,true,false,true,true,true,true,false,true,true,true,false,true,false,false,false,false,false,false,false,false,false] rfl rfl (any_of HT_.out (by kernel_rfl)) (fun _ _ _ h => h) (Or.inl ⟨by rfl,?_⟩) ?_ ?_
                          rotate_left
                          ·intro w'
                           go_simp
                           with_reducible rfl
                          rotate_left
                          ·simp only [Act.put,List.setIfInBounds_toArray,List.set_cons_zero,List.set_cons_succ,i64_w,i32_w]
                           rfl
                          refine pure_ (i:=14) (N:=some 63) (v:=?_) (a':=?_) #[true,true,true,false,true,true,true,true,false,true,true,true,false,true,true,false,false,false,false,false,false,false,false] rfl rfl (any_of HT_.out (by kernel_rfl)) (fun _ _ _ h => h) (Or.inl ⟨by rfl,?_⟩) ?_ ?_
                          rotate_left
                          ·intro w'
                           go_simp
                           with_reducible rfl
                          rotate_left
                          ·simp only [Act.put,List.setIfInBounds_toArray,List.set_cons_zero,List.set_cons_succ,i64_w,i32_w]
                           rfl
                          refine pure_ (i:=15) (N:=some 64) (v:=?_) (a':=?_) #[true,true,true,false,true,true,true,true,false,true,true,true,false,true,true,true,false,false,false,false,false,false,false] rfl rfl (any_of HT_.out (by kernel_rfl)) (fun _ _ _ h => h) (Or.inl ⟨by rfl,?_⟩) ?_ ?_
                          rotate_left
                          ·intro w'
                           go_simp
                           with_reducible rfl
                          rotate_left
                          ·simp only [Act.put,List.setIfInBounds_toArray,List.set_cons_zero,List.set_cons_succ,i64_w,i32_w]
                           rfl
                          refine pure_ (i:=16) (N:=some 65) (v:=?_) (a':=?_) #[true,true,true,false,true,true,true,true,false,true,true,true,false,true,true,true,true,false,false,false,false,false,false] rfl rfl (any_of HT_.out (by kernel_rfl)) (fun _ _ _ h => h) (Or.inl ⟨by rfl,?_⟩) ?_ ?_
                          rotate_left
                          ·intro w'
                           go_simp
                           with_reducible rfl
                          rotate_left
                          ·simp only [Act.put,List.setIfInBounds_toArray,List.set_cons_zero,List.set_cons_succ,i64_w,i32_w]
                           rfl
                          refine take_ (i:=3) (N:=some 52) (v:=?_) (a':=?_) #[true,true,true,true,true,true,true,true,false,true,true,true,false,true,true,true,true,false,false,false,false,false,false] rfl rfl (take_ofW HT_.out HW_.out (by kernel_rfl)) (fun _ _ _ h => h) (Or.inl ⟨by rfl,?_⟩) hHeld ?_ ?_
                          rotate_left
                          ·rintro w' ⟨s0,s1,s2,s3⟩
                           go_simp
                           with_reducible rfl
                          rotate_left
                          ·simp only [Act.put,List.setIfInBounds_toArray,List.set_cons_zero,List.set_cons_succ,i64_w,i32_w]
                           rfl
                          refine take_ (i:=8) (N:=some 57) (v:=?_) (a':=?_) #[true,true,true,true,true,true,true,true,true,true,true,true,false,true,true,true,true,false,false,false,false,false,false] rfl rfl (take_ofW HT_.out HW_.out (by kernel_rfl)) (fun _ _ _ h => h) (Or.inl ⟨by rfl,?_⟩) hHeld ?_ ?_
                          rotate_left
                          ·rintro w' ⟨s0,s1,s2,s3⟩
                           go_simp
                           with_reducible rfl
                          rotate_left
                          ·simp only [Act.put,List.setIfInBounds_toArray,List.set_cons_zero,List.set_cons_succ,i64_w,i32_w]
                           rfl
                          refine take_ (i:=12) (N:=some 61) (v:=?_) (a':=?_) #[true,true,true,true,true,true,true,true,true,true,true,true,true,true,true,true,true,false,false,false,false,false,false] rfl rfl (take_ofW HT_.out HW_.out (by kernel_rfl)) (fun _ _ _ h => h) (Or.inl ⟨by rfl,?_⟩) hHeld ?_ ?_
                          rotate_left
                          ·rintro w' ⟨s0,s1,s2,s3⟩
                           go_simp
                           with_reducible rfl
                          rotate_left
                          ·simp only [Act.put,List.setIfInBounds_toArray,List.set_cons_zero,List.set_cons_succ,i64_w,i32_w]
                           rfl
                          refine take_ (i:=17) (N:=some 66) (v:=?_) (a':=?_) #[true,true,true,true,true,true,true,true,true,true,true,true,true,true,true,true,true,true,false,false,false,false,false] rfl rfl (take_ofW HT_.out HW_.out (by kernel_rfl)) (fun _ _ _ h => h) (Or.inl ⟨by rfl,?_⟩) hHeld ?_ ?_
                          rotate_left
                          ·rintro w' ⟨s0,s1,s2,s3⟩
                           go_simp
                           with_reducible rfl
                          rotate_left
                          ·simp only [Act.put,List.setIfInBounds_toArray,List.set_cons_zero,List.set_cons_succ,i64_w,i32_w]
                           rfl
                          refine one_ (i:=18) (N:=some 67) #[true,true,true,true,true,true,true,true,true,true,true,true,true,true,true,true,true,true,true,false,false,false,false] rfl rfl (one_of HT_.out (by kernel_rfl)) (by decide) (fun K hK => ?_)
                          refine goes_ Try.func25 (by kernel_rfl) rfl #[.int .i64 (rd l0 x4_1),.int .i64 (rd x3_2 (ji37)),.int .i64 16] (by rfl) rfl rfl (by (try simp only [List.map_toArray,List.map_cons,List.map_nil]);first|done|(simp only [hji37];rfl)|rfl|(simp only [List.length_drop,List.length_take];rfl)) ?_
                          with_reducible refine (fix_Mul.calls k2 (rd l0 x4_1) (rd x3_2 (ji37)) 16 t311 _ A40.out).mono ?_
                          rintro e w' ⟨rfl,⟨nd,rfl⟩⟩
                          refine ⟨_,rfl,?_⟩
                          have p41 : 0 ≤ (x5_2 : Int):=of_decide_eq_true (by first|(with_reducible assumption)|assumption)
                          have q41 : (x5_2 : Int) < ((x3_2.length : Int) : Int):=of_decide_eq_true (by first|(with_reducible assumption)|assumption)
                          obtain ⟨hx41_0,hf41_0⟩:=Kd.R_celln 0 HO_3.out (x5_2 : Int) p41 q41
                          replace p41:=eq_true p41
                          replace q41:=eq_true q41
                          have HP43:=Kd.R_putn HO_3.out (x5_2 : Int) (wrap64 ((rd x3_2 x5_2) + (wrap64 ((rd x3_2 (ji32)) - t311))))
                          rw [← Ny312.out] at HP43
                          have HQ43:=ak_ HP43
                          clear HP43
                          refine hK.out _ _ ⟨hHeld.1,hHeld.2.1,((HB.out.cell (World.block_lt_of_cell? w _ hw309_0)).trans hw309_0),hHeld.2.2.2⟩ (fun hHeld => ?_)
                          clear hK K
                          refine norm_ (a':=?_) ?_ ?_
                          rotate_left
                          ·show Act.put _ (some 67) _ = _
                           simp only [Act.put,List.setIfInBounds_toArray,List.set_cons_zero,List.set_cons_succ,i64_w,i32_w]
                           rfl
                          refine pure_ (i:=19) (N:=some 68) (v:=?_) (a':=?_) #[true,true,true,true,true,true,true,true,true,true,true,true,true,true,true,true,true,true,true,true,false,false,false] rfl rfl (any_of HT_.out (by kernel_rfl)) (fun _ _ _ h => h) (Or.inl ⟨by rfl,?_⟩) ?_ ?_
                          rotate_left
                          ·intro w'
                           go_simp
                           with_reducible rfl
                          rotate_left
                          ·simp only [Act.put,List.setIfInBounds_toArray,List.set_cons_zero,List.set_cons_succ,i64_w,i32_w]
                           rfl
                          refine pure_ (i:=20) (N:=some 69) (v:=?_) (a':=?_) #[true,true,true,true,true,true,true,true,true,true,true,true,true,true,true,true,true,true,true,true,true,false,false] rfl rfl (any_of HT_.out (by kernel_rfl)) (fun _ _ _ h => h) (Or.inl ⟨by rfl,?_⟩) ?_ ?_
                          rotate_left
                          ·intro w'
                           go_simp
                           with_reducible rfl
                          rotate_left
                          ·simp only [Act.put,List.setIfInBounds_toArray,List.set_cons_zero,List.set_cons_succ,i64_w,i32_w]
                           rfl
                          refine pure_ (i:=21) (N:=some 70) (v:=?_) (a':=?_) #[true,true,true,true,true,true,true,true,true,true,true,true,true,true,true,true,true,true,true,true,true,true,false] rfl rfl (any_of HT_.out (by kernel_rfl)) (fun _ _ _ h => h) (Or.inl ⟨by rfl,?_⟩) ?_ ?_
                          rotate_left
                          ·intro w'
                           go_simp
                           with_reducible rfl
                          rotate_left
                          ·simp only [Act.put,List.setIfInBounds_toArray,List.set_cons_zero,List.set_cons_succ,i64_w,i32_w]
                           rfl
                          refine last_ (i:=22) (N:=none) #[true,true,true,true,true,true,true,true,true,true,true,true,true,true,true,true,true,true,true,true,true,true,true] rfl rfl (one_of HT_.out (by kernel_rfl)) (by decide) (fun K hK => ?_)
                          refine skip_ (w1:=?_) (by rfl) rfl ?_ ?_
                          rotate_left
                          ·go_simp
                           rfl
                          refine hK.out _ _ ?_
                          clear hK K
                          refine done_ (done_of HT_.out (by kernel_rfl)) ?_
                          try go_wp2
                          (try simp only [← hl3_2])
                          go_roundg k2
                          case measure => have:=HK1.out;have:=HK2.out;omega
                          case rel => exact ⟨(y312),(ji37),(by first|rfl|(simp;done)|(simp only [← hji37] <;> (first|rfl|simp))|(simp [*];done)),H',⟨by have:=HK1.out;have:=HK2.out;omega⟩,⟨by (try simp only [hl3_1]);(try simp only [hl3_2]);(with_reducible repeat (first|apply ra_|apply rb_|apply rc_));exact HQ43.out⟩,⟨by repeat (first|(with_reducible first|exact HB.out|apply ba_|apply bb_|apply bc_|refine below_set ?_ GB7.out)|exact HB.out)⟩⟩
                         ·rw [if_neg c39] at H
                          exact absurd H (by simp)
                        ·rw [if_neg c38] at H
                         exact absurd H (by simp)
                       ·rw [if_neg c36] at H
                        exact absurd H (by simp)
                      ·rw [if_neg c35] at H
                       exact absurd H (by simp)
                     ·rw [if_neg c34] at H
                      exact absurd H (by simp)
                    ·rw [if_neg c33] at H
                     exact absurd H (by simp)
                   ·rw [if_neg c31] at H
                    exact absurd H (by simp)
                  ·rw [if_neg c30] at H
                   exact absurd H (by simp)
                 ·rw [if_neg c29] at H
                  have c29b0 : decide (2 ≤ x5_2) = false:=decide_eq_false c29
                  (try (have c29h0:=c29b0;simp only [hl3_1,hl3_2] at c29h0))
                  clear c29
                  by_cases c44 : 1 < (x3_2.length : Int)
                  ·rw [if_pos c44] at H
                   have c44b0:=decide_eq_true c44
                   have c44b1 : decide (1 < x3_2.length) = true:=decide_eq_true (by omega)
                   (try (have c44h0:=c44b0;simp only [hl3_1,hl3_2] at c44h0))
                   (try (have c44h1:=c44b1;simp only [hl3_1,hl3_2] at c44h1))
                   clear c44
                   by_cases c45 : 0 ≤ x4_1
                   ·rw [if_pos c45] at H
                    have c45b0:=decide_eq_true c45
                    (try (have c45h0:=c45b0;simp only [hl3_1,hl3_2] at c45h0))
                    clear c45
                    by_cases c46 : x4_1 < (l0.length : Int)
                    ·rw [if_pos c46] at H
                     have c46b0:=decide_eq_true c46
                     (try (have c46h0:=c46b0;simp only [hl3_1,hl3_2] at c46h0))
                     clear c46
                     obtain ⟨y315,hy315⟩ : ∃ y_ : List Int,y_ = (x3_2.set (1 : Int).toNat (wrap64 ((rd x3_2 1) - (rd l0 x4_1)))):=⟨_,rfl⟩
                     replace H : (lpc_poly.l0 k2 l0 y315 (wrap64 (x4_1 + 1))) = some r:=by first|(rw [hy315];with_reducible exact H)|(have H2_:=(Option.bind_some _ _).symm.trans H;rw [hy315];with_reducible exact H2_)|(have H2_:=(Option.bind_some _ _).symm.trans H;with_reducible exact H2_)|with_reducible exact H|(rw [hy315];exact H)|exact H
                     have Ny315:=ak_ hy315
                     clear hy315
                     have H':=ak_ H
                     clear H
                     try go_wp2
                     have n0_:=ak_ (Kd.R_drew HO_3.out)
                     have n1_:=ak_ (below_drew1 HB.out)
                     clear HO_3
                     clear HB
                     have HO_3:=n0_
                     have HB:=n1_
                     clear n0_ n1_
                     have p313 : 0 ≤ (1 : Int):=(by omega)
                     have q313 : 1 < (x3_2.length : Int):=of_decide_eq_true (by first|(with_reducible assumption)|assumption)
                     obtain ⟨ad313,e313,hx313_0⟩:=Kd.at_int (Kd.R_reads' HO_3.out).2.2 1 p313 q313
                     obtain rfl : (⟨go7,0,none⟩ : Addr) = ad313:=(by injection e313)
                     (first|simp only [add_plain] at hx313_0|simp only [add_at] at hx313_0|simp only [Addr.add,Nat.zero_add] at hx313_0|skip)
                     have qi313 : (1 < x3_2.length) = True:=eq_true (by omega)
                     (try rw [show ((1 : Int)).toNat = 1 from rfl] at hx313_0)
                     replace p313:=eq_true p313
                     replace q313:=eq_true q313
                     have p314 : 0 ≤ (x4_1 : Int):=of_decide_eq_true (by first|(with_reducible assumption)|assumption)
                     have q314 : x4_1 < (l0.length : Int):=of_decide_eq_true (by first|(with_reducible assumption)|assumption)
                     obtain ⟨ad314,e314,hx314_0⟩:=Kd.at_int HR0.out x4_1 p314 q314
                     have hw314_0:=hx314_0
                     obtain rfl : ad299 = ad314:=(by injection e314)
                     replace hx314_0:=(HB.out.cell (World.block_lt_of_cell? w _ hx314_0)).trans hx314_0
                     replace p314:=eq_true p314
                     replace q314:=eq_true q314
                     have p47 : 0 ≤ (1 : Int):=(by omega)
                     have q47 : (1 : Int) < ((x3_2.length : Int) : Int):=of_decide_eq_true (by first|(with_reducible assumption)|assumption)
                     have qi47 : (1 < x3_2.length) = True:=eq_true (by omega)
                     obtain ⟨hx47_0,hf47_0⟩:=Kd.R_celln 0 HO_3.out (1 : Int) p47 q47
                     (try rw [show ((1 : Int)).toNat = 1 from rfl] at hx47_0)
                     (try simp only [Nat.reduceMul,Nat.zero_mul,Nat.zero_add,Nat.reduceAdd] at hx47_0)
                     (try rw [show ((1 : Int)).toNat = 1 from rfl] at hf47_0)
                     (try simp only [Nat.reduceMul,Nat.zero_mul,Nat.zero_add,Nat.reduceAdd] at hf47_0)
                     replace p47:=eq_true p47
                     replace q47:=eq_true q47
                     have HP49:=Kd.R_putn HO_3.out (1 : Int) (wrap64 ((rd x3_2 1) - (rd l0 x4_1)))
                     rw [← Ny315.out] at HP49
                     have HQ49:=ak_ HP49
                     clear HP49
                     refine start_ (n:=10) (S:=fun w' => w'.cell? ⟨go7,1,none⟩ = some (.int .i64 (rd x3_2 1)) ∧ w'.cell? (ad299.add (x4_1).toNat) = some (.int .i64 (rd l0 x4_1))) (ds:=[9]) #[false,false,false,false,false,false,false,false,false,false] (by kernel_rfl) rfl rfl ⟨hx313_0,((HB.out.cell (World.block_lt_of_cell? w _ hw314_0)).trans hw314_0)⟩ (fun hHeld => ?_);refine with_tabW lpc_poly.tab11 lpc_poly.bits11 (fun HT_ HW_ => ?_)
                     generalize wr.drew = w48 at HO_3 HB HQ49 hf47_0 hx313_0 hx314_0 hx47_0 hHeld ⊢
                     refine pure_ (i:=0) (N:=some 71) (v:=?_) (a':=?_) #[true,false,false,false,false,false,false,false,false,false] rfl rfl (any_of HT_.out (by kernel_rfl)) (fun _ _ _ h => h) (Or.inl ⟨by rfl,?_⟩) ?_ ?_
                     rotate_left
                     ·intro w'
                      go_simp
                      with_reducible rfl
                     rotate_left
                     ·simp only [Act.put,List.setIfInBounds_toArray,List.set_cons_zero,List.set_cons_succ,i64_w,i32_w]
                      rfl
                     refine pure_ (i:=1) (N:=some 72) (v:=?_) (a':=?_) #[true,true,false,false,false,false,false,false,false,false] rfl rfl (any_of HT_.out (by kernel_rfl)) (fun _ _ _ h => h) (Or.inl ⟨by rfl,?_⟩) ?_ ?_
                     rotate_left
                     ·intro w'
                      go_simp
                      with_reducible rfl
                     rotate_left
                     ·simp only [Act.put,List.setIfInBounds_toArray,List.set_cons_zero,List.set_cons_succ,i64_w,i32_w]
                      rfl
                     refine pure_ (i:=3) (N:=some 74) (v:=?_) (a':=?_) #[true,true,false,true,false,false,false,false,false,false] rfl rfl (any_of HT_.out (by kernel_rfl)) (fun _ _ _ h => h) (Or.inl ⟨by rfl,?_⟩) ?_ ?_
                     rotate_left
                     ·intro w'
                      go_simp
                      with_reducible rfl
                     rotate_left
                     ·simp only [Act.put,List.setIfInBounds_toArray,List.set_cons_zero,List.set_cons_succ,i64_w,i32_w]
                      rfl
                     refine pure_ (i:=4) (N:=some 75) (v:=?_) (a':=?_) #[true,true,false,true,true,false,false,false,false,false] rfl rfl (any_of HT_.out (by kernel_rfl)) (fun _ _ _ h => h) (Or.inl ⟨by rfl,?_⟩) ?_ ?_
                     rotate_left
                     ·intro w'
                      go_simp
                      with_reducible rfl
                     rotate_left
                     ·simp only [Act.put,List.setIfInBounds_toArray,List.set_cons_zero,List.set_cons_succ,i64_w,i32_w]
                      rfl
                     refine pure_ (i:=5) (N:=some 76) (v:=?_) (a':=?_) #[true,true,false,true,true,true,false,false,false,false] rfl rfl (any_of HT_.out (by kernel_rfl)) (fun _ _ _ h => h) (Or.inl ⟨by rfl,?_⟩) ?_ ?_
                     rotate_left
                     ·intro w'
                      go_simp
                      with_reducible rfl
                     rotate_left
                     ·simp only [Act.put,List.setIfInBounds_toArray,List.set_cons_zero,List.set_cons_succ,i64_w,i32_w]
                      rfl
                     refine take_ (i:=2) (N:=some 73) (v:=?_) (a':=?_) #[true,true,true,true,true,true,false,false,false,false] rfl rfl (take_ofW HT_.out HW_.out (by kernel_rfl)) (fun _ _ _ h => h) (Or.inl ⟨by rfl,?_⟩) hHeld ?_ ?_
                     rotate_left
                     ·rintro w' ⟨s0,s1⟩
                      go_simp
                      with_reducible rfl
                     rotate_left
                     ·simp only [Act.put,List.setIfInBounds_toArray,List.set_cons_zero,List.set_cons_succ,i64_w,i32_w]
                      rfl
                     refine take_ (i:=6) (N:=some 77) (v:=?_) (a':=?_) #[true,true,true,true,true,true,true,false,false,false] rfl rfl (take_ofW HT_.out HW_.out (by kernel_rfl)) (fun _ _ _ h => h) (Or.inl ⟨by rfl,?_⟩) hHeld ?_ ?_
                     rotate_left
                     ·rintro w' ⟨s0,s1⟩
                      go_simp
                      with_reducible rfl
                     rotate_left
                     ·simp only [Act.put,List.setIfInBounds_toArray,List.set_cons_zero,List.set_cons_succ,i64_w,i32_w]
                      rfl
                     refine pure_ (i:=7) (N:=some 78) (v:=?_) (a':=?_) #[true,true,true,true,true,true,true,true,false,false] rfl rfl (any_of HT_.out (by kernel_rfl)) (fun _ _ _ h => h) (Or.inl ⟨by rfl,?_⟩) ?_ ?_
                     rotate_left
                     ·intro w'
                      go_simp
                      with_reducible rfl
                     rotate_left
                     ·simp only [Act.put,List.setIfInBounds_toArray,List.set_cons_zero,List.set_cons_succ,i64_w,i32_w]
                      rfl
                     refine pure_ (i:=8) (N:=some 79) (v:=?_) (a':=?_) #[true,true,true,true,true,true,true,true,true,false] rfl rfl (any_of HT_.out (by kernel_rfl)) (fun _ _ _ h => h) (Or.inl ⟨by rfl,?_⟩) ?_ ?_
                     rotate_left
                     ·intro w'
                      go_simp
                      with_reducible rfl
                     rotate_left
                     ·simp only [Act.put,List.setIfInBounds_toArray,List.set_cons_zero,List.set_cons_succ,i64_w,i32_w]
                      rfl
                     refine last_ (i:=9) (N:=none) #[true,true,true,true,true,true,true,true,true,true] rfl rfl (one_of HT_.out (by kernel_rfl)) (by decide) (fun K hK => ?_)
                     refine skip_ (w1:=?_) (by rfl) rfl ?_ ?_
                     rotate_left
                     ·go_simp
                      rfl
                     refine hK.out _ _ ?_
                     clear hK K
                     refine done_ (done_of HT_.out (by kernel_rfl)) ?_
                     try go_wp2
                     (try simp only [← hl3_1,← hl3_2])
                     go_roundg k2
                     case measure => have:=HK1.out;have:=HK2.out;omega
                     case rel => exact ⟨(y315),(wrap64 (x4_1 + 1)),(by first|rfl|(simp;done)|(simp [*];done)),H',⟨by have:=HK1.out;have:=HK2.out;omega⟩,⟨by (try simp only [hl3_1]);(try simp only [hl3_2]);(with_reducible repeat (first|apply ra_|apply rb_|apply rc_));exact HQ49.out⟩,⟨by repeat (first|(with_reducible first|exact HB.out|apply ba_|apply bb_|apply bc_|refine below_set ?_ GB7.out)|exact HB.out)⟩⟩
                    ·rw [if_neg c46] at H
                     exact absurd H (by simp)
                   ·rw [if_neg c45] at H
                    exact absurd H (by simp)
                  ·rw [if_neg c44] at H
                   exact absurd H (by simp)
              ·rw [if_neg c25] at H
               exact absurd H (by simp)
             ·rw [if_neg c24] at H
              exact absurd H (by simp)
            ·rw [if_neg c21] at H
             exact absurd H (by simp)
           ·rw [if_neg c20] at H
            exact absurd H (by simp)
          ·rw [if_neg c19] at H
           exact absurd H (by simp)
         ·rw [if_neg c18] at H
          exact absurd H (by simp)
        ·rw [if_neg c16] at H
         have c16b0:=decide_eq_false c16
         (try (have c16h0:=c16b0;simp only [hl3_1] at c16h0))
         clear c16
         obtain rfl:=Option.some.inj H
         go_wp2
         go_ret
         exact ⟨_,by first|rfl|(simp [errW_none,errW_some] <;> rfl)|(simp only [← hji2];first|rfl|(simp [errW_none,errW_some] <;> rfl))|(simp [*,errW_none,errW_some] <;> rfl),by (with_reducible repeat (first|apply ra_|apply rb_|apply rc_));exact HO_3.out,by repeat (first|(with_reducible first|exact HB.out|apply ba_|apply bb_|apply bc_)|exact HB.out)⟩
     ·rw [if_neg c8] at H
      exact absurd H (by simp)
    ·rw [if_neg c6] at H
     exact absurd H (by simp)
   ·rw [if_neg c5] at H
    exact absurd H (by simp)
  ·rw [if_neg c4] at H
   exact absurd H (by simp)
 ·rw [if_neg c3] at H
  exact absurd H (by simp)

end Go.Proofs.Ytllglpcpjeggcaa.P
