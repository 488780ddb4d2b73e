/- The machine side of the laws of one chapter, without conditions: each call of a Go function comes to what the Lean function of its name answers. Written for this claim by a program of the prover. -/
import Derived.Test.YtlmacbiahofmcaaPx0
import Derived.Test.YtlmacbiahofmcaaPx2
import Derived.Test.YtlmacbiahofmcaaPx3
import Derived.Test.YtlmacbiahofmcaaPx8
import Derived.Test.YtlmacbiahofmcaaPx9
import Derived.Test.YtlmacbiahofmcaaPx11
namespace Go.Proofs.Ytlmacbiahofmcaa.P
open Go.RowKit Go.Proofs.YtlmacbiahofmcaaW.PrintWords Go.Proofs.YtlmacbiahofmcaaW.PrintLast Go.Proofs.YtlmacbiahofmcaaW.PrintMore
attribute [local go_sem] max2_int min2_int max_two min_two max_three min_three max_four min_four   -- for this text's walks alone
set_option linter.unusedVariables false
set_option linter.unusedSimpArgs false

/-! ### mdct_Inverse: function 12 -/
mutual
def mdct_Inverse.l0 : Nat → Int → List Int → List Int → List Int → Int → Int → Option (List Int × Int)
 | 0,_,_,_,_,_,_ => none
 | k + 1,x6,x7,x9,x32,x33,x34 => if x34 < x33 then (if 0 ≤ x34 then (if x34 < (x32.length : Int) then ((fix_Clamp.f k (rd x32 x34) (-17179869184) 17179869184).bind fun t179 => (if x34 < (x9.length : Int) then (mdct_Inverse.l0 k x6 x7 (x9.set (x34 : Int).toNat t179) x32 x33 (wrap64 (x34 + 1))) else (none))) else (none)) else (none)) else ((mdct_waves.f k x6).bind fun t181 => (if 0 ≤ (wrap64 (2 * x6)) then (if (wrap64 (2 * x6) : Int).toNat ≤ 35184372088832 then ((some (List.replicate (wrap64 (2 * x6) : Int).toNat 0 : List Int)).bind fun y184 => (mdct_Inverse.l1 k x6 x7 x9 t181 y184 (y184.length : Int) 0)) else (none)) else (none)))
def mdct_Inverse.l1 : Nat → Int → List Int → List Int → List Int → List Int → Int → Int → Option (List Int × Int)
 | 0,_,_,_,_,_,_,_ => none
 | k + 1,x6,x7,x9,x12,x13,x51,x52 => if x52 < x51 then (if (wrap64 (8 * x6)) = 0 then (none) else (mdct_Inverse.l2 k x6 x7 x9 x12 x13 x52 0 (Int.tmod (wrap64 ((wrap64 ((wrap64 (2 * x52)) + 1)) + x6)) (wrap64 (8 * x6))) (Int.tmod (wrap64 (2 * (wrap64 ((wrap64 ((wrap64 (2 * x52)) + 1)) + x6)))) (wrap64 (8 * x6))) x51 x52 (x9.length : Int) 0)) else (some (x13,0))
def mdct_Inverse.l2 : Nat → Int → List Int → List Int → List Int → List Int → Int → Int → Int → Int → Int → Int → Int → Int → Option (List Int × Int)
 | 0,_,_,_,_,_,_,_,_,_,_,_,_,_ => none
 | k + 1,x6,x7,x9,x12,x13,x14,x15,x16,x17,x51,x52,x73,x74 => if x74 < x73 then (if 0 ≤ x74 then (if x74 < (x9.length : Int) then (if 0 ≤ x16 then (if x16 < (x12.length : Int) then (if (wrap64 (x16 + x17)) ≥ (x12.length : Int) then (mdct_Inverse.l2 k x6 x7 x9 x12 x13 x14 (wrap64 (x15 + (wrap64 ((rd x9 x74) * (rd x12 x16))))) (wrap64 ((wrap64 (x16 + x17)) - (x12.length : Int))) x17 x51 x52 x73 (wrap64 (x74 + 1))) else (mdct_Inverse.l2 k x6 x7 x9 x12 x13 x14 (wrap64 (x15 + (wrap64 ((rd x9 x74) * (rd x12 x16))))) (wrap64 (x16 + x17)) x17 x51 x52 x73 (wrap64 (x74 + 1)))) else (none)) else (none)) else (none)) else (none)) else (if 0 ≤ x14 then (if x14 < (x7.length : Int) then ((mdct_down.f (wrap64 ((wrap64 (2 * x15)) + (wrap64 (16384 * x6)))) (wrap64 (32768 * x6))).bind fun t190 => ((fix_Clamp.f k t190 (-16777216) 16777216).bind fun t191 => ((fix_Mul.f k (rd x7 x14) t191 15).bind fun t192 => (if x14 < (x13.length : Int) then (mdct_Inverse.l1 k x6 x7 x9 x12 (x13.set (x14 : Int).toNat t192) x51 (wrap64 (x52 + 1))) else (none))))) else (none)) else (none))
end
def mdct_Inverse.f (k : Nat) (l0 : List Int) (a1 : Int) : Option (List Int × Int):=(mdct_Shape.f k (l0.length : Int) a1).bind fun bt171 => (if bt171.2 = 0 then (if 0 ≤ (l0.length : Int) then (if ((l0.length : Int) : Int).toNat ≤ 35184372088832 then (mdct_Inverse.l0 k (l0.length : Int) bt171.1 (List.replicate ((l0.length : Int) : Int).toNat 0) l0 (l0.length : Int) 0) else (none)) else (none)) else (some (([] : List Int),1)))
theorem mdct_Inverse.mono_l : ∀ k,(∀ y0 y1 y2 y3 y4 y5,LeO (mdct_Inverse.l0 k y0 y1 y2 y3 y4 y5) (mdct_Inverse.l0 (k + 1) y0 y1 y2 y3 y4 y5)) ∧ (∀ y0 y1 y2 y3 y4 y5 y6,LeO (mdct_Inverse.l1 k y0 y1 y2 y3 y4 y5 y6) (mdct_Inverse.l1 (k + 1) y0 y1 y2 y3 y4 y5 y6)) ∧ (∀ y0 y1 y2 y3 y4 y5 y6 y7 y8 y9 y10 y11 y12,LeO (mdct_Inverse.l2 k y0 y1 y2 y3 y4 y5 y6 y7 y8 y9 y10 y11 y12) (mdct_Inverse.l2 (k + 1) y0 y1 y2 y3 y4 y5 y6 y7 y8 y9 y10 y11 y12))
 | 0 => ⟨fun _ _ _ _ _ _ r h => by simp [mdct_Inverse.l0] at h,fun _ _ _ _ _ _ _ r h => by simp [mdct_Inverse.l1] at h,fun _ _ _ _ _ _ _ _ _ _ _ _ _ r h => by simp [mdct_Inverse.l2] at h⟩
 | k + 1 => by
  obtain ⟨ih0,ih1,ih2⟩:=mdct_Inverse.mono_l k
  refine ⟨?_,?_,?_⟩
  all_goals (intros;first|unfold mdct_Inverse.l0|unfold mdct_Inverse.l1|unfold mdct_Inverse.l2)
  all_goals (repeat' first|(with_reducible first|exact ih0 _ _ _ _ _ _|exact ih1 _ _ _ _ _ _ _|exact ih2 _ _ _ _ _ _ _ _ _ _ _ _ _|exact fix_Clamp.mono _ _ _ _|exact fix_Mul.mono _ _ _ _|exact mdct_Shape.mono _ _ _|exact mdct_waves.mono _ _|exact LeO.refl _|exact LeO.none _|refine LeO.ite ?_ ?_|refine LeO.bind ?_ (fun _ => ?_))|exact ih0 _ _ _ _ _ _|exact ih1 _ _ _ _ _ _ _|exact ih2 _ _ _ _ _ _ _ _ _ _ _ _ _|exact fix_Clamp.mono _ _ _ _|exact fix_Mul.mono _ _ _ _|exact mdct_Shape.mono _ _ _|exact mdct_waves.mono _ _|exact LeO.none _|refine LeO.ite ?_ ?_|refine LeO.bind ?_ (fun _ => ?_))
theorem mdct_Inverse.mono : ∀ a0 a1 k,LeO (mdct_Inverse.f k a0 a1) (mdct_Inverse.f (k + 1) a0 a1):=by
 intro a0 a1 k
 obtain ⟨ih0,ih1,ih2⟩:=mdct_Inverse.mono_l k
 unfold mdct_Inverse.f
 repeat' first|(with_reducible first|exact ih0 _ _ _ _ _ _|exact ih1 _ _ _ _ _ _ _|exact ih2 _ _ _ _ _ _ _ _ _ _ _ _ _|exact fix_Clamp.mono _ _ _ _|exact fix_Mul.mono _ _ _ _|exact mdct_Shape.mono _ _ _|exact mdct_waves.mono _ _|exact LeO.refl _|exact LeO.none _|refine LeO.ite ?_ ?_|refine LeO.bind ?_ (fun _ => ?_))|exact ih0 _ _ _ _ _ _|exact ih1 _ _ _ _ _ _ _|exact ih2 _ _ _ _ _ _ _ _ _ _ _ _ _|exact fix_Clamp.mono _ _ _ _|exact fix_Mul.mono _ _ _ _|exact mdct_Shape.mono _ _ _|exact mdct_waves.mono _ _|exact LeO.none _|refine LeO.ite ?_ ?_|refine LeO.bind ?_ (fun _ => ?_)
def mdct_Inverse.T17 : Bool × List (List Nat × List Nat):=(true,[([],[]),([0],[0]),([1],[1]),([],[]),([2,3],[2,3]),([],[]),([5],[5]),([4,6],[4,6]),([],[]),([8],[8]),([9],[9]),([],[]),([10,11],[10,11]),([12],[12]),([],[]),([14],[14]),([13,15],[13,15]),([7,0,1,2,3,4,5,6,7],[7]),([16,17,0,1,2,3,4,5,6,7,8,9,10,11,12,13,14,15,16,17],[16])])
def mdct_Inverse.B17 : List Nat:=[0,1,3,0,15,0,32,127,0,256,768,0,3840,7936,0,16384,65280,255,262143]
theorem mdct_Inverse.tab17 : rtab .any (opsOf Try.f12 17) = mdct_Inverse.T17:=by kernel_rfl
theorem mdct_Inverse.bits17 : waitsOk mdct_Inverse.T17.2 mdct_Inverse.B17 = true:=by kernel_rfl
def mdct_Inverse.T26 : Bool × List (List Nat × List Nat):=(true,[([],[]),([],[]),([],[]),([],[]),([2,3],[2,3]),([4],[4]),([],[]),([6],[6]),([],[]),([8],[8]),([7,9],[7,9]),([],[]),([11],[11]),([10,12],[10,12]),([13,13],[13]),([5,14,14],[5,14]),([0,1,0,1,2,3,4,5,6,7,8,9,10,11,12,13,14,15],[0,1]),([16,15,15,0,1,2,3,4,5,6,7,8,9,10,11,12,13,14,15],[15,16])])
def mdct_Inverse.B26 : List Nat:=[0,0,0,0,12,28,0,64,0,256,960,0,2048,8128,16320,32764,65535,131071]
theorem mdct_Inverse.tab26 : rtab .any (opsOf Try.f12 26) = mdct_Inverse.T26:=by kernel_rfl
theorem mdct_Inverse.bits26 : waitsOk mdct_Inverse.T26.2 mdct_Inverse.B26 = true:=by kernel_rfl
set_option maxHeartbeats 8000000 in
set_option maxRecDepth 100000 in
theorem mdct_Inverse.calls (k : Nat) (A0 : Option Addr) (c0 : Nat) (l0 : List Int) (a1 : Int) (r1 : List Int) (r2 : Int) (w : World) (hr0 : Kd.C (Kd.int .i64) w A0 l0.length l0) (hc0 : l0.length ≤ c0) (h : mdct_Inverse.f k l0 a1 = some (r1,r2)) :
  Calls Try.prog 12 #[.slice A0 l0.length c0,.int .i64 a1] w fun e w' => ∃ v0_ : Value,e = .returned (.tuple #[v0_,.int .i64 r2]) ∧ Kd.R (Kd.int .i64) 2 w' w.heap.size (fun _ => True) v0_ r1 ∧ Below w.heap.size w w':=by
 have HR0:=ak_ hr0
 have HC0:=ak_ hc0
 clear hr0 hc0
 have HB:=ak_ (Below.refl w.heap.size w)
 have H : ((mdct_Shape.f k (l0.length : Int) a1).bind fun bt171 => (if bt171.2 = 0 then (if 0 ≤ (l0.length : Int) then (if ((l0.length : Int) : Int).toNat ≤ 35184372088832 then (mdct_Inverse.l0 k (l0.length : Int) bt171.1 (List.replicate ((l0.length : Int) : Int).toNat 0) l0 (l0.length : Int) 0) else (none)) else (none)) else (some (([] : List Int),1)))) = some (r1,r2):=h
 clear h
 replace H:=Option.bind_eq_some_iff.mp H
 obtain ⟨⟨t171,t172⟩,A30,H⟩:=H
 (try dsimp only at H)
 have A3:=ak_ A30
 clear A30
 by_cases c4 : t172 = 0
 ·rw [if_pos c4] at H
  have c4b0 : (t172 == 0) = true:=beq_iff_eq.mpr c4
  have c4b1 : (t172 != 0) = false:=bne_eq_false_iff_eq.mpr c4
  clear c4
  by_cases c5 : 0 ≤ (l0.length : Int)
  ·rw [if_pos c5] at H
   have c5b0:=eq_true c5
   have c5b1 : decide (0 ≤ (l0.length : Int)) = true:=decide_eq_true c5
   clear c5
   by_cases c6 : ((l0.length : Int) : Int).toNat ≤ 35184372088832
   ·rw [if_pos c6] at H
    have c6b0:=eq_true c6
    have c6b1 : decide (((l0.length : Int) : Int).toNat ≤ 35184372088832) = true:=decide_eq_true c6
    clear c6
    obtain ⟨y175,hy175⟩ : ∃ y_ : List Int,y_ = (List.replicate ((l0.length : Int) : Int).toNat 0):=⟨_,rfl⟩
    replace H : (mdct_Inverse.l0 k (l0.length : Int) t171 y175 l0 (l0.length : Int) 0) = some (r1,r2):=by first|(rw [hy175];with_reducible exact H)|(have H2_:=(Option.bind_some _ _).symm.trans H;rw [hy175];with_reducible exact H2_)|(have H2_:=(Option.bind_some _ _).symm.trans H;with_reducible exact H2_)|with_reducible exact H|(rw [hy175];exact H)|exact H
    have Ny175:=ak_ hy175
    clear hy175
    have H':=ak_ H
    clear H
    go_enter Try.func12,Try.ntmps12
    go_wp2_with (first|((with_reducible refine gate_callee (f:=10) rfl ?_);refine goesL_ (some 25) rfl rfl Try.func10 (by kernel_rfl) rfl #[.int .i64 (l0.length : Int),.int .i64 a1] rfl (by (try simp only [List.map_toArray,List.map_cons,List.map_nil]);first|done|rfl|(simp only [List.length_drop,List.length_take];rfl)) ?_;(with_reducible refine (mdct_Shape.calls k (l0.length : Int) a1 t171 t172 _ A3.out).mono ?_);rintro e w7 ⟨v173,rfl,ho0,hb⟩;refine ⟨_,rfl,?_⟩;have n0_:=ak_ (Kd.R_lower ho0 (below_size (by repeat (first|(with_reducible first|exact HB.out|apply ba_|apply bb_|apply bc_)|exact HB.out))));have n1_:=ak_ (below_step (by repeat (first|(with_reducible first|exact HB.out|apply ba_|apply bb_|apply bc_)|exact HB.out)) hb);clear HB;have HO174:=n0_;have HB:=n1_;clear n0_ n1_;(try clear hb);(try clear ho0))|((with_reducible refine gate_dst (N:=31) rfl ?_);refine Kd.R_make (Kd.int .i64) _ 2 rfl (N:=31) rfl 23 _ _ rfl (l0.length : Int) rfl rfl Try.underlying23 (.int .i64 0) 8 info2 rfl (by decide) (by omega) 0 (ok:=fun _ => True) (okp:=fun _ => True) rfl (fun _ hk => hk) trivial (of_decide_eq_true (by first|(with_reducible assumption)|assumption)) (Nat.le_trans (Nat.mul_le_mul_right _ (of_decide_eq_true (by first|(with_reducible assumption)|assumption) : (l0.length : Int).toNat ≤ 35184372088832)) (by omega)) (Below.refl _ _) (Nat.le_refl _) ?_;intro v176 w8 ho9 hb hg_ hnew_;clear hg_ hnew_;(first|rw [← Ny175.out] at ho9|(simp only [Int.reduceToNat] at ho9;rw [← Ny175.out] at ho9));have n0_:=ak_ (Kd.R_elder' (by (with_reducible repeat (first|apply ra_|apply rb_|apply rc_));exact HO174.out) (Kd.R_base ho9) hb);have n1_:=ak_ (Kd.R_lower (Kd.R_new' ho9 (Kd.R_lt (by (with_reducible repeat (first|apply ra_|apply rb_|apply rc_));exact HO174.out))) (below_size (by repeat (first|(with_reducible first|exact HB.out|apply ba_|apply bb_|apply bc_)|exact HB.out))));have n2_:=ak_ (below_step (by repeat (first|(with_reducible first|exact HB.out|apply ba_|apply bb_|apply bc_)|exact HB.out)) hb);clear HO174;clear HB;have HO174:=n0_;have HO177:=n1_;have HB:=n2_;clear n0_ n1_ n2_;clear hb ho9))
    go_loopg [34] k (fun kq v34 w' => ∃ (x9_1 : List Int) (x34_1 : Int),v34 = .int .i64 x34_1 ∧ Aside0 (mdct_Inverse.l0 kq (l0.length : Int) t171 x9_1 l0 (l0.length : Int) x34_1 = some (r1,r2)) ∧ Aside0 (kq ≤ k) ∧ Aside0 (Kd.R (Kd.int .i64) 2 w' w.heap.size (fun k_ => some k_ ≠ (v176 : Value).ownBlock) v173 t171) ∧ Aside0 (Kd.R (Kd.int .i64) 2 w' w.heap.size (fun k_ => some k_ ≠ (v173 : Value).ownBlock) v176 x9_1) ∧ Aside0 (Below w.heap.size w w'))
    case atStart => exact ⟨(y175),(0),(by first|rfl|(simp;done)|(simp [*];done)),H',⟨Nat.le_refl _⟩,⟨by (with_reducible repeat (first|apply ra_|apply rb_|apply rc_));exact Kd.R_mono HO174.out (fun _ hk => hk.2)⟩,⟨by (with_reducible repeat (first|apply ra_|apply rb_|apply rc_));exact Kd.R_mono HO177.out (fun _ hk => hk.2)⟩,⟨by repeat (first|(with_reducible first|exact HB.out|apply ba_|apply bb_|apply bc_)|exact HB.out)⟩⟩
    case round =>
     clear H'
     try clear c1
     try clear p2
     try clear c4
     try clear c4b0
     try clear c4b1
     try clear c5
     try clear c5b0
     try clear c5b1
     try clear c6
     try clear c6b0
     try clear c6b1
     obtain ⟨x9_1,x34_1,rfl,HA,HK1,HO_7,HO_9,HB⟩:=hrel
     (try simp only [i64_w,i32_w])
     cases gk with
     | zero => exact absurd HA.out (by simp [mdct_Inverse.l0])
     | succ k1 =>
      have H:=HA.out
      clear HA
      simp only [mdct_Inverse.l0] at H
      by_cases c10 : x34_1 < (l0.length : Int)
      ·rw [if_pos c10] at H
       have c10b0:=decide_eq_true c10
       clear c10
       by_cases c11 : 0 ≤ x34_1
       ·rw [if_pos c11] at H
        have c11b0:=decide_eq_true c11
        clear c11
        by_cases c12 : x34_1 < (l0.length : Int)
        ·rw [if_pos c12] at H
         have c12b0:=decide_eq_true c12
         clear c12
         replace H:=Option.bind_eq_some_iff.mp H
         obtain ⟨t179,A130,H⟩:=H
         (try dsimp only at H)
         have A13:=ak_ A130
         clear A130
         by_cases c14 : x34_1 < (x9_1.length : Int)
         ·rw [if_pos c14] at H
          have c14b0:=decide_eq_true c14
          clear c14
          obtain ⟨y180,hy180⟩ : ∃ y_ : List Int,y_ = (x9_1.set (x34_1 : Int).toNat t179):=⟨_,rfl⟩
          replace H : (mdct_Inverse.l0 k1 (l0.length : Int) t171 y180 l0 (l0.length : Int) (wrap64 (x34_1 + 1))) = some (r1,r2):=by first|(rw [hy180];with_reducible exact H)|(have H2_:=(Option.bind_some _ _).symm.trans H;rw [hy180];with_reducible exact H2_)|(have H2_:=(Option.bind_some _ _).symm.trans H;with_reducible exact H2_)|with_reducible exact H|(rw [hy180];exact H)|exact H
          have Ny180:=ak_ hy180
          clear hy180
          have H':=ak_ H
          clear H
          have p178 : 0 ≤ (x34_1 : Int):=of_decide_eq_true (by first|(with_reducible assumption)|assumption)
          have q178 : x34_1 < (l0.length : Int):=of_decide_eq_true (by first|(with_reducible assumption)|assumption)
          obtain ⟨ad178,e178,hx178_0⟩:=Kd.at_int HR0.out x34_1 p178 q178
          cases e178
          replace hx178_0:=(HB.out.cell (World.block_lt_of_cell? w _ hx178_0)).trans hx178_0
          replace p178:=eq_true p178
          replace q178:=eq_true q178
          go_wp2_with (first|((with_reducible refine gate_callee (f:=28) rfl ?_);refine goesL_ (some 42) rfl rfl Try.func28 (by kernel_rfl) rfl #[.int .i64 (rd l0 x34_1),.int .i64 (-17179869184),.int .i64 17179869184] rfl (by (try simp only [List.map_toArray,List.map_cons,List.map_nil]);first|done|rfl|(simp only [List.length_drop,List.length_take];rfl)) ?_;(with_reducible refine (fix_Clamp.calls k1 (rd l0 x34_1) (-17179869184) 17179869184 t179 _ A13.out).mono ?_);rintro e w' ⟨rfl,⟨nd,rfl⟩⟩;refine ⟨_,rfl,?_⟩;(try (rw [drewN_self wr];generalize hq_ : World.drewN wr _ = wr;have n0_ : Aside0 (Kd.R (Kd.int .i64) 2 wr w.heap.size (fun k_ => some k_ ≠ (v176 : Value).ownBlock) v173 t171):=⟨by rw [← hq_];exact (by (with_reducible repeat (first|apply ra_|apply rb_|apply rc_));exact HO_7.out)⟩;have n1_ : Aside0 (Kd.R (Kd.int .i64) 2 wr w.heap.size (fun k_ => some k_ ≠ (v173 : Value).ownBlock) v176 x9_1):=⟨by rw [← hq_];exact (by (with_reducible repeat (first|apply ra_|apply rb_|apply rc_));exact HO_9.out)⟩;have n2_ : Aside0 (Below w.heap.size w wr):=⟨by rw [← hq_];exact (by repeat (first|(with_reducible first|exact HB.out|apply ba_|apply bb_|apply bc_)|exact HB.out))⟩;clear HO_7 HO_9 HB hq_;have HO_7:=n0_;have HO_9:=n1_;have HB:=n2_;clear n0_ n1_ n2_));have p15 : 0 ≤ (x34_1 : Int):=of_decide_eq_true (by first|(with_reducible assumption)|assumption);have q15 : (x34_1 : Int) < ((x9_1.length : Int) : Int):=of_decide_eq_true (by first|(with_reducible assumption)|assumption);obtain ⟨go15,co15,eo15,gb15,gl15,cl15,HG15⟩:=Kd.R_form HO_9.out (by omega);(first|cases eo15|(injection eo15 with ea_ en_ ec_;(first|subst ea_|(injection ea_ with ea_;subst ea_));subst ec_;clear en_));have GB15:=ak_ gb15;have GG15:=ak_ HG15;clear gb15 gl15 HG15;obtain ⟨hx15_0,hf15_0⟩:=Kd.R_celln 0 HO_9.out (x34_1 : Int) p15 q15;replace p15:=eq_true p15;replace q15:=eq_true q15;obtain ⟨hy16_,hz16_⟩:=Kd.R_celln 0 HO_9.out (x34_1 : Int) (of_decide_eq_true (by first|(with_reducible assumption)|assumption)) (of_decide_eq_true (by first|(with_reducible assumption)|assumption));have HP16:=Kd.R_putg HO_9.out (x34_1 : Int) t179)|((with_reducible refine gate_store (t:=2) (p:=43) rfl ?_);refine store_event (t:=2) (p:=43) (v:=?vo_w17) (w1:=(wr.setCell ⟨go15,(x34_1 : Int).toNat,none⟩ (.int .i64 t179))) ?hg ?ho ?hn ?hr ?_;(case ho => rfl);(case hg => rfl);(case hn => rfl);(case hr => first|(go_simp;done)|(go_simp;rfl));intro w17 hw;have hg : wr.grownBy w17 (some go15):=(by rw [hw];exact HP16.2);have hp_ : Kd.R (Kd.int .i64) 2 w17 w.heap.size (fun k_ => some k_ ≠ (v173 : Value).ownBlock) (.slice (some ⟨go15,0,none⟩) x9_1.length co15) y180:=(by rw [hw,Ny180.out];exact HP16.1);clear HP16;have n0_:=ak_ (Kd.R_after (v:=(.slice (some ⟨go15,0,none⟩) x9_1.length co15)) (v1:=(.slice (some ⟨go15,0,none⟩) x9_1.length co15)) (ok:=(fun _ => True)) (by (with_reducible repeat (first|apply ra_|apply rb_|apply rc_));exact Kd.R_mono HO_7.out (fun _ hk => ⟨trivial,hk⟩)) hg (.inl rfl));have n1_:=ak_ (hp_);have n2_:=ak_ ((by rw [hw];exact below_set (HB.out) GB15.out : Below w.heap.size w w17));clear HO_7;clear HO_9;clear HB;have HO_7:=n0_;have HO_9:=n1_;have HB:=n2_;clear n0_ n1_ n2_;clear hg hw hp_))
          go_roundg k1
          case measure => have:=HK1.out;omega
          case rel => exact ⟨(y180),(wrap64 (x34_1 + 1)),(by first|rfl|(simp;done)|(simp [*];done)),H',⟨by have:=HK1.out;omega⟩,⟨by (with_reducible repeat (first|apply ra_|apply rb_|apply rc_));exact Kd.R_mono HO_7.out (fun _ hk => hk.2)⟩,⟨by (with_reducible repeat (first|apply ra_|apply rb_|apply rc_));exact HO_9.out⟩,⟨by repeat (first|(with_reducible first|exact HB.out|apply ba_|apply bb_|apply bc_)|exact HB.out)⟩⟩
         ·rw [if_neg c14] at H
          exact absurd H (by simp)
        ·rw [if_neg c12] at H
         exact absurd H (by simp)
       ·rw [if_neg c11] at H
        exact absurd H (by simp)
      ·rw [if_neg c10] at H
       have c10b0:=decide_eq_false c10
       clear c10
       replace H:=Option.bind_eq_some_iff.mp H
       obtain ⟨t181,A180,H⟩:=H
       (try dsimp only at H)
       have A18:=ak_ A180
       clear A180
       obtain ⟨ji19,hji19⟩ : ∃ j_ : Int,(wrap64 (2 * (l0.length : Int))) = j_:=⟨_,rfl⟩
       replace H : (if 0 ≤ (ji19) then (if (ji19 : Int).toNat ≤ 35184372088832 then ((some (List.replicate (ji19 : Int).toNat 0 : List Int)).bind fun y184 => (mdct_Inverse.l1 k1 (l0.length : Int) t171 x9_1 t181 y184 (y184.length : Int) 0)) else (none)) else (none)) = some (r1,r2):=by first|(rw [hji19] at H;exact H)|(simp only [hji19] at H ⊢;exact H)
       (try rw [hji19] at A18)
       have hji19w : (IntKind.i64.wrap (2 * (l0.length : Int))) = ji19:=(i64_w _).trans hji19
       by_cases c20 : 0 ≤ (ji19)
       ·rw [if_pos c20] at H
        have c20b0:=eq_true c20
        have c20b1 : decide (0 ≤ (ji19)) = true:=decide_eq_true c20
        clear c20
        by_cases c21 : (ji19 : Int).toNat ≤ 35184372088832
        ·rw [if_pos c21] at H
         have c21b0:=eq_true c21
         have c21b1 : decide ((ji19 : Int).toNat ≤ 35184372088832) = true:=decide_eq_true c21
         clear c21
         obtain ⟨y184,hy184⟩ : ∃ y_ : List Int,y_ = (List.replicate (ji19 : Int).toNat 0):=⟨_,rfl⟩
         replace H : (mdct_Inverse.l1 k1 (l0.length : Int) t171 x9_1 t181 y184 (y184.length : Int) 0) = some (r1,r2):=by first|(rw [hy184];with_reducible exact H)|(have H2_:=(Option.bind_some _ _).symm.trans H;rw [hy184];with_reducible exact H2_)|(have H2_:=(Option.bind_some _ _).symm.trans H;with_reducible exact H2_)|with_reducible exact H|(rw [hy184];exact H)|exact H
         have Ny184:=ak_ hy184
         clear hy184
         have H':=ak_ H
         clear H
         go_wp2_with (first|((with_reducible refine gate_callee (f:=29) rfl ?_);refine goesL_ (some 46) rfl rfl Try.func29 (by kernel_rfl) rfl #[.int .i64 (l0.length : Int)] rfl (by (try simp only [List.map_toArray,List.map_cons,List.map_nil]);first|done|rfl|(simp only [List.length_drop,List.length_take];rfl)) ?_;(with_reducible refine (mdct_waves.calls k1 (l0.length : Int) t181 _ A18.out).mono ?_);rintro e w22 ⟨v182,rfl,ho0,hb⟩;refine ⟨_,rfl,?_⟩;have n0_:=ak_ (Kd.R_elder' (by (with_reducible repeat (first|apply ra_|apply rb_|apply rc_));exact HO_7.out) (Kd.R_base ho0) hb);have n1_:=ak_ (Kd.R_elder' (by (with_reducible repeat (first|apply ra_|apply rb_|apply rc_));exact HO_9.out) (Kd.R_base ho0) hb);have n2_:=ak_ (Kd.R_lower (Kd.R_new' (Kd.R_new' ho0 (Kd.R_lt (by (with_reducible repeat (first|apply ra_|apply rb_|apply rc_));exact HO_7.out))) (Kd.R_lt (by (with_reducible repeat (first|apply ra_|apply rb_|apply rc_));exact HO_9.out))) (below_size (by repeat (first|(with_reducible first|exact HB.out|apply ba_|apply bb_|apply bc_)|exact HB.out))));have n3_:=ak_ (below_step (by repeat (first|(with_reducible first|exact HB.out|apply ba_|apply bb_|apply bc_)|exact HB.out)) hb);clear HO_7;clear HO_9;clear HB;have HO_7:=n0_;have HO_9:=n1_;have HO183:=n2_;have HB:=n3_;clear n0_ n1_ n2_ n3_;(try clear hb);(try clear ho0))|((with_reducible refine gate_dst (N:=49) rfl ?_);refine Kd.R_make (Kd.int .i64) _ 2 rfl (N:=49) rfl 23 _ _ rfl ji19 rfl rfl Try.underlying23 (.int .i64 0) 8 info2 rfl (by decide) (by omega) 0 (ok:=fun _ => True) (okp:=fun _ => True) rfl (fun _ hk => hk) trivial (of_decide_eq_true (by first|(with_reducible assumption)|assumption)) (Nat.le_trans (Nat.mul_le_mul_right _ (of_decide_eq_true (by first|(with_reducible assumption)|assumption) : ji19.toNat ≤ 35184372088832)) (by omega)) (Below.refl _ _) (Nat.le_refl _) ?_;intro v185 w23 ho24 hb hg_ hnew_;clear hg_ hnew_;(first|rw [← Ny184.out] at ho24|(simp only [Int.reduceToNat] at ho24;rw [← Ny184.out] at ho24));have n0_:=ak_ (Kd.R_elder' (by (with_reducible repeat (first|apply ra_|apply rb_|apply rc_));exact HO_7.out) (Kd.R_base ho24) hb);have n1_:=ak_ (Kd.R_elder' (by (with_reducible repeat (first|apply ra_|apply rb_|apply rc_));exact HO_9.out) (Kd.R_base ho24) hb);have n2_:=ak_ (Kd.R_elder' (by (with_reducible repeat (first|apply ra_|apply rb_|apply rc_));exact HO183.out) (Kd.R_base ho24) hb);have n3_:=ak_ (Kd.R_lower (Kd.R_new' (Kd.R_new' (Kd.R_new' ho24 (Kd.R_lt (by (with_reducible repeat (first|apply ra_|apply rb_|apply rc_));exact HO_7.out))) (Kd.R_lt (by (with_reducible repeat (first|apply ra_|apply rb_|apply rc_));exact HO_9.out))) (Kd.R_lt (by (with_reducible repeat (first|apply ra_|apply rb_|apply rc_));exact HO183.out))) (below_size (by repeat (first|(with_reducible first|exact HB.out|apply ba_|apply bb_|apply bc_)|exact HB.out))));have n4_:=ak_ (below_step (by repeat (first|(with_reducible first|exact HB.out|apply ba_|apply bb_|apply bc_)|exact HB.out)) hb);clear HO_7;clear HO_9;clear HO183;clear HB;have HO_7:=n0_;have HO_9:=n1_;have HO183:=n2_;have HO186:=n3_;have HB:=n4_;clear n0_ n1_ n2_ n3_ n4_;clear hb ho24;obtain ⟨Ao25,co25,eo25⟩:=Kd.R_slice HO186.out;subst eo25))
         go_loopg [52] k1 (fun kq v52 w' => ∃ (x13_2 : List Int) (x52_2 : Int),v52 = .int .i64 x52_2 ∧ Aside0 (mdct_Inverse.l1 kq (l0.length : Int) t171 x9_1 t181 x13_2 (y184.length : Int) x52_2 = some (r1,r2)) ∧ Aside0 (kq ≤ k1) ∧ Aside0 (Kd.R (Kd.int .i64) 2 w' w.heap.size (fun k_ => some k_ ≠ (v176 : Value).ownBlock ∧ some k_ ≠ (v182 : Value).ownBlock ∧ some k_ ≠ ((.slice Ao25 y184.length co25) : Value).ownBlock) v173 t171) ∧ Aside0 (Kd.R (Kd.int .i64) 2 w' w.heap.size (fun k_ => some k_ ≠ (v173 : Value).ownBlock ∧ some k_ ≠ (v182 : Value).ownBlock ∧ some k_ ≠ ((.slice Ao25 y184.length co25) : Value).ownBlock) v176 x9_1) ∧ Aside0 (Kd.R (Kd.int .i64) 2 w' w.heap.size (fun k_ => some k_ ≠ (v173 : Value).ownBlock ∧ some k_ ≠ (v176 : Value).ownBlock ∧ some k_ ≠ ((.slice Ao25 y184.length co25) : Value).ownBlock) v182 t181) ∧ Aside0 (Kd.R (Kd.int .i64) 2 w' w.heap.size (fun k_ => some k_ ≠ (v173 : Value).ownBlock ∧ some k_ ≠ (v176 : Value).ownBlock ∧ some k_ ≠ (v182 : Value).ownBlock) (.slice Ao25 y184.length co25) x13_2) ∧ Aside0 (Below w.heap.size w w'))
         case atStart => exact ⟨(y184),(0),(by first|rfl|(simp;done)|(simp [*];done)),H',⟨Nat.le_refl _⟩,⟨by (with_reducible repeat (first|apply ra_|apply rb_|apply rc_));exact Kd.R_mono HO_7.out (fun _ hk => ⟨hk.1.1,⟨hk.1.2,hk.2⟩⟩)⟩,⟨by (with_reducible repeat (first|apply ra_|apply rb_|apply rc_));exact Kd.R_mono HO_9.out (fun _ hk => ⟨hk.1.1,⟨hk.1.2,hk.2⟩⟩)⟩,⟨by (with_reducible repeat (first|apply ra_|apply rb_|apply rc_));exact Kd.R_mono HO183.out (fun _ hk => ⟨hk.1.1.2,⟨hk.1.2,hk.2⟩⟩)⟩,⟨by (with_reducible repeat (first|apply ra_|apply rb_|apply rc_));exact Kd.R_mono HO186.out (fun _ hk => ⟨hk.1.1.2,⟨hk.1.2,hk.2⟩⟩)⟩,⟨by repeat (first|(with_reducible first|exact HB.out|apply ba_|apply bb_|apply bc_)|exact HB.out)⟩⟩
         case round =>
          clear H'
          try clear c1
          try clear p1
          try clear q1
          try clear hx1
          try clear c2
          try clear p2
          try clear c4
          try clear c4b0
          try clear c4b1
          try clear c5
          try clear c5b0
          try clear c5b1
          try clear c6
          try clear c6b0
          try clear c6b1
          try clear p6
          try clear c10
          try clear c10b0
          try clear c11
          try clear c11b0
          try clear c12
          try clear c12b0
          try clear c14
          try clear c14b0
          try clear p15
          try clear q15
          try clear hx15
          try clear hf15
          try clear p17
          try clear q17
          try clear hx17
          try clear c20
          try clear c20b0
          try clear c20b1
          try clear c21
          try clear c21b0
          try clear c21b1
          try clear hx15_0
          try clear hx178_0
          try clear p15
          try clear p178
          try clear p2
          try clear q15
          try clear q178
          obtain ⟨x13_2,x52_2,rfl,HA,HK2,HO_7,HO_9,HO_12,HO_13,HB⟩:=hrel
          (try simp only [i64_w,i32_w])
          have hl13_2:=(Kd.R_reads' HO_13.out).1
          rw [hl13_2] at HO_13
          (try simp only [hl13_2])
          (try simp only [hl13_2] at HO_7)
          (try simp only [hl13_2] at HO_9)
          (try simp only [hl13_2] at HO_12)
          cases gk with
          | zero => exact absurd HA.out (by simp [mdct_Inverse.l1])
          | succ k2 =>
           have H:=HA.out
           clear HA
           simp only [mdct_Inverse.l1] at H
           by_cases c26 : x52_2 < (y184.length : Int)
           ·rw [if_pos c26] at H
            have c26b0:=decide_eq_true c26
            (try (have c26h0:=c26b0;simp only [hl13_2] at c26h0))
            clear c26
            by_cases c27 : (wrap64 (8 * (l0.length : Int))) = 0
            ·rw [if_pos c27] at H
             exact absurd H (by simp)
            ·rw [if_neg c27] at H
             have c27b0 : ((wrap64 (8 * (l0.length : Int))) == 0) = false:=beq_eq_false_iff_ne.mpr c27
             have c27b1 : ((wrap64 (8 * (l0.length : Int))) != 0) = true:=bne_iff_ne.mpr c27
             (try (have c27h0:=c27b0;simp only [hl13_2] at c27h0))
             (try (have c27h1:=c27b1;simp only [hl13_2] at c27h1))
             have H':=ak_ H
             clear H
             try go_wp2
             have n0_:=ak_ (Kd.R_drew HO_7.out)
             have n1_:=ak_ (Kd.R_drew HO_9.out)
             have n2_:=ak_ (Kd.R_drew HO_12.out)
             have n3_:=ak_ (Kd.R_drew HO_13.out)
             have n4_:=ak_ (below_drew1 HB.out)
             clear HO_7
             clear HO_9
             clear HO_12
             clear HO_13
             clear HB
             have HO_7:=n0_
             have HO_9:=n1_
             have HO_12:=n2_
             have HO_13:=n3_
             have HB:=n4_
             clear n0_ n1_ n2_ n3_ n4_
             refine start_ (n:=19) (S:=fun w' => True) (ds:=[]) #[false,false,false,false,false,false,false,false,false,false,false,false,false,false,false,false,false,false,false] (by kernel_rfl) rfl rfl trivial (fun hHeld => ?_);refine with_tabW mdct_Inverse.tab17 mdct_Inverse.bits17 (fun HT_ HW_ => ?_)
             generalize wr.drew = w28 at HO_7 HO_9 HO_12 HO_13 HB hHeld ⊢
             refine pure_ (i:=0) (N:=some 55) (v:=?_) (a':=?_) #[true,false,false,false,false,false,false,false,false,false,false,false,false,false,false,false,false,false,false] rfl rfl (any_of HT_.out (by kernel_rfl)) (fun _ _ _ h => h) (Or.inl ⟨by rfl,?_⟩) ?_ ?_
             rotate_left
             ·intro w'
              go_simp
              with_reducible rfl
             rotate_left
             ·simp only [Act.put,List.setIfInBounds_toArray,List.set_cons_zero,List.set_cons_succ,i64_w,i32_w]
              rfl
             refine pure_ (i:=1) (N:=some 56) (v:=?_) (a':=?_) #[true,true,false,false,false,false,false,false,false,false,false,false,false,false,false,false,false,false,false] rfl rfl (any_of HT_.out (by kernel_rfl)) (fun _ _ _ h => h) (Or.inl ⟨by rfl,?_⟩) ?_ ?_
             rotate_left
             ·intro w'
              go_simp
              with_reducible rfl
             rotate_left
             ·simp only [Act.put,List.setIfInBounds_toArray,List.set_cons_zero,List.set_cons_succ,i64_w,i32_w]
              rfl
             refine pure_ (i:=2) (N:=some 57) (v:=?_) (a':=?_) #[true,true,true,false,false,false,false,false,false,false,false,false,false,false,false,false,false,false,false] rfl rfl (any_of HT_.out (by kernel_rfl)) (fun _ _ _ h => h) (Or.inl ⟨by rfl,?_⟩) ?_ ?_
             rotate_left
             ·intro w'
              go_simp
              with_reducible rfl
             rotate_left
             ·simp only [Act.put,List.setIfInBounds_toArray,List.set_cons_zero,List.set_cons_succ,i64_w,i32_w]
              rfl
             refine pure_ (i:=3) (N:=some 58) (v:=?_) (a':=?_) #[true,true,true,true,false,false,false,false,false,false,false,false,false,false,false,false,false,false,false] rfl rfl (any_of HT_.out (by kernel_rfl)) (fun _ _ _ h => h) (Or.inl ⟨by rfl,?_⟩) ?_ ?_
             rotate_left
             ·intro w'
              go_simp
              with_reducible rfl
             rotate_left
             ·simp only [Act.put,List.setIfInBounds_toArray,List.set_cons_zero,List.set_cons_succ,i64_w,i32_w]
              rfl
             refine pure_ (i:=4) (N:=some 59) (v:=?_) (a':=?_) #[true,true,true,true,true,false,false,false,false,false,false,false,false,false,false,false,false,false,false] rfl rfl (any_of HT_.out (by kernel_rfl)) (fun _ _ _ h => h) (Or.inl ⟨by rfl,?_⟩) ?_ ?_
             rotate_left
             ·intro w'
              go_simp
              with_reducible rfl
             rotate_left
             ·simp only [Act.put,List.setIfInBounds_toArray,List.set_cons_zero,List.set_cons_succ,i64_w,i32_w]
              rfl
             refine pure_ (i:=5) (N:=some 60) (v:=?_) (a':=?_) #[true,true,true,true,true,true,false,false,false,false,false,false,false,false,false,false,false,false,false] rfl rfl (any_of HT_.out (by kernel_rfl)) (fun _ _ _ h => h) (Or.inl ⟨by rfl,?_⟩) ?_ ?_
             rotate_left
             ·intro w'
              go_simp
              with_reducible rfl
             rotate_left
             ·simp only [Act.put,List.setIfInBounds_toArray,List.set_cons_zero,List.set_cons_succ,i64_w,i32_w]
              rfl
             refine pure_ (i:=6) (N:=some 61) (v:=?_) (a':=?_) #[true,true,true,true,true,true,true,false,false,false,false,false,false,false,false,false,false,false,false] rfl rfl (any_of HT_.out (by kernel_rfl)) (fun _ _ _ h => h) (Or.inl ⟨by rfl,?_⟩) ?_ ?_
             rotate_left
             ·intro w'
              go_simp
              with_reducible rfl
             rotate_left
             ·simp only [Act.put,List.setIfInBounds_toArray,List.set_cons_zero,List.set_cons_succ,i64_w,i32_w]
              rfl
             refine pure_ (i:=7) (N:=some 62) (v:=?_) (a':=?_) #[true,true,true,true,true,true,true,true,false,false,false,false,false,false,false,false,false,false,false] rfl rfl (any_of HT_.out (by kernel_rfl)) (fun _ _ _ h => h) (Or.inl ⟨by rfl,?_⟩) ?_ ?_
             rotate_left
             ·intro w'
              go_simp
              with_reducible rfl
             rotate_left
             ·simp only [Act.put,List.setIfInBounds_toArray,List.set_cons_zero,List.set_cons_succ,i64_w,i32_w]
              rfl
             refine pure_ (i:=8) (N:=some 63) (v:=?_) (a':=?_) #[true,true,true,true,true,true,true,true,true,false,false,false,false,false,false,false,false,false,false] rfl rfl (any_of HT_.out (by kernel_rfl)) (fun _ _ _ h => h) (Or.inl ⟨by rfl,?_⟩) ?_ ?_
             rotate_left
             ·intro w'
              go_simp
              with_reducible rfl
             rotate_left
             ·simp only [Act.put,List.setIfInBounds_toArray,List.set_cons_zero,List.set_cons_succ,i64_w,i32_w]
              rfl
             refine pure_ (i:=9) (N:=some 64) (v:=?_) (a':=?_) #[true,true,true,true,true,true,true,true,true,true,false,false,false,false,false,false,false,false,false] rfl rfl (any_of HT_.out (by kernel_rfl)) (fun _ _ _ h => h) (Or.inl ⟨by rfl,?_⟩) ?_ ?_
             rotate_left
             ·intro w'
              go_simp
              with_reducible rfl
             rotate_left
             ·simp only [Act.put,List.setIfInBounds_toArray,List.set_cons_zero,List.set_cons_succ,i64_w,i32_w]
              rfl
             refine pure_ (i:=10) (N:=some 65) (v:=?_) (a':=?_) #[true,true,true,true,true,true,true,true,true,true,true,false,false,false,false,false,false,false,false] rfl rfl (any_of HT_.out (by kernel_rfl)) (fun _ _ _ h => h) (Or.inl ⟨by rfl,?_⟩) ?_ ?_
             rotate_left
             ·intro w'
              go_simp
              with_reducible rfl
             rotate_left
             ·simp only [Act.put,List.setIfInBounds_toArray,List.set_cons_zero,List.set_cons_succ,i64_w,i32_w]
              rfl
             refine pure_ (i:=11) (N:=some 66) (v:=?_) (a':=?_) #[true,true,true,true,true,true,true,true,true,true,true,true,false,false,false,false,false,false,false] rfl rfl (any_of HT_.out (by kernel_rfl)) (fun _ _ _ h => h) (Or.inl ⟨by rfl,?_⟩) ?_ ?_
             rotate_left
             ·intro w'
              go_simp
              with_reducible rfl
             rotate_left
             ·simp only [Act.put,List.setIfInBounds_toArray,List.set_cons_zero,List.set_cons_succ,i64_w,i32_w]
              rfl
             refine pure_ (i:=12) (N:=some 67) (v:=?_) (a':=?_) #[true,true,true,true,true,true,true,true,true,true,true,true,true,false,false,false,false,false,false] rfl rfl (any_of HT_.out (by kernel_rfl)) (fun _ _ _ h => h) (Or.inl ⟨by rfl,?_⟩) ?_ ?_
             rotate_left
             ·intro w'
              go_simp
              with_reducible rfl
             rotate_left
             ·simp only [Act.put,List.setIfInBounds_toArray,List.set_cons_zero,List.set_cons_succ,i64_w,i32_w]
              rfl
             refine pure_ (i:=13) (N:=some 68) (v:=?_) (a':=?_) #[true,true,true,true,true,true,true,true,true,true,true,true,true,true,false,false,false,false,false] rfl rfl (any_of HT_.out (by kernel_rfl)) (fun _ _ _ h => h) (Or.inl ⟨by rfl,?_⟩) ?_ ?_
             rotate_left
             ·intro w'
              go_simp
              with_reducible rfl
             rotate_left
             ·simp only [Act.put,List.setIfInBounds_toArray,List.set_cons_zero,List.set_cons_succ,i64_w,i32_w]
              rfl
             refine pure_ (i:=14) (N:=some 69) (v:=?_) (a':=?_) #[true,true,true,true,true,true,true,true,true,true,true,true,true,true,true,false,false,false,false] rfl rfl (any_of HT_.out (by kernel_rfl)) (fun _ _ _ h => h) (Or.inl ⟨by rfl,?_⟩) ?_ ?_
             rotate_left
             ·intro w'
              go_simp
              with_reducible rfl
             rotate_left
             ·simp only [Act.put,List.setIfInBounds_toArray,List.set_cons_zero,List.set_cons_succ,i64_w,i32_w]
              rfl
             refine pure_ (i:=15) (N:=some 70) (v:=?_) (a':=?_) #[true,true,true,true,true,true,true,true,true,true,true,true,true,true,true,true,false,false,false] rfl rfl (any_of HT_.out (by kernel_rfl)) (fun _ _ _ h => h) (Or.inl ⟨by rfl,?_⟩) ?_ ?_
             rotate_left
             ·intro w'
              go_simp
              with_reducible rfl
             rotate_left
             ·simp only [Act.put,List.setIfInBounds_toArray,List.set_cons_zero,List.set_cons_succ,i64_w,i32_w]
              rfl
             refine pure_ (i:=16) (N:=some 71) (v:=?_) (a':=?_) #[true,true,true,true,true,true,true,true,true,true,true,true,true,true,true,true,true,false,false] rfl rfl (any_of HT_.out (by kernel_rfl)) (fun _ _ _ h => h) (Or.inl ⟨by rfl,?_⟩) ?_ ?_
             rotate_left
             ·intro w'
              go_simp
              with_reducible rfl
             rotate_left
             ·simp only [Act.put,List.setIfInBounds_toArray,List.set_cons_zero,List.set_cons_succ,i64_w,i32_w]
              rfl
             refine pure_ (i:=17) (N:=some 16) (v:=?_) (a':=?_) #[true,true,true,true,true,true,true,true,true,true,true,true,true,true,true,true,true,true,false] rfl rfl (any_of HT_.out (by kernel_rfl)) (fun _ _ _ h => h) (Or.inl ⟨by rfl,?_⟩) ?_ ?_
             rotate_left
             ·intro w'
              go_simp
              with_reducible rfl
             rotate_left
             ·simp only [Act.put,List.setIfInBounds_toArray,List.set_cons_zero,List.set_cons_succ,i64_w,i32_w]
              rfl
             refine pure_ (i:=18) (N:=some 17) (v:=?_) (a':=?_) #[true,true,true,true,true,true,true,true,true,true,true,true,true,true,true,true,true,true,true] rfl rfl (any_of HT_.out (by kernel_rfl)) (fun _ _ _ h => h) (Or.inl ⟨by rfl,?_⟩) ?_ ?_
             rotate_left
             ·intro w'
              go_simp
              with_reducible rfl
             rotate_left
             ·simp only [Act.put,List.setIfInBounds_toArray,List.set_cons_zero,List.set_cons_succ,i64_w,i32_w]
              rfl
             refine done_ (done_of HT_.out (by kernel_rfl)) ?_
             obtain ⟨Ao29,co29,eo29⟩:=Kd.R_slice HO_9.out
             subst eo29
             try go_wp2
             go_loopg [15,16,74] k2 (fun kq v15 v16 v74 w' => ∃ (x15_3 : Int) (x16_3 : Int) (x74_3 : Int),v15 = .int .i64 x15_3 ∧ v16 = .int .i64 x16_3 ∧ v74 = .int .i64 x74_3 ∧ Aside0 (mdct_Inverse.l2 kq (l0.length : Int) t171 x9_1 t181 x13_2 x52_2 x15_3 x16_3 (Int.tmod (wrap64 (2 * (wrap64 ((wrap64 ((wrap64 (2 * x52_2)) + 1)) + (l0.length : Int))))) (wrap64 (8 * (l0.length : Int)))) (y184.length : Int) x52_2 (x9_1.length : Int) x74_3 = some (r1,r2)) ∧ Aside0 (kq ≤ k2) ∧ Aside0 (Kd.R (Kd.int .i64) 2 w' w.heap.size (fun k_ => some k_ ≠ ((.slice Ao29 x9_1.length co29) : Value).ownBlock ∧ some k_ ≠ (v182 : Value).ownBlock ∧ some k_ ≠ ((.slice Ao25 x13_2.length co25) : Value).ownBlock) v173 t171) ∧ Aside0 (Kd.R (Kd.int .i64) 2 w' w.heap.size (fun k_ => some k_ ≠ (v173 : Value).ownBlock ∧ some k_ ≠ (v182 : Value).ownBlock ∧ some k_ ≠ ((.slice Ao25 x13_2.length co25) : Value).ownBlock) (.slice Ao29 x9_1.length co29) x9_1) ∧ Aside0 (Kd.R (Kd.int .i64) 2 w' w.heap.size (fun k_ => some k_ ≠ (v173 : Value).ownBlock ∧ some k_ ≠ ((.slice Ao29 x9_1.length co29) : Value).ownBlock ∧ some k_ ≠ ((.slice Ao25 x13_2.length co25) : Value).ownBlock) v182 t181) ∧ Aside0 (Kd.R (Kd.int .i64) 2 w' w.heap.size (fun k_ => some k_ ≠ (v173 : Value).ownBlock ∧ some k_ ≠ ((.slice Ao29 x9_1.length co29) : Value).ownBlock ∧ some k_ ≠ (v182 : Value).ownBlock) (.slice Ao25 x13_2.length co25) x13_2) ∧ Aside0 (Below w.heap.size w w'))
             case atStart => exact ⟨(0),(Int.tmod (wrap64 ((wrap64 ((wrap64 (2 * x52_2)) + 1)) + (l0.length : Int))) (wrap64 (8 * (l0.length : Int)))),(0),(by first|rfl|(simp;done)|(simp [*];done)),(by first|rfl|(simp;done)|(simp [*];done)),(by first|rfl|(simp;done)|(simp [*];done)),H',⟨Nat.le_refl _⟩,⟨by (try simp only [hl13_2]);(with_reducible repeat (first|apply ra_|apply rb_|apply rc_));exact HO_7.out⟩,⟨by (try simp only [hl13_2]);(with_reducible repeat (first|apply ra_|apply rb_|apply rc_));exact HO_9.out⟩,⟨by (try simp only [hl13_2]);(with_reducible repeat (first|apply ra_|apply rb_|apply rc_));exact HO_12.out⟩,⟨by (try simp only [hl13_2]);(with_reducible repeat (first|apply ra_|apply rb_|apply rc_));exact HO_13.out⟩,⟨by repeat (first|(with_reducible first|exact HB.out|apply ba_|apply bb_|apply bc_)|exact HB.out)⟩⟩
             case round =>
              clear H'
              try clear c1
              try clear p1
              try clear q1
              try clear hx1
              try clear c2
              try clear p2
              try clear c4
              try clear c4b0
              try clear c4b1
              try clear c5
              try clear c5b0
              try clear c5b1
              try clear c6
              try clear c6b0
              try clear c6b1
              try clear p6
              try clear c10
              try clear c10b0
              try clear c11
              try clear c11b0
              try clear c12
              try clear c12b0
              try clear c14
              try clear c14b0
              try clear p15
              try clear q15
              try clear hx15
              try clear hf15
              try clear p17
              try clear q17
              try clear hx17
              try clear c20
              try clear c20b0
              try clear c20b1
              try clear c21
              try clear c21b0
              try clear c21b1
              try clear c26
              try clear c26b0
              try clear c26h0
              try clear c27
              try clear c27b0
              try clear c27b1
              try clear c27h0
              try clear c27h1
              try clear c28
              try clear c29
              try clear hx15_0
              try clear hx178_0
              try clear p1
              try clear p15
              try clear p17
              try clear p178
              try clear p2
              try clear p6
              try clear q1
              try clear q15
              try clear q17
              try clear q178
              obtain ⟨x15_3,x16_3,x74_3,rfl,rfl,rfl,HA,HK3,HO_7,HO_9,HO_12,HO_13,HB⟩:=hrel
              (try simp only [i64_w,i32_w])
              cases gk with
              | zero => exact absurd HA.out (by simp [mdct_Inverse.l2])
              | succ k3 =>
               have H:=HA.out
               clear HA
               simp only [mdct_Inverse.l2] at H
               by_cases c30 : x74_3 < (x9_1.length : Int)
               ·rw [if_pos c30] at H
                have c30b0:=decide_eq_true c30
                (try (have c30h0:=c30b0;simp only [hl13_2] at c30h0))
                clear c30
                by_cases c31 : 0 ≤ x74_3
                ·rw [if_pos c31] at H
                 have c31b0:=decide_eq_true c31
                 (try (have c31h0:=c31b0;simp only [hl13_2] at c31h0))
                 clear c31
                 by_cases c32 : x74_3 < (x9_1.length : Int)
                 ·rw [if_pos c32] at H
                  have c32b0:=decide_eq_true c32
                  (try (have c32h0:=c32b0;simp only [hl13_2] at c32h0))
                  clear c32
                  by_cases c33 : 0 ≤ x16_3
                  ·rw [if_pos c33] at H
                   have c33b0:=decide_eq_true c33
                   (try (have c33h0:=c33b0;simp only [hl13_2] at c33h0))
                   clear c33
                   by_cases c34 : x16_3 < (t181.length : Int)
                   ·rw [if_pos c34] at H
                    have c34b0:=decide_eq_true c34
                    (try (have c34h0:=c34b0;simp only [hl13_2] at c34h0))
                    clear c34
                    by_cases c35 : (wrap64 (x16_3 + (Int.tmod (wrap64 (2 * (wrap64 ((wrap64 ((wrap64 (2 * x52_2)) + 1)) + (l0.length : Int))))) (wrap64 (8 * (l0.length : Int)))))) ≥ (t181.length : Int)
                    ·rw [if_pos c35] at H
                     have c35b0 : decide ((t181.length : Int) ≤ (wrap64 (x16_3 + (Int.tmod (wrap64 (2 * (wrap64 ((wrap64 ((wrap64 (2 * x52_2)) + 1)) + (l0.length : Int))))) (wrap64 (8 * (l0.length : Int))))))) = true:=decide_eq_true c35
                     (try (have c35h0:=c35b0;simp only [hl13_2] at c35h0))
                     clear c35
                     have H':=ak_ H
                     clear H
                     have p187 : 0 ≤ (x74_3 : Int):=of_decide_eq_true (by first|(with_reducible assumption)|assumption)
                     have q187 : x74_3 < (x9_1.length : Int):=of_decide_eq_true (by first|(with_reducible assumption)|assumption)
                     obtain ⟨ad187,e187,hx187_0⟩:=Kd.at_int (Kd.R_reads' HO_9.out).2.2 x74_3 p187 q187
                     cases e187
                     replace p187:=eq_true p187
                     replace q187:=eq_true q187
                     obtain ⟨Ao36,co36,eo36⟩:=Kd.R_slice HO_12.out
                     subst eo36
                     have p188 : 0 ≤ (x16_3 : Int):=of_decide_eq_true (by first|(with_reducible assumption)|assumption)
                     have q188 : x16_3 < (t181.length : Int):=of_decide_eq_true (by first|(with_reducible assumption)|assumption)
                     obtain ⟨ad188,e188,hx188_0⟩:=Kd.at_int (Kd.R_reads' HO_12.out).2.2 x16_3 p188 q188
                     cases e188
                     replace p188:=eq_true p188
                     replace q188:=eq_true q188
                     go_wp2
                     go_roundg k3
                     case measure => have:=HK1.out;have:=HK2.out;have:=HK3.out;omega
                     case rel => exact ⟨(wrap64 (x15_3 + (wrap64 ((rd x9_1 x74_3) * (rd t181 x16_3))))),(wrap64 ((wrap64 (x16_3 + (Int.tmod (wrap64 (2 * (wrap64 ((wrap64 ((wrap64 (2 * x52_2)) + 1)) + (l0.length : Int))))) (wrap64 (8 * (l0.length : Int)))))) - (t181.length : Int))),(wrap64 (x74_3 + 1)),(by first|rfl|(simp;done)|(simp [*];done)),(by first|rfl|(simp;done)|(simp [*];done)),(by first|rfl|(simp;done)|(simp [*];done)),H',⟨by have:=HK1.out;have:=HK2.out;have:=HK3.out;omega⟩,⟨by (try simp only [hl13_2]);(with_reducible repeat (first|apply ra_|apply rb_|apply rc_));exact HO_7.out⟩,⟨by (try simp only [hl13_2]);(with_reducible repeat (first|apply ra_|apply rb_|apply rc_));exact HO_9.out⟩,⟨by (try simp only [hl13_2]);(with_reducible repeat (first|apply ra_|apply rb_|apply rc_));exact HO_12.out⟩,⟨by (try simp only [hl13_2]);(with_reducible repeat (first|apply ra_|apply rb_|apply rc_));exact HO_13.out⟩,⟨by repeat (first|(with_reducible first|exact HB.out|apply ba_|apply bb_|apply bc_)|exact HB.out)⟩⟩
                    ·rw [if_neg c35] at H
                     have c35b0 : decide ((t181.length : Int) ≤ (wrap64 (x16_3 + (Int.tmod (wrap64 (2 * (wrap64 ((wrap64 ((wrap64 (2 * x52_2)) + 1)) + (l0.length : Int))))) (wrap64 (8 * (l0.length : Int))))))) = false:=decide_eq_false c35
                     (try (have c35h0:=c35b0;simp only [hl13_2] at c35h0))
                     clear c35
                     have H':=ak_ H
                     clear H
                     have p187 : 0 ≤ (x74_3 : Int):=of_decide_eq_true (by first|(with_reducible assumption)|assumption)
                     have q187 : x74_3 < (x9_1.length : Int):=of_decide_eq_true (by first|(with_reducible assumption)|assumption)
                     obtain ⟨ad187,e187,hx187_0⟩:=Kd.at_int (Kd.R_reads' HO_9.out).2.2 x74_3 p187 q187
                     cases e187
                     replace p187:=eq_true p187
                     replace q187:=eq_true q187
                     obtain ⟨Ao37,co37,eo37⟩:=Kd.R_slice HO_12.out
                     subst eo37
                     have p188 : 0 ≤ (x16_3 : Int):=of_decide_eq_true (by first|(with_reducible assumption)|assumption)
                     have q188 : x16_3 < (t181.length : Int):=of_decide_eq_true (by first|(with_reducible assumption)|assumption)
                     obtain ⟨ad188,e188,hx188_0⟩:=Kd.at_int (Kd.R_reads' HO_12.out).2.2 x16_3 p188 q188
                     cases e188
                     replace p188:=eq_true p188
                     replace q188:=eq_true q188
                     go_wp2
                     go_roundg k3
                     case measure => have:=HK1.out;have:=HK2.out;have:=HK3.out;omega
                     case rel => exact ⟨(wrap64 (x15_3 + (wrap64 ((rd x9_1 x74_3) * (rd t181 x16_3))))),(wrap64 (x16_3 + (Int.tmod (wrap64 (2 * (wrap64 ((wrap64 ((wrap64 (2 * x52_2)) + 1)) + (l0.length : Int))))) (wrap64 (8 * (l0.length : Int)))))),(wrap64 (x74_3 + 1)),(by first|rfl|(simp;done)|(simp [*];done)),(by first|rfl|(simp;done)|(simp [*];done)),(by first|rfl|(simp;done)|(simp [*];done)),H',⟨by have:=HK1.out;have:=HK2.out;have:=HK3.out;omega⟩,⟨by (try simp only [hl13_2]);(with_reducible repeat (first|apply ra_|apply rb_|apply rc_));exact HO_7.out⟩,⟨by (try simp only [hl13_2]);(with_reducible repeat (first|apply ra_|apply rb_|apply rc_));exact HO_9.out⟩,⟨by (try simp only [hl13_2]);(with_reducible repeat (first|apply ra_|apply rb_|apply rc_));exact HO_12.out⟩,⟨by (try simp only [hl13_2]);(with_reducible repeat (first|apply ra_|apply rb_|apply rc_));exact HO_13.out⟩,⟨by repeat (first|(with_reducible first|exact HB.out|apply ba_|apply bb_|apply bc_)|exact HB.out)⟩⟩
                   ·rw [if_neg c34] at H
                    exact absurd H (by simp)
                  ·rw [if_neg c33] at H
                   exact absurd H (by simp)
                 ·rw [if_neg c32] at H
                  exact absurd H (by simp)
                ·rw [if_neg c31] at H
                 exact absurd H (by simp)
               ·rw [if_neg c30] at H
                have c30b0:=decide_eq_false c30
                (try (have c30h0:=c30b0;simp only [hl13_2] at c30h0))
                clear c30
                by_cases c38 : 0 ≤ x52_2
                ·rw [if_pos c38] at H
                 have c38b0:=decide_eq_true c38
                 (try (have c38h0:=c38b0;simp only [hl13_2] at c38h0))
                 clear c38
                 by_cases c39 : x52_2 < (t171.length : Int)
                 ·rw [if_pos c39] at H
                  have c39b0:=decide_eq_true c39
                  (try (have c39h0:=c39b0;simp only [hl13_2] at c39h0))
                  clear c39
                  replace H:=Option.bind_eq_some_iff.mp H
                  obtain ⟨t190,A400,H⟩:=H
                  (try dsimp only at H)
                  have A40:=ak_ A400
                  clear A400
                  replace H:=Option.bind_eq_some_iff.mp H
                  obtain ⟨t191,A410,H⟩:=H
                  (try dsimp only at H)
                  have A41:=ak_ A410
                  clear A410
                  replace H:=Option.bind_eq_some_iff.mp H
                  obtain ⟨t192,A420,H⟩:=H
                  (try dsimp only at H)
                  have A42:=ak_ A420
                  clear A420
                  by_cases c43 : x52_2 < (x13_2.length : Int)
                  ·rw [if_pos c43] at H
                   have c43b0:=decide_eq_true c43
                   (try (have c43h0:=c43b0;simp only [hl13_2] at c43h0))
                   clear c43
                   obtain ⟨y193,hy193⟩ : ∃ y_ : List Int,y_ = (x13_2.set (x52_2 : Int).toNat t192):=⟨_,rfl⟩
                   replace H : (mdct_Inverse.l1 k3 (l0.length : Int) t171 x9_1 t181 y193 (y184.length : Int) (wrap64 (x52_2 + 1))) = some (r1,r2):=by first|(rw [hy193];with_reducible exact H)|(have H2_:=(Option.bind_some _ _).symm.trans H;rw [hy193];with_reducible exact H2_)|(have H2_:=(Option.bind_some _ _).symm.trans H;with_reducible exact H2_)|with_reducible exact H|(rw [hy193];exact H)|exact H
                   have Ny193:=ak_ hy193
                   clear hy193
                   have H':=ak_ H
                   clear H
                   try go_wp2
                   have n0_:=ak_ (Kd.R_drew HO_7.out)
                   have n1_:=ak_ (Kd.R_drew HO_9.out)
                   have n2_:=ak_ (Kd.R_drew HO_12.out)
                   have n3_:=ak_ (Kd.R_drew HO_13.out)
                   have n4_:=ak_ (below_drew1 HB.out)
                   clear HO_7
                   clear HO_9
                   clear HO_12
                   clear HO_13
                   clear HB
                   have HO_7:=n0_
                   have HO_9:=n1_
                   have HO_12:=n2_
                   have HO_13:=n3_
                   have HB:=n4_
                   clear n0_ n1_ n2_ n3_ n4_
                   obtain ⟨Ao46,co46,eo46⟩:=Kd.R_slice HO_7.out
                   (first|subst eo46|(injection eo46 with f1_ f2_ f3_;have f4_:=f1_.symm;have f5_:=f3_.symm;clear f1_ f2_ f3_;subst f4_;subst f5_))
                   have p189 : 0 ≤ (x52_2 : Int):=of_decide_eq_true (by first|(with_reducible assumption)|assumption)
                   have q189 : x52_2 < (t171.length : Int):=of_decide_eq_true (by first|(with_reducible assumption)|assumption)
                   obtain ⟨ad189,e189,hx189_0⟩:=Kd.at_int (Kd.R_reads' HO_7.out).2.2 x52_2 p189 q189
                   cases e189
                   replace p189:=eq_true p189
                   replace q189:=eq_true q189
                   refine start_ (n:=18) (S:=fun w' => w'.cell? (ad189.add (x52_2).toNat) = some (.int .i64 (rd t171 x52_2))) (ds:=[17]) #[false,false,false,false,false,false,false,false,false,false,false,false,false,false,false,false,false,false] (by kernel_rfl) rfl rfl (hx189_0) (fun hHeld => ?_);refine with_tabW mdct_Inverse.tab26 mdct_Inverse.bits26 (fun HT_ HW_ => ?_)
                   generalize wr.drew = w45 at HO_7 HO_9 HO_12 HO_13 HB hx189_0 hHeld ⊢
                   refine pure_ (i:=0) (N:=some 98) (v:=?_) (a':=?_) #[true,false,false,false,false,false,false,false,false,false,false,false,false,false,false,false,false,false] rfl rfl (any_of HT_.out (by kernel_rfl)) (fun _ _ _ h => h) (Or.inl ⟨by rfl,?_⟩) ?_ ?_
                   rotate_left
                   ·intro w'
                    go_simp
                    with_reducible rfl
                   rotate_left
                   ·simp only [Act.put,List.setIfInBounds_toArray,List.set_cons_zero,List.set_cons_succ,i64_w,i32_w]
                    rfl
                   refine pure_ (i:=1) (N:=some 99) (v:=?_) (a':=?_) #[true,true,false,false,false,false,false,false,false,false,false,false,false,false,false,false,false,false] rfl rfl (any_of HT_.out (by kernel_rfl)) (fun _ _ _ h => h) (Or.inl ⟨by rfl,?_⟩) ?_ ?_
                   rotate_left
                   ·intro w'
                    go_simp
                    with_reducible rfl
                   rotate_left
                   ·simp only [Act.put,List.setIfInBounds_toArray,List.set_cons_zero,List.set_cons_succ,i64_w,i32_w]
                    rfl
                   refine pure_ (i:=2) (N:=some 100) (v:=?_) (a':=?_) #[true,true,true,false,false,false,false,false,false,false,false,false,false,false,false,false,false,false] rfl rfl (any_of HT_.out (by kernel_rfl)) (fun _ _ _ h => h) (Or.inl ⟨by rfl,?_⟩) ?_ ?_
                   rotate_left
                   ·intro w'
                    go_simp
                    with_reducible rfl
                   rotate_left
                   ·simp only [Act.put,List.setIfInBounds_toArray,List.set_cons_zero,List.set_cons_succ,i64_w,i32_w]
                    rfl
                   refine pure_ (i:=3) (N:=some 101) (v:=?_) (a':=?_) #[true,true,true,true,false,false,false,false,false,false,false,false,false,false,false,false,false,false] rfl rfl (any_of HT_.out (by kernel_rfl)) (fun _ _ _ h => h) (Or.inl ⟨by rfl,?_⟩) ?_ ?_
                   rotate_left
                   ·intro w'
                    go_simp
                    with_reducible rfl
                   rotate_left
                   ·simp only [Act.put,List.setIfInBounds_toArray,List.set_cons_zero,List.set_cons_succ,i64_w,i32_w]
                    rfl
                   refine pure_ (i:=4) (N:=some 102) (v:=?_) (a':=?_) #[true,true,true,true,true,false,false,false,false,false,false,false,false,false,false,false,false,false] rfl rfl (any_of HT_.out (by kernel_rfl)) (fun _ _ _ h => h) (Or.inl ⟨by rfl,?_⟩) ?_ ?_
                   rotate_left
                   ·intro w'
                    go_simp
                    with_reducible rfl
                   rotate_left
                   ·simp only [Act.put,List.setIfInBounds_toArray,List.set_cons_zero,List.set_cons_succ,i64_w,i32_w]
                    rfl
                   refine pure_ (i:=6) (N:=some 104) (v:=?_) (a':=?_) #[true,true,true,true,true,false,true,false,false,false,false,false,false,false,false,false,false,false] rfl rfl (any_of HT_.out (by kernel_rfl)) (fun _ _ _ h => h) (Or.inl ⟨by rfl,?_⟩) ?_ ?_
                   rotate_left
                   ·intro w'
                    go_simp
                    with_reducible rfl
                   rotate_left
                   ·simp only [Act.put,List.setIfInBounds_toArray,List.set_cons_zero,List.set_cons_succ,i64_w,i32_w]
                    rfl
                   refine pure_ (i:=7) (N:=some 105) (v:=?_) (a':=?_) #[true,true,true,true,true,false,true,true,false,false,false,false,false,false,false,false,false,false] rfl rfl (any_of HT_.out (by kernel_rfl)) (fun _ _ _ h => h) (Or.inl ⟨by rfl,?_⟩) ?_ ?_
                   rotate_left
                   ·intro w'
                    go_simp
                    with_reducible rfl
                   rotate_left
                   ·simp only [Act.put,List.setIfInBounds_toArray,List.set_cons_zero,List.set_cons_succ,i64_w,i32_w]
                    rfl
                   refine pure_ (i:=8) (N:=some 106) (v:=?_) (a':=?_) #[true,true,true,true,true,false,true,true,true,false,false,false,false,false,false,false,false,false] rfl rfl (any_of HT_.out (by kernel_rfl)) (fun _ _ _ h => h) (Or.inl ⟨by rfl,?_⟩) ?_ ?_
                   rotate_left
                   ·intro w'
                    go_simp
                    with_reducible rfl
                   rotate_left
                   ·simp only [Act.put,List.setIfInBounds_toArray,List.set_cons_zero,List.set_cons_succ,i64_w,i32_w]
                    rfl
                   refine pure_ (i:=9) (N:=some 107) (v:=?_) (a':=?_) #[true,true,true,true,true,false,true,true,true,true,false,false,false,false,false,false,false,false] rfl rfl (any_of HT_.out (by kernel_rfl)) (fun _ _ _ h => h) (Or.inl ⟨by rfl,?_⟩) ?_ ?_
                   rotate_left
                   ·intro w'
                    go_simp
                    with_reducible rfl
                   rotate_left
                   ·simp only [Act.put,List.setIfInBounds_toArray,List.set_cons_zero,List.set_cons_succ,i64_w,i32_w]
                    rfl
                   refine pure_ (i:=10) (N:=some 108) (v:=?_) (a':=?_) #[true,true,true,true,true,false,true,true,true,true,true,false,false,false,false,false,false,false] rfl rfl (any_of HT_.out (by kernel_rfl)) (fun _ _ _ h => h) (Or.inl ⟨by rfl,?_⟩) ?_ ?_
                   rotate_left
                   ·intro w'
                    go_simp
                    with_reducible rfl
                   rotate_left
                   ·simp only [Act.put,List.setIfInBounds_toArray,List.set_cons_zero,List.set_cons_succ,i64_w,i32_w]
                    rfl
                   refine pure_ (i:=11) (N:=some 109) (v:=?_) (a':=?_) #[true,true,true,true,true,false,true,true,true,true,true,true,false,false,false,false,false,false] rfl rfl (any_of HT_.out (by kernel_rfl)) (fun _ _ _ h => h) (Or.inl ⟨by rfl,?_⟩) ?_ ?_
                   rotate_left
                   ·intro w'
                    go_simp
                    with_reducible rfl
                   rotate_left
                   ·simp only [Act.put,List.setIfInBounds_toArray,List.set_cons_zero,List.set_cons_succ,i64_w,i32_w]
                    rfl
                   refine pure_ (i:=12) (N:=some 110) (v:=?_) (a':=?_) #[true,true,true,true,true,false,true,true,true,true,true,true,true,false,false,false,false,false] rfl rfl (any_of HT_.out (by kernel_rfl)) (fun _ _ _ h => h) (Or.inl ⟨by rfl,?_⟩) ?_ ?_
                   rotate_left
                   ·intro w'
                    go_simp
                    with_reducible rfl
                   rotate_left
                   ·simp only [Act.put,List.setIfInBounds_toArray,List.set_cons_zero,List.set_cons_succ,i64_w,i32_w]
                    rfl
                   refine take_ (i:=5) (N:=some 103) (v:=?_) (a':=?_) #[true,true,true,true,true,true,true,true,true,true,true,true,true,false,false,false,false,false] rfl rfl (take_ofW HT_.out HW_.out (by kernel_rfl)) (fun _ _ _ h => h) (Or.inl ⟨by rfl,?_⟩) hHeld ?_ ?_
                   rotate_left
                   ·intro w' s0
                    go_simp
                    with_reducible rfl
                   rotate_left
                   ·simp only [Act.put,List.setIfInBounds_toArray,List.set_cons_zero,List.set_cons_succ,i64_w,i32_w]
                    rfl
                   refine one_ (i:=13) (N:=some 111) #[true,true,true,true,true,true,true,true,true,true,true,true,true,true,false,false,false,false] rfl rfl (one_of HT_.out (by kernel_rfl)) (by decide) (fun K hK => ?_)
                   refine goes_ Try.func30 (by kernel_rfl) rfl #[.int .i64 (wrap64 ((wrap64 (2 * x15_3)) + (wrap64 (16384 * (l0.length : Int))))),.int .i64 (wrap64 (32768 * (l0.length : Int)))] (by rfl) rfl rfl (by (try simp only [List.map_toArray,List.map_cons,List.map_nil]);first|done|rfl|(simp only [List.length_drop,List.length_take];rfl)) ?_
                   with_reducible refine (mdct_down.calls (wrap64 ((wrap64 (2 * x15_3)) + (wrap64 (16384 * (l0.length : Int))))) (wrap64 (32768 * (l0.length : Int))) t190 _ A40.out).mono ?_
                   rintro e w' ⟨rfl,⟨nd,rfl⟩⟩
                   refine ⟨_,rfl,?_⟩
                   refine hK.out _ _ (hHeld) (fun hHeld => ?_)
                   clear hK K
                   refine norm_ (a':=?_) ?_ ?_
                   rotate_left
                   ·show Act.put _ (some 111) _ = _
                    simp only [Act.put,List.setIfInBounds_toArray,List.set_cons_zero,List.set_cons_succ,i64_w,i32_w]
                    rfl
                   refine one_ (i:=14) (N:=some 112) #[true,true,true,true,true,true,true,true,true,true,true,true,true,true,true,false,false,false] rfl rfl (one_of HT_.out (by kernel_rfl)) (by decide) (fun K hK => ?_)
                   refine goes_ Try.func28 (by kernel_rfl) rfl #[.int .i64 t190,.int .i64 (-16777216),.int .i64 16777216] (by rfl) rfl rfl (by (try simp only [List.map_toArray,List.map_cons,List.map_nil]);first|done|rfl|(simp only [List.length_drop,List.length_take];rfl)) ?_
                   with_reducible refine (fix_Clamp.calls k3 t190 (-16777216) 16777216 t191 _ A41.out).mono ?_
                   rintro e w' ⟨rfl,⟨nd,rfl⟩⟩
                   refine ⟨_,rfl,?_⟩
                   refine hK.out _ _ (hHeld) (fun hHeld => ?_)
                   clear hK K
                   refine norm_ (a':=?_) ?_ ?_
                   rotate_left
                   ·show Act.put _ (some 112) _ = _
                    simp only [Act.put,List.setIfInBounds_toArray,List.set_cons_zero,List.set_cons_succ,i64_w,i32_w]
                    rfl
                   refine one_ (i:=15) (N:=some 113) #[true,true,true,true,true,true,true,true,true,true,true,true,true,true,true,true,false,false] rfl rfl (one_of HT_.out (by kernel_rfl)) (by decide) (fun K hK => ?_)
                   refine goes_ Try.func27 (by kernel_rfl) rfl #[.int .i64 (rd t171 x52_2),.int .i64 t191,.int .i64 15] (by rfl) rfl rfl (by (try simp only [List.map_toArray,List.map_cons,List.map_nil]);first|done|rfl|(simp only [List.length_drop,List.length_take];rfl)) ?_
                   with_reducible refine (fix_Mul.calls k3 (rd t171 x52_2) t191 15 t192 _ A42.out).mono ?_
                   rintro e w' ⟨rfl,⟨nd,rfl⟩⟩
                   refine ⟨_,rfl,?_⟩
                   have p44 : 0 ≤ (x52_2 : Int):=of_decide_eq_true (by first|(with_reducible assumption)|assumption)
                   have q44 : (x52_2 : Int) < ((x13_2.length : Int) : Int):=of_decide_eq_true (by first|(with_reducible assumption)|assumption)
                   obtain ⟨go44,co44,eo44,gb44,gl44,cl44,HG44⟩:=Kd.R_form HO_13.out (by omega)
                   (first|cases eo44|(injection eo44 with ea_ en_ ec_;(first|subst ea_|(injection ea_ with ea_;subst ea_));subst ec_;clear en_))
                   have GB44:=ak_ gb44
                   have GG44:=ak_ HG44
                   clear gb44 gl44 HG44
                   obtain ⟨hx44_0,hf44_0⟩:=Kd.R_celln 0 HO_13.out (x52_2 : Int) p44 q44
                   replace p44:=eq_true p44
                   replace q44:=eq_true q44
                   have HP47:=Kd.R_putn HO_13.out (x52_2 : Int) t192
                   rw [← Ny193.out] at HP47
                   have HQ47:=ak_ HP47
                   clear HP47
                   refine hK.out _ _ (hHeld) (fun hHeld => ?_)
                   clear hK K
                   refine norm_ (a':=?_) ?_ ?_
                   rotate_left
                   ·show Act.put _ (some 113) _ = _
                    simp only [Act.put,List.setIfInBounds_toArray,List.set_cons_zero,List.set_cons_succ,i64_w,i32_w]
                    rfl
                   refine pure_ (i:=16) (N:=some 114) (v:=?_) (a':=?_) #[true,true,true,true,true,true,true,true,true,true,true,true,true,true,true,true,true,false] rfl rfl (any_of HT_.out (by kernel_rfl)) (fun _ _ _ h => h) (Or.inl ⟨by rfl,?_⟩) ?_ ?_
                   rotate_left
                   ·intro w'
                    go_simp
                    with_reducible rfl
                   rotate_left
                   ·simp only [Act.put,List.setIfInBounds_toArray,List.set_cons_zero,List.set_cons_succ,i64_w,i32_w]
                    rfl
                   refine last_ (i:=17) (N:=none) #[true,true,true,true,true,true,true,true,true,true,true,true,true,true,true,true,true,true] rfl rfl (one_of HT_.out (by kernel_rfl)) (by decide) (fun K hK => ?_)
                   refine skip_ (w1:=?_) (by rfl) rfl ?_ ?_
                   rotate_left
                   ·go_simp
                    rfl
                   refine hK.out _ _ ?_
                   clear hK K
                   refine done_ (done_of HT_.out (by kernel_rfl)) ?_
                   try go_wp2
                   (try simp only [← hl13_2])
                   go_roundg k3
                   case measure => have:=HK1.out;have:=HK2.out;have:=HK3.out;omega
                   case rel => exact ⟨(y193),(wrap64 (x52_2 + 1)),(by first|rfl|(simp;done)|(simp [*];done)),H',⟨by have:=HK1.out;have:=HK2.out;have:=HK3.out;omega⟩,⟨by (try simp only [hl13_2]);(with_reducible repeat (first|apply ra_|apply rb_|apply rc_));exact Kd.R_mono (Kd.R_far (p:=⟨go44,(x52_2 : Int).toNat,none⟩) (Kd.R_mono HO_7.out (fun k_ hk => (⟨hk,fun e_ => hk.2.2 (by rw [e_];rfl)⟩ : _ ∧ k_ ≠ go44))) (fun _ hk => hk.2) (.int .i64 t192)) (fun _ hk => ⟨hk.1.1,⟨hk.1.2.1,hk.1.2.2⟩⟩)⟩,⟨by (try simp only [hl13_2]);(with_reducible repeat (first|apply ra_|apply rb_|apply rc_));exact Kd.R_mono (Kd.R_far (p:=⟨go44,(x52_2 : Int).toNat,none⟩) (Kd.R_mono HO_9.out (fun k_ hk => (⟨hk,fun e_ => hk.2.2 (by rw [e_];rfl)⟩ : _ ∧ k_ ≠ go44))) (fun _ hk => hk.2) (.int .i64 t192)) (fun _ hk => ⟨hk.1.1,⟨hk.1.2.1,hk.1.2.2⟩⟩)⟩,⟨by (try simp only [hl13_2]);(with_reducible repeat (first|apply ra_|apply rb_|apply rc_));exact Kd.R_mono (Kd.R_far (p:=⟨go44,(x52_2 : Int).toNat,none⟩) (Kd.R_mono HO_12.out (fun k_ hk => (⟨hk,fun e_ => hk.2.2 (by rw [e_];rfl)⟩ : _ ∧ k_ ≠ go44))) (fun _ hk => hk.2) (.int .i64 t192)) (fun _ hk => ⟨hk.1.1,⟨hk.1.2.1,hk.1.2.2⟩⟩)⟩,⟨by (try simp only [hl13_2]);(with_reducible repeat (first|apply ra_|apply rb_|apply rc_));exact HQ47.out⟩,⟨by repeat (first|(with_reducible first|exact HB.out|apply ba_|apply bb_|apply bc_|refine below_set ?_ GB44.out)|exact HB.out)⟩⟩
                  ·rw [if_neg c43] at H
                   exact absurd H (by simp)
                 ·rw [if_neg c39] at H
                  exact absurd H (by simp)
                ·rw [if_neg c38] at H
                 exact absurd H (by simp)
           ·rw [if_neg c26] at H
            have c26b0:=decide_eq_false c26
            (try (have c26h0:=c26b0;simp only [hl13_2] at c26h0))
            clear c26
            simp only [Option.some.injEq,Prod.mk.injEq] at H
            obtain ⟨rfl,rfl⟩:=H
            go_wp2
            go_ret2
            exact ⟨_,by first|rfl|(simp [errW_none,errW_some] <;> rfl)|(simp only [← hji19];first|rfl|(simp [errW_none,errW_some] <;> rfl))|(simp [*,errW_none,errW_some] <;> rfl),by (with_reducible repeat (first|apply ra_|apply rb_|apply rc_));exact Kd.R_mono HO_13.out (fun _ hk => trivial),by repeat (first|(with_reducible first|exact HB.out|apply ba_|apply bb_|apply bc_)|exact HB.out)⟩
        ·rw [if_neg c21] at H
         exact absurd H (by simp)
       ·rw [if_neg c20] at H
        exact absurd H (by simp)
   ·rw [if_neg c6] at H
    exact absurd H (by simp)
  ·rw [if_neg c5] at H
   exact absurd H (by simp)
 ·rw [if_neg c4] at H
  have c4b0 : (t172 == 0) = false:=beq_eq_false_iff_ne.mpr c4
  have c4b1 : (t172 != 0) = true:=bne_iff_ne.mpr c4
  simp only [Option.some.injEq,Prod.mk.injEq] at H
  obtain ⟨rfl,rfl⟩:=H
  go_enter Try.func12,Try.ntmps12
  go_wp2_with (first|((with_reducible refine gate_callee (f:=10) rfl ?_);refine goesL_ (some 25) rfl rfl Try.func10 (by kernel_rfl) rfl #[.int .i64 (l0.length : Int),.int .i64 a1] rfl (by (try simp only [List.map_toArray,List.map_cons,List.map_nil]);first|done|rfl|(simp only [List.length_drop,List.length_take];rfl)) ?_;(with_reducible refine (mdct_Shape.calls k (l0.length : Int) a1 t171 t172 _ A3.out).mono ?_);rintro e w48 ⟨v173,rfl,ho0,hb⟩;refine ⟨_,rfl,?_⟩;have n0_:=ak_ (Kd.R_lower ho0 (below_size (by repeat (first|(with_reducible first|exact HB.out|apply ba_|apply bb_|apply bc_)|exact HB.out))));have n1_:=ak_ (below_step (by repeat (first|(with_reducible first|exact HB.out|apply ba_|apply bb_|apply bc_)|exact HB.out)) hb);clear HB;have HO174:=n0_;have HB:=n1_;clear n0_ n1_;(try clear hb);(try clear ho0)))
  go_ret2
  exact ⟨_,by first|rfl|(simp [errW_none,errW_some] <;> rfl)|(simp [*,errW_none,errW_some] <;> rfl),by first|exact Kd.R_nil _ _ _ _ _|exact Kd.N_nil _ _ _ _ _|exact Kd.V_nil _ _ _ _ _|exact Kd.Q_nil _ _ _ _ _|exact Kd.S_nil _ _ _ _ _,by repeat (first|(with_reducible first|exact HB.out|apply ba_|apply bb_|apply bc_)|exact HB.out)⟩

end Go.Proofs.Ytlmacbiahofmcaa.P
