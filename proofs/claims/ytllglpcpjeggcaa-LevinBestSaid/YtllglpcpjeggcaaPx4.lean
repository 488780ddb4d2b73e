/- The machine side of the laws of one chapter, without conditions: each call of a Go function comes to what the Lean function of its name answers. Written for this claim by a program of the prover. -/
import Derived.Test.YtllglpcpjeggcaaPx0
import Derived.Test.YtllglpcpjeggcaaPx1
namespace Go.Proofs.Ytllglpcpjeggcaa.P
open Go.RowKit Go.Proofs.YtllglpcpjeggcaaW.PrintWords Go.Proofs.YtllglpcpjeggcaaW.PrintLast Go.Proofs.YtllglpcpjeggcaaW.PrintMore
attribute [local go_sem] max2_int min2_int max_two min_two max_three min_three max_four min_four   -- for this text's walks alone
set_option linter.unusedVariables false
set_option linter.unusedSimpArgs false

/-! ### levin_scaled: function 24 -/
mutual
def levin_scaled.l0 : Nat → List Int → List Int → Int → Int → Option (List Int)
 | 0,_,_,_,_ => none
 | k + 1,x3,x11,x12,x13 => if x13 < x12 then (if 0 ≤ x13 then (if x13 < (x11.length : Int) then ((fix_Clamp.f k (rd x11 x13) (-2199023255552) 2199023255552).bind fun t122 => (if x13 < (x3.length : Int) then (levin_scaled.l0 k (x3.set (x13 : Int).toNat t122) x11 x12 (wrap64 (x13 + 1))) else (none))) else (none)) else (none)) else (levin_scaled.l1 k x3)
def levin_scaled.l1 : Nat → List Int → Option (List Int)
 | 0,_ => none
 | k + 1,x3 => if 0 < (x3.length : Int) then (if (rd x3 0) < 536870912 then (levin_scaled.l2 k x3 (x3.length : Int) 0) else (levin_scaled.l3 k x3)) else (none)
def levin_scaled.l2 : Nat → List Int → Int → Int → Option (List Int)
 | 0,_,_,_ => none
 | k + 1,x3,x29,x30 => if x30 < x29 then (if 0 ≤ x30 then (if x30 < (x3.length : Int) then ((fix_Clamp.f k (wrap64 (2 * (rd x3 x30))) (-1125899906842624) 1125899906842624).bind fun t126 => (levin_scaled.l2 k (x3.set (x30 : Int).toNat t126) x29 (wrap64 (x30 + 1)))) else (none)) else (none)) else (levin_scaled.l1 k x3)
def levin_scaled.l3 : Nat → List Int → Option (List Int)
 | 0,_ => none
 | k + 1,x3 => if 0 < (x3.length : Int) then (if (rd x3 0) ≥ 1073741824 then (levin_scaled.l4 k x3 (x3.length : Int) 0) else (some (x3.set (0 : Int).toNat (wrap64 ((rd x3 0) + (wrap64 ((wrap64 (Int.tdiv (rd x3 0) 1024)) + 1))))))) else (none)
def levin_scaled.l4 : Nat → List Int → Int → Int → Option (List Int)
 | 0,_,_,_ => none
 | k + 1,x3,x48,x49 => if x49 < x48 then (if 0 ≤ x49 then (if x49 < (x3.length : Int) then (levin_scaled.l4 k (x3.set (x49 : Int).toNat ((rd x3 x49) / 2)) x48 (wrap64 (x49 + 1))) else (none)) else (none)) else (levin_scaled.l3 k x3)
end
def levin_scaled.f (k : Nat) (l0 : List Int) : Option (List Int):=if 0 ≤ (l0.length : Int) then (if ((l0.length : Int) : Int).toNat ≤ 35184372088832 then (levin_scaled.l0 k (List.replicate ((l0.length : Int) : Int).toNat 0) l0 (l0.length : Int) 0) else (none)) else (none)
theorem levin_scaled.mono_l : ∀ k,(∀ y0 y1 y2 y3,LeO (levin_scaled.l0 k y0 y1 y2 y3) (levin_scaled.l0 (k + 1) y0 y1 y2 y3)) ∧ (∀ y0,LeO (levin_scaled.l1 k y0) (levin_scaled.l1 (k + 1) y0)) ∧ (∀ y0 y1 y2,LeO (levin_scaled.l2 k y0 y1 y2) (levin_scaled.l2 (k + 1) y0 y1 y2)) ∧ (∀ y0,LeO (levin_scaled.l3 k y0) (levin_scaled.l3 (k + 1) y0)) ∧ (∀ y0 y1 y2,LeO (levin_scaled.l4 k y0 y1 y2) (levin_scaled.l4 (k + 1) y0 y1 y2))
 | 0 => ⟨fun _ _ _ _ r h => by simp [levin_scaled.l0] at h,fun _ r h => by simp [levin_scaled.l1] at h,fun _ _ _ r h => by simp [levin_scaled.l2] at h,fun _ r h => by simp [levin_scaled.l3] at h,fun _ _ _ r h => by simp [levin_scaled.l4] at h⟩
 | k + 1 => by
  obtain ⟨ih0,ih1,ih2,ih3,ih4⟩:=levin_scaled.mono_l k
  refine ⟨?_,?_,?_,?_,?_⟩
  all_goals (intros;first|unfold levin_scaled.l0|unfold levin_scaled.l1|unfold levin_scaled.l2|unfold levin_scaled.l3|unfold levin_scaled.l4)
  all_goals (repeat' first|(with_reducible first|exact ih0 _ _ _ _|exact ih1 _|exact ih2 _ _ _|exact ih3 _|exact ih4 _ _ _|exact fix_Clamp.mono _ _ _ _|exact LeO.refl _|exact LeO.none _|refine LeO.ite ?_ ?_|refine LeO.bind ?_ (fun _ => ?_))|exact ih0 _ _ _ _|exact ih1 _|exact ih2 _ _ _|exact ih3 _|exact ih4 _ _ _|exact fix_Clamp.mono _ _ _ _|exact LeO.none _|refine LeO.ite ?_ ?_|refine LeO.bind ?_ (fun _ => ?_))
theorem levin_scaled.mono : ∀ a0 k,LeO (levin_scaled.f k a0) (levin_scaled.f (k + 1) a0):=by
 intro a0 k
 obtain ⟨ih0,ih1,ih2,ih3,ih4⟩:=levin_scaled.mono_l k
 unfold levin_scaled.f
 repeat' first|(with_reducible first|exact ih0 _ _ _ _|exact ih1 _|exact ih2 _ _ _|exact ih3 _|exact ih4 _ _ _|exact fix_Clamp.mono _ _ _ _|exact LeO.refl _|exact LeO.none _|refine LeO.ite ?_ ?_|refine LeO.bind ?_ (fun _ => ?_))|exact ih0 _ _ _ _|exact ih1 _|exact ih2 _ _ _|exact ih3 _|exact ih4 _ _ _|exact fix_Clamp.mono _ _ _ _|exact LeO.none _|refine LeO.ite ?_ ?_|refine LeO.bind ?_ (fun _ => ?_)
def levin_scaled.T19 : Bool × List (List Nat × List Nat):=(true,[([],[]),([0],[0]),([1],[1]),([],[]),([3],[3]),([4],[4]),([5],[5]),([6],[6]),([2,7],[2,7]),([0,0,1,2,3,4,5,6,7,8],[0]),([9,8,0,1,2,3,4,5,6,7,8],[8,9])])
def levin_scaled.B19 : List Nat:=[0,1,3,0,8,24,56,120,255,511,1023]
theorem levin_scaled.tab19 : rtab .any (opsOf Try.f24 19) = levin_scaled.T19:=by kernel_rfl
theorem levin_scaled.bits19 : waitsOk levin_scaled.T19.2 levin_scaled.B19 = true:=by kernel_rfl
set_option maxHeartbeats 8000000 in
set_option maxRecDepth 100000 in
theorem levin_scaled.calls (k : Nat) (A0 : Option Addr) (c0 : Nat) (l0 : List Int) (r : List Int) (w : World) (hr0 : Kd.C (Kd.int .i64) w A0 l0.length l0) (hc0 : l0.length ≤ c0) (h : levin_scaled.f k l0 = some r) :
  Calls Try.prog 24 #[.slice A0 l0.length c0] w fun e w' => ∃ v0_ : Value,e = .returned (v0_) ∧ Kd.R (Kd.int .i64) 2 w' w.heap.size (fun _ => True) v0_ r ∧ Below w.heap.size w w':=by
 have HR0:=ak_ hr0
 have HC0:=ak_ hc0
 clear hr0 hc0
 have HB:=ak_ (Below.refl w.heap.size w)
 have H : (if 0 ≤ (l0.length : Int) then (if ((l0.length : Int) : Int).toNat ≤ 35184372088832 then (levin_scaled.l0 k (List.replicate ((l0.length : Int) : Int).toNat 0) l0 (l0.length : Int) 0) else (none)) else (none)) = some r:=h
 clear h
 by_cases c2 : 0 ≤ (l0.length : Int)
 ·rw [if_pos c2] at H
  have c2b0:=eq_true c2
  have c2b1 : decide (0 ≤ (l0.length : Int)) = true:=decide_eq_true c2
  clear c2
  by_cases c3 : ((l0.length : Int) : Int).toNat ≤ 35184372088832
  ·rw [if_pos c3] at H
   have c3b0:=eq_true c3
   have c3b1 : decide (((l0.length : Int) : Int).toNat ≤ 35184372088832) = true:=decide_eq_true c3
   clear c3
   obtain ⟨y118,hy118⟩ : ∃ y_ : List Int,y_ = (List.replicate ((l0.length : Int) : Int).toNat 0):=⟨_,rfl⟩
   replace H : (levin_scaled.l0 k y118 l0 (l0.length : Int) 0) = some r:=by first|(rw [hy118];with_reducible exact H)|(have H2_:=(Option.bind_some _ _).symm.trans H;rw [hy118];with_reducible exact H2_)|(have H2_:=(Option.bind_some _ _).symm.trans H;with_reducible exact H2_)|with_reducible exact H|(rw [hy118];exact H)|exact H
   have Ny118:=ak_ hy118
   clear hy118
   have H':=ak_ H
   clear H
   go_enter Try.func24,Try.ntmps24
   go_wp2_with (first|((with_reducible refine gate_dst (N:=10) rfl ?_);refine Kd.R_make (Kd.int .i64) _ 2 rfl (N:=10) rfl 23 _ _ rfl (l0.length : Int) rfl rfl Try.underlying23 (.int .i64 0) 8 info2 rfl (by decide) (by omega) 0 (ok:=fun _ => True) (okp:=fun _ => True) rfl (fun _ hk => hk) trivial (of_decide_eq_true (by first|(with_reducible assumption)|assumption)) (Nat.le_trans (Nat.mul_le_mul_right _ (of_decide_eq_true (by first|(with_reducible assumption)|assumption) : (l0.length : Int).toNat ≤ 35184372088832)) (by omega)) (Below.refl _ _) (Nat.le_refl _) ?_;intro v119 w4 ho5 hb hg_ hnew_;clear hg_ hnew_;(first|rw [← Ny118.out] at ho5|(simp only [Int.reduceToNat] at ho5;rw [← Ny118.out] at ho5));have n0_:=ak_ (Kd.R_lower ho5 (below_size (by repeat (first|(with_reducible first|exact HB.out|apply ba_|apply bb_|apply bc_)|exact HB.out))));have n1_:=ak_ (below_step (by repeat (first|(with_reducible first|exact HB.out|apply ba_|apply bb_|apply bc_)|exact HB.out)) hb);clear HB;have HO120:=n0_;have HB:=n1_;clear n0_ n1_;clear hb ho5))
   go_loopg [13] k (fun kq v13 w' => ∃ (x3_1 : List Int) (x13_1 : Int),v13 = .int .i64 x13_1 ∧ Aside0 (levin_scaled.l0 kq x3_1 l0 (l0.length : Int) x13_1 = some r) ∧ Aside0 (kq ≤ k) ∧ Aside0 (Kd.R (Kd.int .i64) 2 w' w.heap.size (fun _ => True) v119 x3_1) ∧ Aside0 (Below w.heap.size w w'))
   case atStart => exact ⟨(y118),(0),(by first|rfl|(simp;done)|(simp [*];done)),H',⟨Nat.le_refl _⟩,⟨by (with_reducible repeat (first|apply ra_|apply rb_|apply rc_));exact HO120.out⟩,⟨by repeat (first|(with_reducible first|exact HB.out|apply ba_|apply bb_|apply bc_)|exact HB.out)⟩⟩
   case round =>
    clear H'
    try clear c2
    try clear c2b0
    try clear c2b1
    try clear p2
    try clear c3
    try clear c3b0
    try clear c3b1
    obtain ⟨x3_1,x13_1,rfl,HA,HK1,HO_3,HB⟩:=hrel
    (try simp only [i64_w,i32_w])
    cases gk with
    | zero => exact absurd HA.out (by simp [levin_scaled.l0])
    | succ k1 =>
     have H:=HA.out
     clear HA
     simp only [levin_scaled.l0] at H
     by_cases c6 : x13_1 < (l0.length : Int)
     ·rw [if_pos c6] at H
      have c6b0:=decide_eq_true c6
      clear c6
      by_cases c7 : 0 ≤ x13_1
      ·rw [if_pos c7] at H
       have c7b0:=decide_eq_true c7
       clear c7
       by_cases c8 : x13_1 < (l0.length : Int)
       ·rw [if_pos c8] at H
        have c8b0:=decide_eq_true c8
        clear c8
        replace H:=Option.bind_eq_some_iff.mp H
        obtain ⟨t122,A90,H⟩:=H
        (try dsimp only at H)
        have A9:=ak_ A90
        clear A90
        by_cases c10 : x13_1 < (x3_1.length : Int)
        ·rw [if_pos c10] at H
         have c10b0:=decide_eq_true c10
         clear c10
         obtain ⟨y123,hy123⟩ : ∃ y_ : List Int,y_ = (x3_1.set (x13_1 : Int).toNat t122):=⟨_,rfl⟩
         replace H : (levin_scaled.l0 k1 y123 l0 (l0.length : Int) (wrap64 (x13_1 + 1))) = some r:=by first|(rw [hy123];with_reducible exact H)|(have H2_:=(Option.bind_some _ _).symm.trans H;rw [hy123];with_reducible exact H2_)|(have H2_:=(Option.bind_some _ _).symm.trans H;with_reducible exact H2_)|with_reducible exact H|(rw [hy123];exact H)|exact H
         have Ny123:=ak_ hy123
         clear hy123
         have H':=ak_ H
         clear H
         have p121 : 0 ≤ (x13_1 : Int):=of_decide_eq_true (by first|(with_reducible assumption)|assumption)
         have q121 : x13_1 < (l0.length : Int):=of_decide_eq_true (by first|(with_reducible assumption)|assumption)
         obtain ⟨ad121,e121,hx121_0⟩:=Kd.at_int HR0.out x13_1 p121 q121
         cases e121
         replace hx121_0:=(HB.out.cell (World.block_lt_of_cell? w _ hx121_0)).trans hx121_0
         replace p121:=eq_true p121
         replace q121:=eq_true q121
         go_wp2_with (first|((with_reducible refine gate_callee (f:=26) rfl ?_);refine goesL_ (some 21) rfl rfl Try.func26 (by kernel_rfl) rfl #[.int .i64 (rd l0 x13_1),.int .i64 (-2199023255552),.int .i64 2199023255552] rfl (by (try simp only [List.map_toArray,List.map_cons,List.map_nil]);first|done|rfl|(simp only [List.length_drop,List.length_take];rfl)) ?_;(with_reducible refine (fix_Clamp.calls k1 (rd l0 x13_1) (-2199023255552) 2199023255552 t122 _ A9.out).mono ?_);rintro e w' ⟨rfl,⟨nd,rfl⟩⟩;refine ⟨_,rfl,?_⟩;(try (rw [drewN_self wr];generalize hq_ : World.drewN wr _ = wr;have n0_ : Aside0 (Kd.R (Kd.int .i64) 2 wr w.heap.size (fun _ => True) v119 x3_1):=⟨by rw [← hq_];exact (by (with_reducible repeat (first|apply ra_|apply rb_|apply rc_));exact HO_3.out)⟩;have n1_ : Aside0 (Below w.heap.size w wr):=⟨by rw [← hq_];exact (by repeat (first|(with_reducible first|exact HB.out|apply ba_|apply bb_|apply bc_)|exact HB.out))⟩;clear HO_3 HB hq_;have HO_3:=n0_;have HB:=n1_;clear n0_ n1_));have p11 : 0 ≤ (x13_1 : Int):=of_decide_eq_true (by first|(with_reducible assumption)|assumption);have q11 : (x13_1 : Int) < ((x3_1.length : Int) : Int):=of_decide_eq_true (by first|(with_reducible assumption)|assumption);obtain ⟨go11,co11,eo11,gb11,gl11,cl11,HG11⟩:=Kd.R_form HO_3.out (by omega);(first|cases eo11|(injection eo11 with ea_ en_ ec_;(first|subst ea_|(injection ea_ with ea_;subst ea_));subst ec_;clear en_));have GB11:=ak_ gb11;have GG11:=ak_ HG11;clear gb11 gl11 HG11;obtain ⟨hx11_0,hf11_0⟩:=Kd.R_celln 0 HO_3.out (x13_1 : Int) p11 q11;replace p11:=eq_true p11;replace q11:=eq_true q11;obtain ⟨hy12_,hz12_⟩:=Kd.R_celln 0 HO_3.out (x13_1 : Int) (of_decide_eq_true (by first|(with_reducible assumption)|assumption)) (of_decide_eq_true (by first|(with_reducible assumption)|assumption));have HP12:=Kd.R_putg HO_3.out (x13_1 : Int) t122)|((with_reducible refine gate_store (t:=2) (p:=22) rfl ?_);refine store_event (t:=2) (p:=22) (v:=?vo_w13) (w1:=(wr.setCell ⟨go11,(x13_1 : Int).toNat,none⟩ (.int .i64 t122))) ?hg ?ho ?hn ?hr ?_;(case ho => rfl);(case hg => rfl);(case hn => rfl);(case hr => first|(go_simp;done)|(go_simp;rfl));intro w13 hw;have hg : wr.grownBy w13 (some go11):=(by rw [hw];exact HP12.2);have hp_ : Kd.R (Kd.int .i64) 2 w13 w.heap.size (fun _ => True) (.slice (some ⟨go11,0,none⟩) x3_1.length co11) y123:=(by rw [hw,Ny123.out];exact HP12.1);clear HP12;have n0_:=ak_ (hp_);have n1_:=ak_ ((by rw [hw];exact below_set (HB.out) GB11.out : Below w.heap.size w w13));clear HO_3;clear HB;have HO_3:=n0_;have HB:=n1_;clear n0_ n1_;clear hg hw hp_))
         go_roundg k1
         case measure => have:=HK1.out;omega
         case rel => exact ⟨(y123),(wrap64 (x13_1 + 1)),(by first|rfl|(simp;done)|(simp [*];done)),H',⟨by have:=HK1.out;omega⟩,⟨by (with_reducible repeat (first|apply ra_|apply rb_|apply rc_));exact HO_3.out⟩,⟨by repeat (first|(with_reducible first|exact HB.out|apply ba_|apply bb_|apply bc_)|exact HB.out)⟩⟩
        ·rw [if_neg c10] at H
         exact absurd H (by simp)
       ·rw [if_neg c8] at H
        exact absurd H (by simp)
      ·rw [if_neg c7] at H
       exact absurd H (by simp)
     ·rw [if_neg c6] at H
      have c6b0:=decide_eq_false c6
      clear c6
      have H':=ak_ H
      clear H
      go_wp2
      go_loopg [] k1 (fun kq w' => ∃ (x3_2 : List Int),Aside0 (levin_scaled.l1 kq x3_2 = some r) ∧ Aside0 (kq ≤ k1) ∧ Aside0 (Kd.R (Kd.int .i64) 2 w' w.heap.size (fun _ => True) v119 x3_2) ∧ Aside0 (Below w.heap.size w w'))
      case atStart => exact ⟨(x3_1),H',⟨Nat.le_refl _⟩,⟨by (with_reducible repeat (first|apply ra_|apply rb_|apply rc_));exact HO_3.out⟩,⟨by repeat (first|(with_reducible first|exact HB.out|apply ba_|apply bb_|apply bc_)|exact HB.out)⟩⟩
      case round =>
       clear H'
       try clear c1
       try clear p1
       try clear q1
       try clear hx1
       try clear hf1
       try clear c2
       try clear c2b0
       try clear c2b1
       try clear p2
       try clear c3
       try clear c3b0
       try clear c3b1
       try clear c6
       try clear c6b0
       try clear p6
       try clear c7
       try clear c7b0
       try clear c8
       try clear c8b0
       try clear c10
       try clear c10b0
       try clear p11
       try clear q11
       try clear hx11
       try clear hf11
       try clear p12
       try clear q12
       try clear hx12
       try clear hx11_0
       try clear hx121_0
       try clear p11
       try clear p121
       try clear p2
       try clear q11
       try clear q121
       obtain ⟨x3_2,HA,HK2,HO_3,HB⟩:=hrel
       (try simp only [i64_w,i32_w])
       cases gk with
       | zero => exact absurd HA.out (by simp [levin_scaled.l1])
       | succ k2 =>
        have H:=HA.out
        clear HA
        simp only [levin_scaled.l1] at H
        by_cases c14 : 0 < (x3_2.length : Int)
        ·rw [if_pos c14] at H
         have c14b0:=decide_eq_true c14
         have c14b1 : decide (0 < x3_2.length) = true:=decide_eq_true (by omega)
         clear c14
         by_cases c15 : (rd x3_2 0) < 536870912
         ·rw [if_pos c15] at H
          have c15b0:=decide_eq_true c15
          clear c15
          have H':=ak_ H
          clear H
          obtain ⟨Ao16,co16,eo16⟩:=Kd.R_slice HO_3.out
          subst eo16
          have p124 : 0 ≤ (0 : Int):=(by omega)
          have q124 : 0 < (x3_2.length : Int):=of_decide_eq_true (by first|(with_reducible assumption)|assumption)
          obtain ⟨ad124,e124,hx124_0⟩:=Kd.at_int (Kd.R_reads' HO_3.out).2.2 0 p124 q124
          cases e124
          have qi124 : (0 < x3_2.length) = True:=eq_true (by omega)
          (try rw [show ((0 : Int)).toNat = 0 from rfl] at hx124_0)
          (try rw [Addr.add_zero'] at hx124_0)
          replace p124:=eq_true p124
          replace q124:=eq_true q124
          go_wp2
          go_loopg [30] k2 (fun kq v30 w' => ∃ (x3_3 : List Int) (x30_3 : Int),v30 = .int .i64 x30_3 ∧ Aside0 (levin_scaled.l2 kq x3_3 (x3_2.length : Int) x30_3 = some r) ∧ Aside0 (kq ≤ k2) ∧ Aside0 (Kd.R (Kd.int .i64) 2 w' w.heap.size (fun _ => True) (.slice (some ad124) x3_2.length co16) x3_3) ∧ Aside0 (Below w.heap.size w w'))
          case atStart => exact ⟨(x3_2),(0),(by first|rfl|(simp;done)|(simp [*];done)),H',⟨Nat.le_refl _⟩,⟨by (with_reducible repeat (first|apply ra_|apply rb_|apply rc_));exact HO_3.out⟩,⟨by repeat (first|(with_reducible first|exact HB.out|apply ba_|apply bb_|apply bc_)|exact HB.out)⟩⟩
          case round =>
           clear H'
           try clear c1
           try clear p1
           try clear q1
           try clear hx1
           try clear qi1
           try clear hf1
           try clear c2
           try clear c2b0
           try clear c2b1
           try clear p2
           try clear c3
           try clear c3b0
           try clear c3b1
           try clear c6
           try clear c6b0
           try clear p6
           try clear c7
           try clear c7b0
           try clear c8
           try clear c8b0
           try clear c10
           try clear c10b0
           try clear p11
           try clear q11
           try clear hx11
           try clear hf11
           try clear p12
           try clear q12
           try clear hx12
           try clear qi12
           try clear c14
           try clear c14b0
           try clear c14b1
           try clear c15
           try clear c15b0
           try clear hx11_0
           try clear hx121_0
           try clear hx124_0
           try clear p1
           try clear p11
           try clear p12
           try clear p121
           try clear p124
           try clear p2
           try clear p6
           try clear q1
           try clear q11
           try clear q12
           try clear q121
           try clear q124
           obtain ⟨x3_3,x30_3,rfl,HA,HK3,HO_3,HB⟩:=hrel
           (try simp only [i64_w,i32_w])
           have hl3_3:=(Kd.R_reads' HO_3.out).1
           rw [hl3_3] at HO_3
           (try simp only [hl3_3])
           cases gk with
           | zero => exact absurd HA.out (by simp [levin_scaled.l2])
           | succ k3 =>
            have H:=HA.out
            clear HA
            simp only [levin_scaled.l2] at H
            by_cases c17 : x30_3 < (x3_2.length : Int)
            ·rw [if_pos c17] at H
             have c17b0:=decide_eq_true c17
             (try (have c17h0:=c17b0;simp only [hl3_3] at c17h0))
             clear c17
             by_cases c18 : 0 ≤ x30_3
             ·rw [if_pos c18] at H
              have c18b0:=decide_eq_true c18
              (try (have c18h0:=c18b0;simp only [hl3_3] at c18h0))
              clear c18
              by_cases c19 : x30_3 < (x3_3.length : Int)
              ·rw [if_pos c19] at H
               have c19b0:=decide_eq_true c19
               (try (have c19h0:=c19b0;simp only [hl3_3] at c19h0))
               clear c19
               replace H:=Option.bind_eq_some_iff.mp H
               obtain ⟨t126,A200,H⟩:=H
               (try dsimp only at H)
               have A20:=ak_ A200
               clear A200
               obtain ⟨y127,hy127⟩ : ∃ y_ : List Int,y_ = (x3_3.set (x30_3 : Int).toNat t126):=⟨_,rfl⟩
               replace H : (levin_scaled.l2 k3 y127 (x3_2.length : Int) (wrap64 (x30_3 + 1))) = some r:=by first|(rw [hy127];with_reducible exact H)|(have H2_:=(Option.bind_some _ _).symm.trans H;rw [hy127];with_reducible exact H2_)|(have H2_:=(Option.bind_some _ _).symm.trans H;with_reducible exact H2_)|with_reducible exact H|(rw [hy127];exact H)|exact H
               have Ny127:=ak_ hy127
               clear hy127
               have H':=ak_ H
               clear H
               have p125 : 0 ≤ (x30_3 : Int):=of_decide_eq_true (by first|(with_reducible assumption)|assumption)
               have q125 : x30_3 < (x3_3.length : Int):=of_decide_eq_true (by first|(with_reducible assumption)|assumption)
               obtain ⟨ad125,e125,hx125_0⟩:=Kd.at_int (Kd.R_reads' HO_3.out).2.2 x30_3 p125 q125
               obtain rfl : ad124 = ad125:=(by injection e125)
               replace p125:=eq_true p125
               replace q125:=eq_true q125
               go_wp2_with (first|((with_reducible refine gate_callee (f:=26) rfl ?_);refine goesL_ (some 40) rfl rfl Try.func26 (by kernel_rfl) rfl #[.int .i64 (wrap64 (2 * (rd x3_3 x30_3))),.int .i64 (-1125899906842624),.int .i64 1125899906842624] rfl (by (try simp only [List.map_toArray,List.map_cons,List.map_nil]);first|done|rfl|(simp only [List.length_drop,List.length_take];rfl)) ?_;(with_reducible refine (fix_Clamp.calls k3 (wrap64 (2 * (rd x3_3 x30_3))) (-1125899906842624) 1125899906842624 t126 _ A20.out).mono ?_);rintro e w' ⟨rfl,⟨nd,rfl⟩⟩;refine ⟨_,rfl,?_⟩;(try (rw [drewN_self wr];generalize hq_ : World.drewN wr _ = wr;have n0_ : Aside0 (Kd.R (Kd.int .i64) 2 wr w.heap.size (fun _ => True) (.slice (some ad124) x3_3.length co16) x3_3):=⟨by rw [← hq_];exact (by (with_reducible repeat (first|apply ra_|apply rb_|apply rc_));exact HO_3.out)⟩;have n1_ : Aside0 (Below w.heap.size w wr):=⟨by rw [← hq_];exact (by repeat (first|(with_reducible first|exact HB.out|apply ba_|apply bb_|apply bc_)|exact HB.out))⟩;clear HO_3 HB hq_;have HO_3:=n0_;have HB:=n1_;clear n0_ n1_));have p21 : 0 ≤ (x30_3 : Int):=of_decide_eq_true (by first|(with_reducible assumption)|assumption);have q21 : (x30_3 : Int) < ((x3_3.length : Int) : Int):=of_decide_eq_true (by first|(with_reducible assumption)|assumption);obtain ⟨go21,co21,eo21,gb21,gl21,cl21,HG21⟩:=Kd.R_form HO_3.out (by omega);(first|cases eo21|(injection eo21 with ea_ en_ ec_;(first|subst ea_|(injection ea_ with ea_;subst ea_));subst ec_;clear en_));have GB21:=ak_ gb21;have GG21:=ak_ HG21;clear gb21 gl21 HG21;(first|simp only [add_plain] at hx124_0|skip);(first|simp only [add_plain] at hx125_0|skip);obtain ⟨hx21_0,hf21_0⟩:=Kd.R_celln 0 HO_3.out (x30_3 : Int) p21 q21;replace p21:=eq_true p21;replace q21:=eq_true q21;obtain ⟨hy22_,hz22_⟩:=Kd.R_celln 0 HO_3.out (x30_3 : Int) (of_decide_eq_true (by first|(with_reducible assumption)|assumption)) (of_decide_eq_true (by first|(with_reducible assumption)|assumption));have HP22:=Kd.R_putg HO_3.out (x30_3 : Int) t126)|((with_reducible refine gate_store (t:=2) (p:=41) rfl ?_);refine store_event (t:=2) (p:=41) (v:=?vo_w23) (w1:=(wr.setCell ⟨go21,(x30_3 : Int).toNat,none⟩ (.int .i64 t126))) ?hg ?ho ?hn ?hr ?_;(case ho => rfl);(case hg => rfl);(case hn => rfl);(case hr => first|(go_simp;done)|(go_simp;rfl));intro w23 hw;have hg : wr.grownBy w23 (some go21):=(by rw [hw];exact HP22.2);have hp_ : Kd.R (Kd.int .i64) 2 w23 w.heap.size (fun _ => True) (.slice (some ⟨go21,0,none⟩) x3_3.length co16) y127:=(by rw [hw,Ny127.out];exact HP22.1);clear HP22;have n0_:=ak_ (hp_);have n1_:=ak_ ((by rw [hw];exact below_set (HB.out) GB21.out : Below w.heap.size w w23));clear HO_3;clear HB;have HO_3:=n0_;have HB:=n1_;clear n0_ n1_;clear hg hw hp_))
               (try simp only [← hl3_3])
               go_roundg k3
               case measure => have:=HK1.out;have:=HK2.out;have:=HK3.out;omega
               case rel => exact ⟨(y127),(wrap64 (x30_3 + 1)),(by first|rfl|(simp;done)|(simp [*];done)),H',⟨by have:=HK1.out;have:=HK2.out;have:=HK3.out;omega⟩,⟨by (try simp only [hl3_3]);(with_reducible repeat (first|apply ra_|apply rb_|apply rc_));exact HO_3.out⟩,⟨by repeat (first|(with_reducible first|exact HB.out|apply ba_|apply bb_|apply bc_)|exact HB.out)⟩⟩
              ·rw [if_neg c19] at H
               exact absurd H (by simp)
             ·rw [if_neg c18] at H
              exact absurd H (by simp)
            ·rw [if_neg c17] at H
             have c17b0:=decide_eq_false c17
             (try (have c17h0:=c17b0;simp only [hl3_3] at c17h0))
             clear c17
             have H':=ak_ H
             clear H
             go_wp2
             (try simp only [← hl3_3])
             go_roundg k3
             case measure => have:=HK1.out;have:=HK2.out;have:=HK3.out;omega
             case rel => exact ⟨(x3_3),H',⟨by have:=HK1.out;have:=HK2.out;have:=HK3.out;omega⟩,⟨by (try simp only [hl3_3]);(with_reducible repeat (first|apply ra_|apply rb_|apply rc_));exact HO_3.out⟩,⟨by repeat (first|(with_reducible first|exact HB.out|apply ba_|apply bb_|apply bc_)|exact HB.out)⟩⟩
         ·rw [if_neg c15] at H
          have c15b0:=decide_eq_false c15
          clear c15
          have H':=ak_ H
          clear H
          obtain ⟨Ao24,co24,eo24⟩:=Kd.R_slice HO_3.out
          subst eo24
          have p124 : 0 ≤ (0 : Int):=(by omega)
          have q124 : 0 < (x3_2.length : Int):=of_decide_eq_true (by first|(with_reducible assumption)|assumption)
          obtain ⟨ad124,e124,hx124_0⟩:=Kd.at_int (Kd.R_reads' HO_3.out).2.2 0 p124 q124
          cases e124
          have qi124 : (0 < x3_2.length) = True:=eq_true (by omega)
          (try rw [show ((0 : Int)).toNat = 0 from rfl] at hx124_0)
          (try rw [Addr.add_zero'] at hx124_0)
          replace p124:=eq_true p124
          replace q124:=eq_true q124
          go_wp2
          go_loopg [] k2 (fun kq w' => ∃ (x3_3 : List Int),Aside0 (levin_scaled.l3 kq x3_3 = some r) ∧ Aside0 (kq ≤ k2) ∧ Aside0 (Kd.R (Kd.int .i64) 2 w' w.heap.size (fun _ => True) (.slice (some ad124) x3_2.length co24) x3_3) ∧ Aside0 (Below w.heap.size w w'))
          case atStart => exact ⟨(x3_2),H',⟨Nat.le_refl _⟩,⟨by (with_reducible repeat (first|apply ra_|apply rb_|apply rc_));exact HO_3.out⟩,⟨by repeat (first|(with_reducible first|exact HB.out|apply ba_|apply bb_|apply bc_)|exact HB.out)⟩⟩
          case round =>
           clear H'
           try clear c1
           try clear p1
           try clear q1
           try clear hx1
           try clear qi1
           try clear hf1
           try clear c2
           try clear c2b0
           try clear c2b1
           try clear p2
           try clear q2
           try clear hx2
           try clear hf2
           try clear c3
           try clear c3b0
           try clear c3b1
           try clear c6
           try clear c6b0
           try clear p6
           try clear c7
           try clear c7b0
           try clear c8
           try clear c8b0
           try clear c10
           try clear c10b0
           try clear p11
           try clear q11
           try clear hx11
           try clear hf11
           try clear p12
           try clear q12
           try clear hx12
           try clear qi12
           try clear c14
           try clear c14b0
           try clear c14b1
           try clear c15
           try clear c15b0
           try clear c17
           try clear c17b0
           try clear c17h0
           try clear c18
           try clear c18b0
           try clear c18h0
           try clear c19
           try clear c19b0
           try clear c19h0
           try clear p21
           try clear q21
           try clear hx21
           try clear hf21
           try clear c24
           try clear hx11_0
           try clear hx121_0
           try clear hx124_0
           try clear hx125_0
           try clear hx21_0
           try clear p1
           try clear p11
           try clear p12
           try clear p121
           try clear p124
           try clear p125
           try clear p2
           try clear p21
           try clear p6
           try clear q1
           try clear q11
           try clear q12
           try clear q121
           try clear q124
           try clear q125
           try clear q21
           obtain ⟨x3_3,HA,HK3,HO_3,HB⟩:=hrel
           (try simp only [i64_w,i32_w])
           have hl3_3:=(Kd.R_reads' HO_3.out).1
           rw [hl3_3] at HO_3
           (try simp only [hl3_3])
           cases gk with
           | zero => exact absurd HA.out (by simp [levin_scaled.l3])
           | succ k3 =>
            have H:=HA.out
            clear HA
            simp only [levin_scaled.l3] at H
            by_cases c25 : 0 < (x3_3.length : Int)
            ·rw [if_pos c25] at H
             have c25b0:=decide_eq_true c25
             have c25b1 : decide (0 < x3_3.length) = true:=decide_eq_true (by omega)
             (try (have c25h0:=c25b0;simp only [hl3_3] at c25h0))
             (try (have c25h1:=c25b1;simp only [hl3_3] at c25h1))
             clear c25
             by_cases c26 : (rd x3_3 0) ≥ 1073741824
             ·rw [if_pos c26] at H
              have c26b0 : decide (1073741824 ≤ (rd x3_3 0)) = true:=decide_eq_true c26
              (try (have c26h0:=c26b0;simp only [hl3_3] at c26h0))
              clear c26
              have H':=ak_ H
              clear H
              have p128 : 0 ≤ (0 : Int):=(by omega)
              have q128 : 0 < (x3_3.length : Int):=of_decide_eq_true (by first|(with_reducible assumption)|assumption)
              obtain ⟨ad128,e128,hx128_0⟩:=Kd.at_int (Kd.R_reads' HO_3.out).2.2 0 p128 q128
              obtain rfl : ad124 = ad128:=(by injection e128)
              have qi128 : (0 < x3_3.length) = True:=eq_true (by omega)
              (try rw [show ((0 : Int)).toNat = 0 from rfl] at hx128_0)
              (try rw [Addr.add_zero'] at hx128_0)
              replace p128:=eq_true p128
              replace q128:=eq_true q128
              go_wp2
              go_loopg [49] k3 (fun kq v49 w' => ∃ (x3_4 : List Int) (x49_4 : Int),v49 = .int .i64 x49_4 ∧ Aside0 (levin_scaled.l4 kq x3_4 (x3_3.length : Int) x49_4 = some r) ∧ Aside0 (kq ≤ k3) ∧ Aside0 (Kd.R (Kd.int .i64) 2 w' w.heap.size (fun _ => True) (.slice (some ad124) x3_3.length co24) x3_4) ∧ Aside0 (Below w.heap.size w w'))
              case atStart => exact ⟨(x3_3),(0),(by first|rfl|(simp;done)|(simp [*];done)),H',⟨Nat.le_refl _⟩,⟨by (try simp only [hl3_3]);(with_reducible repeat (first|apply ra_|apply rb_|apply rc_));exact HO_3.out⟩,⟨by repeat (first|(with_reducible first|exact HB.out|apply ba_|apply bb_|apply bc_)|exact HB.out)⟩⟩
              case round =>
               clear H'
               try clear c1
               try clear p1
               try clear q1
               try clear hx1
               try clear qi1
               try clear hf1
               try clear c2
               try clear c2b0
               try clear c2b1
               try clear p2
               try clear q2
               try clear hx2
               try clear hf2
               try clear c3
               try clear c3b0
               try clear c3b1
               try clear c6
               try clear c6b0
               try clear p6
               try clear c7
               try clear c7b0
               try clear c8
               try clear c8b0
               try clear c10
               try clear c10b0
               try clear p11
               try clear q11
               try clear hx11
               try clear hf11
               try clear p12
               try clear q12
               try clear hx12
               try clear qi12
               try clear c14
               try clear c14b0
               try clear c14b1
               try clear c15
               try clear c15b0
               try clear c17
               try clear c17b0
               try clear c17h0
               try clear c18
               try clear c18b0
               try clear c18h0
               try clear c19
               try clear c19b0
               try clear c19h0
               try clear p21
               try clear q21
               try clear hx21
               try clear hf21
               try clear c24
               try clear c25
               try clear c25b0
               try clear c25b1
               try clear c25h0
               try clear c25h1
               try clear c26
               try clear c26b0
               try clear c26h0
               try clear hx11_0
               try clear hx121_0
               try clear hx124_0
               try clear hx125_0
               try clear hx128_0
               try clear hx21_0
               try clear p1
               try clear p11
               try clear p12
               try clear p121
               try clear p124
               try clear p125
               try clear p128
               try clear p2
               try clear p21
               try clear p6
               try clear q1
               try clear q11
               try clear q12
               try clear q121
               try clear q124
               try clear q125
               try clear q128
               try clear q2
               try clear q21
               obtain ⟨x3_4,x49_4,rfl,HA,HK4,HO_3,HB⟩:=hrel
               (try simp only [i64_w,i32_w])
               have hl3_4:=(Kd.R_reads' HO_3.out).1
               rw [hl3_4] at HO_3
               (try simp only [hl3_4])
               cases gk with
               | zero => exact absurd HA.out (by simp [levin_scaled.l4])
               | succ k4 =>
                have H:=HA.out
                clear HA
                simp only [levin_scaled.l4] at H
                by_cases c27 : x49_4 < (x3_3.length : Int)
                ·rw [if_pos c27] at H
                 have c27b0:=decide_eq_true c27
                 (try (have c27h0:=c27b0;simp only [hl3_3,hl3_4] at c27h0))
                 clear c27
                 by_cases c28 : 0 ≤ x49_4
                 ·rw [if_pos c28] at H
                  have c28b0:=decide_eq_true c28
                  (try (have c28h0:=c28b0;simp only [hl3_3,hl3_4] at c28h0))
                  clear c28
                  by_cases c29 : x49_4 < (x3_4.length : Int)
                  ·rw [if_pos c29] at H
                   have c29b0:=decide_eq_true c29
                   (try (have c29h0:=c29b0;simp only [hl3_3,hl3_4] at c29h0))
                   clear c29
                   obtain ⟨y133,hy133⟩ : ∃ y_ : List Int,y_ = (x3_4.set (x49_4 : Int).toNat ((rd x3_4 x49_4) / 2)):=⟨_,rfl⟩
                   replace H : (levin_scaled.l4 k4 y133 (x3_3.length : Int) (wrap64 (x49_4 + 1))) = some r:=by first|(rw [hy133];with_reducible exact H)|(have H2_:=(Option.bind_some _ _).symm.trans H;rw [hy133];with_reducible exact H2_)|(have H2_:=(Option.bind_some _ _).symm.trans H;with_reducible exact H2_)|with_reducible exact H|(rw [hy133];exact H)|exact H
                   have Ny133:=ak_ hy133
                   clear hy133
                   have H':=ak_ H
                   clear H
                   have p132 : 0 ≤ (x49_4 : Int):=of_decide_eq_true (by first|(with_reducible assumption)|assumption)
                   have q132 : x49_4 < (x3_4.length : Int):=of_decide_eq_true (by first|(with_reducible assumption)|assumption)
                   obtain ⟨ad132,e132,hx132_0⟩:=Kd.at_int (Kd.R_reads' HO_3.out).2.2 x49_4 p132 q132
                   obtain rfl : ad124 = ad132:=(by injection e132)
                   replace p132:=eq_true p132
                   replace q132:=eq_true q132
                   have p30 : 0 ≤ (x49_4 : Int):=of_decide_eq_true (by first|(with_reducible assumption)|assumption)
                   have q30 : (x49_4 : Int) < ((x3_4.length : Int) : Int):=of_decide_eq_true (by first|(with_reducible assumption)|assumption)
                   obtain ⟨go30,co30,eo30,gb30,gl30,cl30,HG30⟩:=Kd.R_form HO_3.out (by omega)
                   (first|cases eo30|(injection eo30 with ea_ en_ ec_;(first|subst ea_|(injection ea_ with ea_;subst ea_));subst ec_;clear en_))
                   have GB30:=ak_ gb30
                   have GG30:=ak_ HG30
                   clear gb30 gl30 HG30
                   (first|simp only [add_plain] at hx124_0|skip)
                   (first|simp only [add_plain] at hx128_0|skip)
                   (first|simp only [add_plain] at hx132_0|skip)
                   obtain ⟨hx30_0,hf30_0⟩:=Kd.R_celln 0 HO_3.out (x49_4 : Int) p30 q30
                   replace p30:=eq_true p30
                   replace q30:=eq_true q30
                   have HP31:=Kd.R_putg HO_3.out (x49_4 : Int) ((rd x3_4 x49_4) / 2)
                   go_wp2_with (first|((with_reducible refine gate_store (t:=2) (p:=57) rfl ?_);refine store_event (t:=2) (p:=57) (v:=?vo_w32) (w1:=(wr.setCell ⟨go30,(x49_4 : Int).toNat,none⟩ (.int .i64 ((rd x3_4 x49_4) / 2)))) ?hg ?ho ?hn ?hr ?_;(case ho => rfl);(case hg => rfl);(case hn => rfl);(case hr => first|(go_simp;done)|(go_simp;rfl));intro w32 hw;have hg : wr.grownBy w32 (some go30):=(by rw [hw];exact HP31.2);have hp_ : Kd.R (Kd.int .i64) 2 w32 w.heap.size (fun _ => True) (.slice (some ⟨go30,0,none⟩) x3_4.length co24) y133:=(by rw [hw,Ny133.out];exact HP31.1);clear HP31;have n0_:=ak_ (hp_);have n1_:=ak_ ((by rw [hw];exact below_set (HB.out) GB30.out : Below w.heap.size w w32));clear HO_3;clear HB;have HO_3:=n0_;have HB:=n1_;clear n0_ n1_;clear hg hw hp_))
                   (try simp only [← hl3_4])
                   go_roundg k4
                   case measure => have:=HK1.out;have:=HK2.out;have:=HK3.out;have:=HK4.out;omega
                   case rel => exact ⟨(y133),(wrap64 (x49_4 + 1)),(by first|rfl|(simp;done)|(simp [*];done)),H',⟨by have:=HK1.out;have:=HK2.out;have:=HK3.out;have:=HK4.out;omega⟩,⟨by (try simp only [hl3_3]);(try simp only [hl3_4]);(with_reducible repeat (first|apply ra_|apply rb_|apply rc_));exact HO_3.out⟩,⟨by repeat (first|(with_reducible first|exact HB.out|apply ba_|apply bb_|apply bc_)|exact HB.out)⟩⟩
                  ·rw [if_neg c29] at H
                   exact absurd H (by simp)
                 ·rw [if_neg c28] at H
                  exact absurd H (by simp)
                ·rw [if_neg c27] at H
                 have c27b0:=decide_eq_false c27
                 (try (have c27h0:=c27b0;simp only [hl3_3,hl3_4] at c27h0))
                 clear c27
                 have H':=ak_ H
                 clear H
                 go_wp2
                 (try simp only [← hl3_3,← hl3_4])
                 go_roundg k4
                 case measure => have:=HK1.out;have:=HK2.out;have:=HK3.out;have:=HK4.out;omega
                 case rel => exact ⟨(x3_4),H',⟨by have:=HK1.out;have:=HK2.out;have:=HK3.out;have:=HK4.out;omega⟩,⟨by (try simp only [hl3_3]);(try simp only [hl3_4]);(with_reducible repeat (first|apply ra_|apply rb_|apply rc_));exact HO_3.out⟩,⟨by repeat (first|(with_reducible first|exact HB.out|apply ba_|apply bb_|apply bc_)|exact HB.out)⟩⟩
             ·rw [if_neg c26] at H
              have c26b0 : decide (1073741824 ≤ (rd x3_3 0)) = false:=decide_eq_false c26
              (try (have c26h0:=c26b0;simp only [hl3_3] at c26h0))
              clear c26
              obtain ⟨y131,hy131⟩ : ∃ y_ : List Int,y_ = (x3_3.set (0 : Int).toNat (wrap64 ((rd x3_3 0) + (wrap64 ((wrap64 (Int.tdiv (rd x3_3 0) 1024)) + 1))))):=⟨_,rfl⟩
              replace H : (some y131) = some r:=by first|(rw [hy131];with_reducible exact H)|(have H2_:=(Option.bind_some _ _).symm.trans H;rw [hy131];with_reducible exact H2_)|(have H2_:=(Option.bind_some _ _).symm.trans H;with_reducible exact H2_)|with_reducible exact H|(rw [hy131];exact H)|exact H
              have Ny131:=ak_ hy131
              clear hy131
              obtain rfl:=Option.some.inj H
              have p128 : 0 ≤ (0 : Int):=(by omega)
              have q128 : 0 < (x3_3.length : Int):=of_decide_eq_true (by first|(with_reducible assumption)|assumption)
              obtain ⟨ad128,e128,hx128_0⟩:=Kd.at_int (Kd.R_reads' HO_3.out).2.2 0 p128 q128
              obtain rfl : ad124 = ad128:=(by injection e128)
              have qi128 : (0 < x3_3.length) = True:=eq_true (by omega)
              (try rw [show ((0 : Int)).toNat = 0 from rfl] at hx128_0)
              (try rw [Addr.add_zero'] at hx128_0)
              replace p128:=eq_true p128
              replace q128:=eq_true q128
              try go_wp2
              have n0_:=ak_ (Kd.R_drew HO_3.out)
              have n1_:=ak_ (below_drew1 HB.out)
              clear HO_3
              clear HB
              have HO_3:=n0_
              have HB:=n1_
              clear n0_ n1_
              have p129 : 0 ≤ (0 : Int):=(by omega)
              have q129 : 0 < (x3_3.length : Int):=of_decide_eq_true (by first|(with_reducible assumption)|assumption)
              obtain ⟨ad129,e129,hx129_0⟩:=Kd.at_int (Kd.R_reads' HO_3.out).2.2 0 p129 q129
              obtain rfl : ad124 = ad129:=(by injection e129)
              have qi129 : (0 < x3_3.length) = True:=eq_true (by omega)
              (try rw [show ((0 : Int)).toNat = 0 from rfl] at hx129_0)
              (try rw [Addr.add_zero'] at hx129_0)
              replace p129:=eq_true p129
              replace q129:=eq_true q129
              have p130 : 0 ≤ (0 : Int):=(by omega)
              have q130 : 0 < (x3_3.length : Int):=of_decide_eq_true (by first|(with_reducible assumption)|assumption)
              obtain ⟨ad130,e130,hx130_0⟩:=Kd.at_int (Kd.R_reads' HO_3.out).2.2 0 p130 q130
              obtain rfl : ad124 = ad130:=(by injection e130)
              have qi130 : (0 < x3_3.length) = True:=eq_true (by omega)
              (try rw [show ((0 : Int)).toNat = 0 from rfl] at hx130_0)
              (try rw [Addr.add_zero'] at hx130_0)
              replace p130:=eq_true p130
              replace q130:=eq_true q130
              have p33 : 0 ≤ (0 : Int):=(by omega)
              have q33 : (0 : Int) < ((x3_3.length : Int) : Int):=of_decide_eq_true (by first|(with_reducible assumption)|assumption)
              have qi33 : (0 < x3_3.length) = True:=eq_true (by omega)
              obtain ⟨go33,co33,eo33,gb33,gl33,cl33,HG33⟩:=Kd.R_form HO_3.out (by omega)
              (first|cases eo33|(injection eo33 with ea_ en_ ec_;(first|subst ea_|(injection ea_ with ea_;subst ea_));subst ec_;clear en_))
              have GB33:=ak_ gb33
              have GG33:=ak_ HG33
              clear gb33 gl33 HG33
              (first|simp only [add_plain] at hx128_0|skip)
              (first|simp only [add_plain] at hx129_0|skip)
              (first|simp only [add_plain] at hx130_0|skip)
              obtain ⟨hx33_0,hf33_0⟩:=Kd.R_celln 0 HO_3.out (0 : Int) p33 q33
              (try rw [show ((0 : Int)).toNat = 0 from rfl] at hx33_0)
              (try simp only [Nat.reduceMul,Nat.zero_mul,Nat.zero_add,Nat.reduceAdd] at hx33_0)
              (try rw [show ((0 : Int)).toNat = 0 from rfl] at hf33_0)
              (try simp only [Nat.reduceMul,Nat.zero_mul,Nat.zero_add,Nat.reduceAdd] at hf33_0)
              replace p33:=eq_true p33
              replace q33:=eq_true q33
              have HP35:=Kd.R_putn HO_3.out (0 : Int) (wrap64 ((rd x3_3 0) + (wrap64 ((wrap64 (Int.tdiv (rd x3_3 0) 1024)) + 1))))
              rw [← Ny131.out] at HP35
              have HQ35:=ak_ HP35
              clear HP35
              refine start_ (n:=11) (S:=fun w' => w'.cell? ⟨go33,0,none⟩ = some (.int .i64 (rd x3_3 0)) ∧ w'.cell? ⟨go33,0,none⟩ = some (.int .i64 (rd x3_3 0))) (ds:=[10]) #[false,false,false,false,false,false,false,false,false,false,false] (by kernel_rfl) rfl rfl ⟨hx129_0,hx130_0⟩ (fun hHeld => ?_);refine with_tabW levin_scaled.tab19 levin_scaled.bits19 (fun HT_ HW_ => ?_)
              generalize wr.drew = w34 at HO_3 HB GG33 HQ35 hf33_0 hx128_0 hx129_0 hx130_0 hx33_0 hHeld ⊢
              refine pure_ (i:=0) (N:=some 59) (v:=?_) (a':=?_) #[true,false,false,false,false,false,false,false,false,false,false] rfl rfl (any_of HT_.out (by kernel_rfl)) (fun _ _ _ h => h) (Or.inl ⟨by rfl,?_⟩) ?_ ?_
              rotate_left
              ·intro w'
               go_simp
               with_reducible rfl
              rotate_left
              ·simp only [Act.put,List.setIfInBounds_toArray,List.set_cons_zero,List.set_cons_succ,i64_w,i32_w]
               rfl
              refine pure_ (i:=1) (N:=some 60) (v:=?_) (a':=?_) #[true,true,false,false,false,false,false,false,false,false,false] rfl rfl (any_of HT_.out (by kernel_rfl)) (fun _ _ _ h => h) (Or.inl ⟨by rfl,?_⟩) ?_ ?_
              rotate_left
              ·intro w'
               go_simp
               with_reducible rfl
              rotate_left
              ·simp only [Act.put,List.setIfInBounds_toArray,List.set_cons_zero,List.set_cons_succ,i64_w,i32_w]
               rfl
              refine pure_ (i:=3) (N:=some 62) (v:=?_) (a':=?_) #[true,true,false,true,false,false,false,false,false,false,false] rfl rfl (any_of HT_.out (by kernel_rfl)) (fun _ _ _ h => h) (Or.inl ⟨by rfl,?_⟩) ?_ ?_
              rotate_left
              ·intro w'
               go_simp
               with_reducible rfl
              rotate_left
              ·simp only [Act.put,List.setIfInBounds_toArray,List.set_cons_zero,List.set_cons_succ,i64_w,i32_w]
               rfl
              refine pure_ (i:=4) (N:=some 63) (v:=?_) (a':=?_) #[true,true,false,true,true,false,false,false,false,false,false] rfl rfl (any_of HT_.out (by kernel_rfl)) (fun _ _ _ h => h) (Or.inl ⟨by rfl,?_⟩) ?_ ?_
              rotate_left
              ·intro w'
               go_simp
               with_reducible rfl
              rotate_left
              ·simp only [Act.put,List.setIfInBounds_toArray,List.set_cons_zero,List.set_cons_succ,i64_w,i32_w]
               rfl
              refine take_ (i:=2) (N:=some 61) (v:=?_) (a':=?_) #[true,true,true,true,true,false,false,false,false,false,false] rfl rfl (take_ofW HT_.out HW_.out (by kernel_rfl)) (fun _ _ _ h => h) (Or.inl ⟨by rfl,?_⟩) hHeld ?_ ?_
              rotate_left
              ·rintro w' ⟨s0,s1⟩
               go_simp
               with_reducible rfl
              rotate_left
              ·simp only [Act.put,List.setIfInBounds_toArray,List.set_cons_zero,List.set_cons_succ,i64_w,i32_w]
               rfl
              refine take_ (i:=5) (N:=some 64) (v:=?_) (a':=?_) #[true,true,true,true,true,true,false,false,false,false,false] rfl rfl (take_ofW HT_.out HW_.out (by kernel_rfl)) (fun _ _ _ h => h) (Or.inl ⟨by rfl,?_⟩) hHeld ?_ ?_
              rotate_left
              ·rintro w' ⟨s0,s1⟩
               go_simp
               with_reducible rfl
              rotate_left
              ·simp only [Act.put,List.setIfInBounds_toArray,List.set_cons_zero,List.set_cons_succ,i64_w,i32_w]
               rfl
              refine pure_ (i:=6) (N:=some 65) (v:=?_) (a':=?_) #[true,true,true,true,true,true,true,false,false,false,false] rfl rfl (any_of HT_.out (by kernel_rfl)) (fun _ _ _ h => h) (Or.inl ⟨by rfl,?_⟩) ?_ ?_
              rotate_left
              ·intro w'
               go_simp
               with_reducible rfl
              rotate_left
              ·simp only [Act.put,List.setIfInBounds_toArray,List.set_cons_zero,List.set_cons_succ,i64_w,i32_w]
               rfl
              refine pure_ (i:=7) (N:=some 66) (v:=?_) (a':=?_) #[true,true,true,true,true,true,true,true,false,false,false] rfl rfl (any_of HT_.out (by kernel_rfl)) (fun _ _ _ h => h) (Or.inl ⟨by rfl,?_⟩) ?_ ?_
              rotate_left
              ·intro w'
               go_simp
               with_reducible rfl
              rotate_left
              ·simp only [Act.put,List.setIfInBounds_toArray,List.set_cons_zero,List.set_cons_succ,i64_w,i32_w]
               rfl
              refine pure_ (i:=8) (N:=some 67) (v:=?_) (a':=?_) #[true,true,true,true,true,true,true,true,true,false,false] rfl rfl (any_of HT_.out (by kernel_rfl)) (fun _ _ _ h => h) (Or.inl ⟨by rfl,?_⟩) ?_ ?_
              rotate_left
              ·intro w'
               go_simp
               with_reducible rfl
              rotate_left
              ·simp only [Act.put,List.setIfInBounds_toArray,List.set_cons_zero,List.set_cons_succ,i64_w,i32_w]
               rfl
              refine pure_ (i:=9) (N:=some 68) (v:=?_) (a':=?_) #[true,true,true,true,true,true,true,true,true,true,false] rfl rfl (any_of HT_.out (by kernel_rfl)) (fun _ _ _ h => h) (Or.inl ⟨by rfl,?_⟩) ?_ ?_
              rotate_left
              ·intro w'
               go_simp
               with_reducible rfl
              rotate_left
              ·simp only [Act.put,List.setIfInBounds_toArray,List.set_cons_zero,List.set_cons_succ,i64_w,i32_w]
               rfl
              refine last_ (i:=10) (N:=none) #[true,true,true,true,true,true,true,true,true,true,true] rfl rfl (one_of HT_.out (by kernel_rfl)) (by decide) (fun K hK => ?_)
              refine skip_ (w1:=?_) (by rfl) rfl ?_ ?_
              rotate_left
              ·go_simp
               rfl
              refine hK.out _ _ ?_
              clear hK K
              refine done_ (done_of HT_.out (by kernel_rfl)) ?_
              try go_wp2
              go_ret
              exact ⟨_,by first|rfl|(simp [errW_none,errW_some] <;> rfl)|(simp [*,errW_none,errW_some] <;> rfl),by (with_reducible repeat (first|apply ra_|apply rb_|apply rc_));exact HQ35.out,by repeat (first|(with_reducible first|exact HB.out|apply ba_|apply bb_|apply bc_|refine below_set ?_ GB33.out)|exact HB.out)⟩
            ·rw [if_neg c25] at H
             exact absurd H (by simp)
        ·rw [if_neg c14] at H
         exact absurd H (by simp)
  ·rw [if_neg c3] at H
   exact absurd H (by simp)
 ·rw [if_neg c2] at H
  exact absurd H (by simp)

end Go.Proofs.Ytllglpcpjeggcaa.P
