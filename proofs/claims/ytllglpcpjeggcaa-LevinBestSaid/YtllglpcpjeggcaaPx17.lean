/- The machine side of the laws of one chapter, without conditions: each call of a Go function comes to what the Lean function of its name answers. Written for this claim by a program of the prover. -/
import Derived.Test.YtllglpcpjeggcaaPx0
import Derived.Test.YtllglpcpjeggcaaPx16
namespace Go.Proofs.Ytllglpcpjeggcaa.P
open Go.RowKit Go.Proofs.YtllglpcpjeggcaaW.PrintWords Go.Proofs.YtllglpcpjeggcaaW.PrintLast Go.Proofs.YtllglpcpjeggcaaW.PrintMore
attribute [local go_sem] max2_int min2_int max_two min_two max_three min_three max_four min_four   -- for this text's walks alone
set_option linter.unusedVariables false
set_option linter.unusedSimpArgs false

/-! ### lsf_Steady: function 45 -/
mutual
def lsf_Steady.l0 : Nat → List Int → Int → Int → Int → Option (List Int)
 | 0,_,_,_,_ => none
 | k + 1,x3,x4,x14,x15 => if x15 < x14 then (if 0 ≤ x15 then (if x15 < (x3.length : Int) then ((some (x3.set (x15 : Int).toNat (mx (rd x3 x15) (wrap64 (x4 + 250))) : List Int)).bind fun y257 => (lsf_Steady.l0 k y257 (rd y257 x15) x14 (wrap64 (x15 + 1)))) else (none)) else (none)) else (lsf_Steady.l1 k x3 32768 (wrap64 ((x3.length : Int) - 1)))
def lsf_Steady.l1 : Nat → List Int → Int → Int → Option (List Int)
 | 0,_,_,_ => none
 | k + 1,x3,x4,x7 => if x7 ≥ 0 then (if 0 ≤ x7 then (if x7 < (x3.length : Int) then ((some (x3.set (x7 : Int).toNat (mn (rd x3 x7) (wrap64 (x4 - 250))) : List Int)).bind fun y260 => (lsf_Steady.l1 k y260 (rd y260 x7) (wrap64 (x7 - 1)))) else (none)) else (none)) else (some x3)
end
def lsf_Steady.f (k : Nat) (l0 : List Int) : Option (List Int):=if (l0.length : Int) > 64 then (some ([] : List Int)) else ((lsf_clamped.f k l0).bind fun t253 => (lsf_Steady.l0 k t253 0 (t253.length : Int) 0))
theorem lsf_Steady.mono_l : ∀ k,(∀ y0 y1 y2 y3,LeO (lsf_Steady.l0 k y0 y1 y2 y3) (lsf_Steady.l0 (k + 1) y0 y1 y2 y3)) ∧ (∀ y0 y1 y2,LeO (lsf_Steady.l1 k y0 y1 y2) (lsf_Steady.l1 (k + 1) y0 y1 y2))
 | 0 => ⟨fun _ _ _ _ r h => by simp [lsf_Steady.l0] at h,fun _ _ _ r h => by simp [lsf_Steady.l1] at h⟩
 | k + 1 => by
  obtain ⟨ih0,ih1⟩:=lsf_Steady.mono_l k
  refine ⟨?_,?_⟩
  all_goals (intros;first|unfold lsf_Steady.l0|unfold lsf_Steady.l1)
  all_goals (repeat' first|(with_reducible first|exact ih0 _ _ _ _|exact ih1 _ _ _|exact lsf_clamped.mono _ _|exact LeO.refl _|exact LeO.none _|refine LeO.ite ?_ ?_|refine LeO.bind ?_ (fun _ => ?_))|exact ih0 _ _ _ _|exact ih1 _ _ _|exact lsf_clamped.mono _ _|exact LeO.none _|refine LeO.ite ?_ ?_|refine LeO.bind ?_ (fun _ => ?_))
theorem lsf_Steady.mono : ∀ a0 k,LeO (lsf_Steady.f k a0) (lsf_Steady.f (k + 1) a0):=by
 intro a0 k
 obtain ⟨ih0,ih1⟩:=lsf_Steady.mono_l k
 unfold lsf_Steady.f
 repeat' first|(with_reducible first|exact ih0 _ _ _ _|exact ih1 _ _ _|exact lsf_clamped.mono _ _|exact LeO.refl _|exact LeO.none _|refine LeO.ite ?_ ?_|refine LeO.bind ?_ (fun _ => ?_))|exact ih0 _ _ _ _|exact ih1 _ _ _|exact lsf_clamped.mono _ _|exact LeO.none _|refine LeO.ite ?_ ?_|refine LeO.bind ?_ (fun _ => ?_)
set_option maxHeartbeats 8000000 in
set_option maxRecDepth 100000 in
theorem lsf_Steady.calls (k : Nat) (A0 : Option Addr) (c0 : Nat) (l0 : List Int) (r : List Int) (w : World) (hr0 : Kd.C (Kd.int .i64) w A0 l0.length l0) (hc0 : l0.length ≤ c0) (h : lsf_Steady.f k l0 = some r) :
  Calls Try.prog 45 #[.slice A0 l0.length c0] w fun e w' => ∃ v0_ : Value,e = .returned (v0_) ∧ Kd.R (Kd.int .i64) 2 w' w.heap.size (fun _ => True) v0_ r ∧ Below w.heap.size w w':=by
 have HR0:=ak_ hr0
 have HC0:=ak_ hc0
 clear hr0 hc0
 have HB:=ak_ (Below.refl w.heap.size w)
 have H : (if (l0.length : Int) > 64 then (some ([] : List Int)) else ((lsf_clamped.f k l0).bind fun t253 => (lsf_Steady.l0 k t253 0 (t253.length : Int) 0))) = some r:=h
 clear h
 by_cases c2 : (l0.length : Int) > 64
 ·rw [if_pos c2] at H
  have c2b0 : decide (64 < (l0.length : Int)) = true:=decide_eq_true c2
  have c2b1 : decide (64 < l0.length) = true:=decide_eq_true (by omega)
  clear c2
  obtain rfl:=Option.some.inj H
  go_enter Try.func45,Try.ntmps45
  go_wp2
  go_ret
  exact ⟨_,by first|rfl|(simp [errW_none,errW_some] <;> rfl)|(simp [*,errW_none,errW_some] <;> rfl),by first|exact Kd.R_nil _ _ _ _ _|exact Kd.N_nil _ _ _ _ _|exact Kd.V_nil _ _ _ _ _|exact Kd.Q_nil _ _ _ _ _|exact Kd.S_nil _ _ _ _ _,by repeat (first|(with_reducible first|exact HB.out|apply ba_|apply bb_|apply bc_)|exact HB.out)⟩
 ·rw [if_neg c2] at H
  have c2b0 : decide (64 < (l0.length : Int)) = false:=decide_eq_false c2
  have c2b1 : decide (64 < l0.length) = false:=decide_eq_false (by omega)
  clear c2
  replace H:=Option.bind_eq_some_iff.mp H
  obtain ⟨t253,A30,H⟩:=H
  (try dsimp only at H)
  have A3:=ak_ A30
  clear A30
  have H':=ak_ H
  clear H
  go_enter Try.func45,Try.ntmps45
  go_wp2_with (first|((with_reducible refine gate_callee (f:=55) rfl ?_);refine goesL_ (some 12) rfl rfl Try.func55 (by kernel_rfl) rfl #[.slice A0 l0.length c0] rfl (by (try simp only [List.map_toArray,List.map_cons,List.map_nil]);first|done|rfl|(simp only [List.length_drop,List.length_take];rfl)) ?_;(with_reducible refine (lsf_clamped.calls k _ _ l0 t253 _ ?side1 ?side2 A3.out).mono ?_);(case side1 => repeat (first|exact HR0.out|(with_reducible refine Kd.C_alloc ?_ _)|(with_reducible refine Kd.C_drewN ?_ _)|(with_reducible refine Kd.C_drew ?_)));(case side2 => exact HC0.out);rintro e w4 ⟨v254,rfl,ho0,hb⟩;refine ⟨_,rfl,?_⟩;have n0_:=ak_ (Kd.R_lower ho0 (below_size (by repeat (first|(with_reducible first|exact HB.out|apply ba_|apply bb_|apply bc_)|exact HB.out))));have n1_:=ak_ (below_step (by repeat (first|(with_reducible first|exact HB.out|apply ba_|apply bb_|apply bc_)|exact HB.out)) hb);clear HB;have HO255:=n0_;have HB:=n1_;clear n0_ n1_;(try clear hb);(try clear ho0);obtain ⟨Ao5,co5,eo5⟩:=Kd.R_slice HO255.out;subst eo5))
  go_loopg [4,15] k (fun kq v4 v15 w' => ∃ (x3_1 : List Int) (x4_1 : Int) (x15_1 : Int),v4 = .int .i64 x4_1 ∧ v15 = .int .i64 x15_1 ∧ Aside0 (lsf_Steady.l0 kq x3_1 x4_1 (t253.length : Int) x15_1 = some r) ∧ Aside0 (kq ≤ k) ∧ Aside0 (Kd.R (Kd.int .i64) 2 w' w.heap.size (fun _ => True) (.slice Ao5 t253.length co5) x3_1) ∧ Aside0 (Below w.heap.size w w'))
  case atStart => exact ⟨(t253),(0),(0),(by first|rfl|(simp;done)|(simp [*];done)),(by first|rfl|(simp;done)|(simp [*];done)),H',⟨Nat.le_refl _⟩,⟨by (with_reducible repeat (first|apply ra_|apply rb_|apply rc_));exact HO255.out⟩,⟨by repeat (first|(with_reducible first|exact HB.out|apply ba_|apply bb_|apply bc_)|exact HB.out)⟩⟩
  case round =>
   clear H'
   try clear c2
   try clear c2b0
   try clear c2b1
   try clear p2
   try clear c4
   try clear c5
   obtain ⟨x3_1,x4_1,x15_1,rfl,rfl,HA,HK1,HO_3,HB⟩:=hrel
   (try simp only [i64_w,i32_w])
   have hl3_1:=(Kd.R_reads' HO_3.out).1
   rw [hl3_1] at HO_3
   (try simp only [hl3_1])
   cases gk with
   | zero => exact absurd HA.out (by simp [lsf_Steady.l0])
   | succ k1 =>
    have H:=HA.out
    clear HA
    simp only [lsf_Steady.l0] at H
    by_cases c6 : x15_1 < (t253.length : Int)
    ·rw [if_pos c6] at H
     have c6b0:=decide_eq_true c6
     (try (have c6h0:=c6b0;simp only [hl3_1] at c6h0))
     clear c6
     by_cases c7 : 0 ≤ x15_1
     ·rw [if_pos c7] at H
      have c7b0:=decide_eq_true c7
      (try (have c7h0:=c7b0;simp only [hl3_1] at c7h0))
      clear c7
      by_cases c8 : x15_1 < (x3_1.length : Int)
      ·rw [if_pos c8] at H
       have c8b0:=decide_eq_true c8
       (try (have c8h0:=c8b0;simp only [hl3_1] at c8h0))
       clear c8
       obtain ⟨ji9,hji9⟩ : ∃ j_ : Int,(mx (rd x3_1 x15_1) (wrap64 (x4_1 + 250))) = j_:=⟨_,rfl⟩
       replace H : ((some (x3_1.set (x15_1 : Int).toNat (ji9) : List Int)).bind fun y257 => (lsf_Steady.l0 k1 y257 (rd y257 x15_1) (t253.length : Int) (wrap64 (x15_1 + 1)))) = some r:=by first|(rw [hji9] at H;exact H)|(simp only [hji9] at H ⊢;exact H)
       have hji9_ : (if (rd x3_1 x15_1) < (wrap64 (x4_1 + 250)) then (wrap64 (x4_1 + 250)) else (rd x3_1 x15_1)) = ji9:=hji9
       obtain ⟨y257,hy257⟩ : ∃ y_ : List Int,y_ = (x3_1.set (x15_1 : Int).toNat (ji9)):=⟨_,rfl⟩
       replace H : (lsf_Steady.l0 k1 y257 (rd y257 x15_1) (t253.length : Int) (wrap64 (x15_1 + 1))) = some r:=by first|(rw [hy257];with_reducible exact H)|(have H2_:=(Option.bind_some _ _).symm.trans H;rw [hy257];with_reducible exact H2_)|(have H2_:=(Option.bind_some _ _).symm.trans H;with_reducible exact H2_)|with_reducible exact H|(rw [hy257];exact H)|exact H
       have Ny257:=ak_ hy257
       clear hy257
       have H':=ak_ H
       clear H
       have p256 : 0 ≤ (x15_1 : Int):=of_decide_eq_true (by first|(with_reducible assumption)|assumption)
       have q256 : x15_1 < (x3_1.length : Int):=of_decide_eq_true (by first|(with_reducible assumption)|assumption)
       obtain ⟨ad256,e256,hx256_0⟩:=Kd.at_int (Kd.R_reads' HO_3.out).2.2 x15_1 p256 q256
       cases e256
       replace p256:=eq_true p256
       replace q256:=eq_true q256
       have p10 : 0 ≤ (x15_1 : Int):=of_decide_eq_true (by first|(with_reducible assumption)|assumption)
       have q10 : (x15_1 : Int) < ((x3_1.length : Int) : Int):=of_decide_eq_true (by first|(with_reducible assumption)|assumption)
       obtain ⟨go10,co10,eo10,gb10,gl10,cl10,HG10⟩:=Kd.R_form HO_3.out (by omega)
       (first|cases eo10|(injection eo10 with ea_ en_ ec_;(first|subst ea_|(injection ea_ with ea_;subst ea_));subst ec_;clear en_))
       have GB10:=ak_ gb10
       have GG10:=ak_ HG10
       clear gb10 gl10 HG10
       (first|simp only [add_plain] at hx256_0|skip)
       obtain ⟨hx10_0,hf10_0⟩:=Kd.R_celln 0 HO_3.out (x15_1 : Int) p10 q10
       replace p10:=eq_true p10
       replace q10:=eq_true q10
       have HP11:=Kd.R_putg HO_3.out (x15_1 : Int) ji9
       go_wp2_with (first|((with_reducible refine gate_store (t:=2) (p:=26) rfl ?_);refine store_event (t:=2) (p:=26) (v:=?vo_w12) (w1:=(wr.setCell ⟨go10,(x15_1 : Int).toNat,none⟩ (.int .i64 ji9))) ?hg ?ho ?hn ?hr ?_;(case ho => rfl);(case hg => rfl);(case hn => rfl);(case hr => first|(go_simp;done)|(go_simp;rfl));intro w12 hw;have hg : wr.grownBy w12 (some go10):=(by rw [hw];exact HP11.2);have hp_ : Kd.R (Kd.int .i64) 2 w12 w.heap.size (fun _ => True) (.slice (some ⟨go10,0,none⟩) x3_1.length co5) y257:=(by rw [hw,Ny257.out];exact HP11.1);clear HP11;have n0_:=ak_ (hp_);have n1_:=ak_ ((by rw [hw];exact below_set (HB.out) GB10.out : Below w.heap.size w w12));clear HO_3;clear HB;have HO_3:=n0_;have HB:=n1_;clear n0_ n1_;clear hg hw hp_;have p258 : 0 ≤ (x15_1 : Int):=of_decide_eq_true (by first|(with_reducible assumption)|assumption);have q258 : x15_1 < (y257.length : Int):=(by have h_ : (x15_1 : Int) < ((x3_1.length : Int) : Int):=of_decide_eq_true (by first|(with_reducible assumption)|assumption);first|(have e_:=(Kd.R_reads' HO_3.out).1;omega)|simpa only [Ny257.out,List.length_set] using h_);have ql258 : ((x15_1 : Int) < ((x3_1.length : Int) : Int)) = True:=eq_true (of_decide_eq_true (by first|(with_reducible assumption)|assumption));obtain ⟨ad258,e258,hx258_0⟩:=Kd.at_int (Kd.R_reads' HO_3.out).2.2 x15_1 p258 q258;obtain rfl : (⟨go10,0,none⟩ : Addr) = ad258:=(by injection e258);(first|simp only [add_plain] at hx258_0|simp only [add_at] at hx258_0|simp only [Addr.add,Nat.zero_add] at hx258_0|skip);replace p258:=eq_true p258;replace q258:=eq_true q258))
       (try simp only [← hl3_1])
       go_roundg k1
       case measure => have:=HK1.out;omega
       case rel => exact ⟨(y257),(rd y257 x15_1),(wrap64 (x15_1 + 1)),(by first|rfl|(simp;done)|(simp [*];done)),(by first|rfl|(simp;done)|(simp [*];done)),H',⟨by have:=HK1.out;omega⟩,⟨by (try simp only [hl3_1]);(with_reducible repeat (first|apply ra_|apply rb_|apply rc_));exact HO_3.out⟩,⟨by repeat (first|(with_reducible first|exact HB.out|apply ba_|apply bb_|apply bc_)|exact HB.out)⟩⟩
      ·rw [if_neg c8] at H
       exact absurd H (by simp)
     ·rw [if_neg c7] at H
      exact absurd H (by simp)
    ·rw [if_neg c6] at H
     have c6b0:=decide_eq_false c6
     (try (have c6h0:=c6b0;simp only [hl3_1] at c6h0))
     clear c6
     have H':=ak_ H
     clear H
     go_wp2
     go_loopg [4,7] k1 (fun kq v4 v7 w' => ∃ (x3_2 : List Int) (x4_2 : Int) (x7_2 : Int),v4 = .int .i64 x4_2 ∧ v7 = .int .i64 x7_2 ∧ Aside0 (lsf_Steady.l1 kq x3_2 x4_2 x7_2 = some r) ∧ Aside0 (kq ≤ k1) ∧ Aside0 (Kd.R (Kd.int .i64) 2 w' w.heap.size (fun _ => True) (.slice Ao5 x3_1.length co5) x3_2) ∧ Aside0 (Below w.heap.size w w'))
     case atStart => exact ⟨(x3_1),(32768),(wrap64 ((x3_1.length : Int) - 1)),(by first|rfl|(simp;done)|(simp [*];done)),(by first|rfl|(simp;done)|(simp [*];done)),H',⟨Nat.le_refl _⟩,⟨by (try simp only [hl3_1]);(with_reducible repeat (first|apply ra_|apply rb_|apply rc_));exact HO_3.out⟩,⟨by repeat (first|(with_reducible first|exact HB.out|apply ba_|apply bb_|apply bc_)|exact HB.out)⟩⟩
     case round =>
      clear H'
      try clear p1
      try clear q1
      try clear hx1
      try clear hf1
      try clear c2
      try clear c2b0
      try clear c2b1
      try clear p2
      try clear q2
      try clear hx2
      try clear c4
      try clear c5
      try clear c6
      try clear c6b0
      try clear c6h0
      try clear p6
      try clear c7
      try clear c7b0
      try clear c7h0
      try clear c8
      try clear c8b0
      try clear c8h0
      try clear p10
      try clear q10
      try clear hx10
      try clear hf10
      try clear hx10_0
      try clear hx256_0
      try clear hx258_0
      try clear p10
      try clear p2
      try clear p256
      try clear p258
      try clear q10
      try clear q256
      try clear q258
      obtain ⟨x3_2,x4_2,x7_2,rfl,rfl,HA,HK2,HO_3,HB⟩:=hrel
      (try simp only [i64_w,i32_w])
      have hl3_2:=(Kd.R_reads' HO_3.out).1
      rw [hl3_2] at HO_3
      (try simp only [hl3_2])
      cases gk with
      | zero => exact absurd HA.out (by simp [lsf_Steady.l1])
      | succ k2 =>
       have H:=HA.out
       clear HA
       simp only [lsf_Steady.l1] at H
       by_cases c13 : x7_2 ≥ 0
       ·rw [if_pos c13] at H
        have c13b0 : decide (0 ≤ x7_2) = true:=decide_eq_true c13
        (try (have c13h0:=c13b0;simp only [hl3_1,hl3_2] at c13h0))
        clear c13
        by_cases c14 : 0 ≤ x7_2
        ·rw [if_pos c14] at H
         have c14b0:=decide_eq_true c14
         (try (have c14h0:=c14b0;simp only [hl3_1,hl3_2] at c14h0))
         clear c14
         by_cases c15 : x7_2 < (x3_2.length : Int)
         ·rw [if_pos c15] at H
          have c15b0:=decide_eq_true c15
          (try (have c15h0:=c15b0;simp only [hl3_1,hl3_2] at c15h0))
          clear c15
          obtain ⟨ji16,hji16⟩ : ∃ j_ : Int,(mn (rd x3_2 x7_2) (wrap64 (x4_2 - 250))) = j_:=⟨_,rfl⟩
          replace H : ((some (x3_2.set (x7_2 : Int).toNat (ji16) : List Int)).bind fun y260 => (lsf_Steady.l1 k2 y260 (rd y260 x7_2) (wrap64 (x7_2 - 1)))) = some r:=by first|(rw [hji16] at H;exact H)|(simp only [hji16] at H ⊢;exact H)
          have hji16_ : (if (wrap64 (x4_2 - 250)) < (rd x3_2 x7_2) then (wrap64 (x4_2 - 250)) else (rd x3_2 x7_2)) = ji16:=hji16
          obtain ⟨y260,hy260⟩ : ∃ y_ : List Int,y_ = (x3_2.set (x7_2 : Int).toNat (ji16)):=⟨_,rfl⟩
          replace H : (lsf_Steady.l1 k2 y260 (rd y260 x7_2) (wrap64 (x7_2 - 1))) = some r:=by first|(rw [hy260];with_reducible exact H)|(have H2_:=(Option.bind_some _ _).symm.trans H;rw [hy260];with_reducible exact H2_)|(have H2_:=(Option.bind_some _ _).symm.trans H;with_reducible exact H2_)|with_reducible exact H|(rw [hy260];exact H)|exact H
          have Ny260:=ak_ hy260
          clear hy260
          have H':=ak_ H
          clear H
          have p259 : 0 ≤ (x7_2 : Int):=of_decide_eq_true (by first|(with_reducible assumption)|assumption)
          have q259 : x7_2 < (x3_2.length : Int):=of_decide_eq_true (by first|(with_reducible assumption)|assumption)
          obtain ⟨ad259,e259,hx259_0⟩:=Kd.at_int (Kd.R_reads' HO_3.out).2.2 x7_2 p259 q259
          cases e259
          replace p259:=eq_true p259
          replace q259:=eq_true q259
          have p17 : 0 ≤ (x7_2 : Int):=of_decide_eq_true (by first|(with_reducible assumption)|assumption)
          have q17 : (x7_2 : Int) < ((x3_2.length : Int) : Int):=of_decide_eq_true (by first|(with_reducible assumption)|assumption)
          obtain ⟨go17,co17,eo17,gb17,gl17,cl17,HG17⟩:=Kd.R_form HO_3.out (by omega)
          (first|cases eo17|(injection eo17 with ea_ en_ ec_;(first|subst ea_|(injection ea_ with ea_;subst ea_));subst ec_;clear en_))
          have GB17:=ak_ gb17
          have GG17:=ak_ HG17
          clear gb17 gl17 HG17
          (first|simp only [add_plain] at hx259_0|skip)
          obtain ⟨hx17_0,hf17_0⟩:=Kd.R_celln 0 HO_3.out (x7_2 : Int) p17 q17
          replace p17:=eq_true p17
          replace q17:=eq_true q17
          have HP18:=Kd.R_putg HO_3.out (x7_2 : Int) ji16
          go_wp2_with (first|((with_reducible refine gate_store (t:=2) (p:=48) rfl ?_);refine store_event (t:=2) (p:=48) (v:=?vo_w19) (w1:=(wr.setCell ⟨go17,(x7_2 : Int).toNat,none⟩ (.int .i64 ji16))) ?hg ?ho ?hn ?hr ?_;(case ho => rfl);(case hg => rfl);(case hn => rfl);(case hr => first|(go_simp;done)|(go_simp;rfl));intro w19 hw;have hg : wr.grownBy w19 (some go17):=(by rw [hw];exact HP18.2);have hp_ : Kd.R (Kd.int .i64) 2 w19 w.heap.size (fun _ => True) (.slice (some ⟨go17,0,none⟩) x3_2.length co5) y260:=(by rw [hw,Ny260.out];exact HP18.1);clear HP18;have n0_:=ak_ (hp_);have n1_:=ak_ ((by rw [hw];exact below_set (HB.out) GB17.out : Below w.heap.size w w19));clear HO_3;clear HB;have HO_3:=n0_;have HB:=n1_;clear n0_ n1_;clear hg hw hp_;have p261 : 0 ≤ (x7_2 : Int):=of_decide_eq_true (by first|(with_reducible assumption)|assumption);have q261 : x7_2 < (y260.length : Int):=(by have h_ : (x7_2 : Int) < ((x3_2.length : Int) : Int):=of_decide_eq_true (by first|(with_reducible assumption)|assumption);first|(have e_:=(Kd.R_reads' HO_3.out).1;omega)|simpa only [Ny260.out,List.length_set] using h_);have ql261 : ((x7_2 : Int) < ((x3_2.length : Int) : Int)) = True:=eq_true (of_decide_eq_true (by first|(with_reducible assumption)|assumption));obtain ⟨ad261,e261,hx261_0⟩:=Kd.at_int (Kd.R_reads' HO_3.out).2.2 x7_2 p261 q261;obtain rfl : (⟨go17,0,none⟩ : Addr) = ad261:=(by injection e261);(first|simp only [add_plain] at hx261_0|simp only [add_at] at hx261_0|simp only [Addr.add,Nat.zero_add] at hx261_0|skip);replace p261:=eq_true p261;replace q261:=eq_true q261))
          (try simp only [← hl3_2])
          go_roundg k2
          case measure => have:=HK1.out;have:=HK2.out;omega
          case rel => exact ⟨(y260),(rd y260 x7_2),(wrap64 (x7_2 - 1)),(by first|rfl|(simp;done)|(simp [*];done)),(by first|rfl|(simp;done)|(simp [*];done)),H',⟨by have:=HK1.out;have:=HK2.out;omega⟩,⟨by (try simp only [hl3_1]);(try simp only [hl3_2]);(with_reducible repeat (first|apply ra_|apply rb_|apply rc_));exact HO_3.out⟩,⟨by repeat (first|(with_reducible first|exact HB.out|apply ba_|apply bb_|apply bc_)|exact HB.out)⟩⟩
         ·rw [if_neg c15] at H
          exact absurd H (by simp)
        ·rw [if_neg c14] at H
         exact absurd H (by simp)
       ·rw [if_neg c13] at H
        have c13b0 : decide (0 ≤ x7_2) = false:=decide_eq_false c13
        (try (have c13h0:=c13b0;simp only [hl3_1,hl3_2] at c13h0))
        clear c13
        obtain rfl:=Option.some.inj H
        go_wp2
        go_ret
        exact ⟨_,by first|rfl|(simp [errW_none,errW_some] <;> rfl)|(simp [*,errW_none,errW_some] <;> rfl),by (with_reducible repeat (first|apply ra_|apply rb_|apply rc_));exact HO_3.out,by repeat (first|(with_reducible first|exact HB.out|apply ba_|apply bb_|apply bc_)|exact HB.out)⟩

end Go.Proofs.Ytllglpcpjeggcaa.P
