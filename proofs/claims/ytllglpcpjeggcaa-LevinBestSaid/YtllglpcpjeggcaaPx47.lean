/- The machine side of the laws of one chapter, without conditions: each call of a Go function comes to what the Lean function of its name answers. Written for this claim by a program of the prover. -/
import Derived.Test.YtllglpcpjeggcaaPx0
import Derived.Test.YtllglpcpjeggcaaPx28
namespace Go.Proofs.Ytllglpcpjeggcaa.P
open Go.RowKit Go.Proofs.YtllglpcpjeggcaaW.PrintWords Go.Proofs.YtllglpcpjeggcaaW.PrintLast Go.Proofs.YtllglpcpjeggcaaW.PrintMore
attribute [local go_sem] max2_int min2_int max_two min_two max_three min_three max_four min_four   -- for this text's walks alone
set_option linter.unusedVariables false
set_option linter.unusedSimpArgs false

/-! ### madrigalref6_Steady: function 54 -/
mutual
def madrigalref6_Steady.l0 : Nat → List Int → Int → Int → Option (List Int)
 | 0,_,_,_ => none
 | k + 1,x3,x4,x5 => if x5 < (x3.length : Int) then (if 0 ≤ x5 then (if (rd x3 x5) < (wrap64 (x4 + 250)) then ((some (x3.set (x5 : Int).toNat (wrap64 (x4 + 250)) : List Int)).bind fun y676 => (madrigalref6_Steady.l0 k y676 (rd y676 x5) (wrap64 (x5 + 1)))) else (madrigalref6_Steady.l0 k x3 (rd x3 x5) (wrap64 (x5 + 1)))) else (none)) else (madrigalref6_Steady.l1 k x3 32768 (wrap64 ((x3.length : Int) - 1)))
def madrigalref6_Steady.l1 : Nat → List Int → Int → Int → Option (List Int)
 | 0,_,_,_ => none
 | k + 1,x3,x4,x6 => if x6 ≥ 0 then (if 0 ≤ x6 then (if x6 < (x3.length : Int) then (if (rd x3 x6) > (wrap64 (x4 - 250)) then ((some (x3.set (x6 : Int).toNat (wrap64 (x4 - 250)) : List Int)).bind fun y680 => (madrigalref6_Steady.l1 k y680 (rd y680 x6) (wrap64 (x6 - 1)))) else (madrigalref6_Steady.l1 k x3 (rd x3 x6) (wrap64 (x6 - 1)))) else (none)) else (none)) else (some x3)
end
def madrigalref6_Steady.f (k : Nat) (l0 : List Int) : Option (List Int):=if (l0.length : Int) > 64 then (some ([] : List Int)) else ((madrigalref6_clamped.f k l0 0 32768).bind fun t672 => (madrigalref6_Steady.l0 k t672 0 0))
theorem madrigalref6_Steady.mono_l : ∀ k,(∀ y0 y1 y2,LeO (madrigalref6_Steady.l0 k y0 y1 y2) (madrigalref6_Steady.l0 (k + 1) y0 y1 y2)) ∧ (∀ y0 y1 y2,LeO (madrigalref6_Steady.l1 k y0 y1 y2) (madrigalref6_Steady.l1 (k + 1) y0 y1 y2))
 | 0 => ⟨fun _ _ _ r h => by simp [madrigalref6_Steady.l0] at h,fun _ _ _ r h => by simp [madrigalref6_Steady.l1] at h⟩
 | k + 1 => by
  obtain ⟨ih0,ih1⟩:=madrigalref6_Steady.mono_l k
  refine ⟨?_,?_⟩
  all_goals (intros;first|unfold madrigalref6_Steady.l0|unfold madrigalref6_Steady.l1)
  all_goals (repeat' first|(with_reducible first|exact ih0 _ _ _|exact ih1 _ _ _|exact madrigalref6_clamped.mono _ _ _ _|exact LeO.refl _|exact LeO.none _|refine LeO.ite ?_ ?_|refine LeO.bind ?_ (fun _ => ?_))|exact ih0 _ _ _|exact ih1 _ _ _|exact madrigalref6_clamped.mono _ _ _ _|exact LeO.none _|refine LeO.ite ?_ ?_|refine LeO.bind ?_ (fun _ => ?_))
theorem madrigalref6_Steady.mono : ∀ a0 k,LeO (madrigalref6_Steady.f k a0) (madrigalref6_Steady.f (k + 1) a0):=by
 intro a0 k
 obtain ⟨ih0,ih1⟩:=madrigalref6_Steady.mono_l k
 unfold madrigalref6_Steady.f
 repeat' first|(with_reducible first|exact ih0 _ _ _|exact ih1 _ _ _|exact madrigalref6_clamped.mono _ _ _ _|exact LeO.refl _|exact LeO.none _|refine LeO.ite ?_ ?_|refine LeO.bind ?_ (fun _ => ?_))|exact ih0 _ _ _|exact ih1 _ _ _|exact madrigalref6_clamped.mono _ _ _ _|exact LeO.none _|refine LeO.ite ?_ ?_|refine LeO.bind ?_ (fun _ => ?_)
set_option maxHeartbeats 8000000 in
set_option maxRecDepth 100000 in
theorem madrigalref6_Steady.calls (k : Nat) (A0 : Option Addr) (c0 : Nat) (l0 : List Int) (r : List Int) (w : World) (hr0 : Kd.C (Kd.int .i64) w A0 l0.length l0) (hc0 : l0.length ≤ c0) (h : madrigalref6_Steady.f k l0 = some r) :
  Calls Try.prog 54 #[.slice A0 l0.length c0] w fun e w' => ∃ v0_ : Value,e = .returned (v0_) ∧ Kd.R (Kd.int .i64) 2 w' w.heap.size (fun _ => True) v0_ r ∧ Below w.heap.size w w':=by
 have HR0:=ak_ hr0
 have HC0:=ak_ hc0
 clear hr0 hc0
 have HB:=ak_ (Below.refl w.heap.size w)
 have H : (if (l0.length : Int) > 64 then (some ([] : List Int)) else ((madrigalref6_clamped.f k l0 0 32768).bind fun t672 => (madrigalref6_Steady.l0 k t672 0 0))) = some r:=h
 clear h
 by_cases c2 : (l0.length : Int) > 64
 ·rw [if_pos c2] at H
  have c2b0 : decide (64 < (l0.length : Int)) = true:=decide_eq_true c2
  have c2b1 : decide (64 < l0.length) = true:=decide_eq_true (by omega)
  clear c2
  obtain rfl:=Option.some.inj H
  go_enter Try.func54,Try.ntmps54
  go_wp2
  go_ret
  exact ⟨_,by first|rfl|(simp [errW_none,errW_some] <;> rfl)|(simp [*,errW_none,errW_some] <;> rfl),by first|exact Kd.R_nil _ _ _ _ _|exact Kd.N_nil _ _ _ _ _|exact Kd.V_nil _ _ _ _ _|exact Kd.Q_nil _ _ _ _ _|exact Kd.S_nil _ _ _ _ _,by repeat (first|(with_reducible first|exact HB.out|apply ba_|apply bb_|apply bc_)|exact HB.out)⟩
 ·rw [if_neg c2] at H
  have c2b0 : decide (64 < (l0.length : Int)) = false:=decide_eq_false c2
  have c2b1 : decide (64 < l0.length) = false:=decide_eq_false (by omega)
  clear c2
  replace H:=Option.bind_eq_some_iff.mp H
  obtain ⟨t672,A30,H⟩:=H
  (try dsimp only at H)
  have A3:=ak_ A30
  clear A30
  have H':=ak_ H
  clear H
  go_enter Try.func54,Try.ntmps54
  go_wp2_with (first|((with_reducible refine gate_callee (f:=31) rfl ?_);refine goesL_ (some 11) rfl rfl Try.func31 (by kernel_rfl) rfl #[.slice A0 l0.length c0,.int .i64 0,.int .i64 32768] rfl (by (try simp only [List.map_toArray,List.map_cons,List.map_nil]);first|done|rfl|(simp only [List.length_drop,List.length_take];rfl)) ?_;(with_reducible refine (madrigalref6_clamped.calls k _ _ l0 0 32768 t672 _ ?side1 ?side2 A3.out).mono ?_);(case side1 => repeat (first|exact HR0.out|(with_reducible refine Kd.C_alloc ?_ _)|(with_reducible refine Kd.C_drewN ?_ _)|(with_reducible refine Kd.C_drew ?_)));(case side2 => exact HC0.out);rintro e w4 ⟨v673,rfl,ho0,hb⟩;refine ⟨_,rfl,?_⟩;have n0_:=ak_ (Kd.R_lower ho0 (below_size (by repeat (first|(with_reducible first|exact HB.out|apply ba_|apply bb_|apply bc_)|exact HB.out))));have n1_:=ak_ (below_step (by repeat (first|(with_reducible first|exact HB.out|apply ba_|apply bb_|apply bc_)|exact HB.out)) hb);clear HB;have HO674:=n0_;have HB:=n1_;clear n0_ n1_;(try clear hb);(try clear ho0)))
  go_loopg [4,5] k (fun kq v4 v5 w' => ∃ (x3_1 : List Int) (x4_1 : Int) (x5_1 : Int),v4 = .int .i64 x4_1 ∧ v5 = .int .i64 x5_1 ∧ Aside0 (madrigalref6_Steady.l0 kq x3_1 x4_1 x5_1 = some r) ∧ Aside0 (kq ≤ k) ∧ Aside0 (Kd.R (Kd.int .i64) 2 w' w.heap.size (fun _ => True) v673 x3_1) ∧ Aside0 (Below w.heap.size w w'))
  case atStart => exact ⟨(t672),(0),(0),(by first|rfl|(simp;done)|(simp [*];done)),(by first|rfl|(simp;done)|(simp [*];done)),H',⟨Nat.le_refl _⟩,⟨by (with_reducible repeat (first|apply ra_|apply rb_|apply rc_));exact HO674.out⟩,⟨by repeat (first|(with_reducible first|exact HB.out|apply ba_|apply bb_|apply bc_)|exact HB.out)⟩⟩
  case round =>
   clear H'
   try clear c2
   try clear c2b0
   try clear c2b1
   try clear p2
   try clear c3
   obtain ⟨x3_1,x4_1,x5_1,rfl,rfl,HA,HK1,HO_3,HB⟩:=hrel
   (try simp only [i64_w,i32_w])
   cases gk with
   | zero => exact absurd HA.out (by simp [madrigalref6_Steady.l0])
   | succ k1 =>
    have H:=HA.out
    clear HA
    simp only [madrigalref6_Steady.l0] at H
    by_cases c5 : x5_1 < (x3_1.length : Int)
    ·rw [if_pos c5] at H
     have c5b0:=decide_eq_true c5
     clear c5
     by_cases c6 : 0 ≤ x5_1
     ·rw [if_pos c6] at H
      have c6b0:=decide_eq_true c6
      clear c6
      by_cases c7 : (rd x3_1 x5_1) < (wrap64 (x4_1 + 250))
      ·rw [if_pos c7] at H
       have c7b0:=decide_eq_true c7
       clear c7
       obtain ⟨y676,hy676⟩ : ∃ y_ : List Int,y_ = (x3_1.set (x5_1 : Int).toNat (wrap64 (x4_1 + 250))):=⟨_,rfl⟩
       replace H : (madrigalref6_Steady.l0 k1 y676 (rd y676 x5_1) (wrap64 (x5_1 + 1))) = some r:=by first|(rw [hy676];with_reducible exact H)|(have H2_:=(Option.bind_some _ _).symm.trans H;rw [hy676];with_reducible exact H2_)|(have H2_:=(Option.bind_some _ _).symm.trans H;with_reducible exact H2_)|with_reducible exact H|(rw [hy676];exact H)|exact H
       have Ny676:=ak_ hy676
       clear hy676
       have H':=ak_ H
       clear H
       obtain ⟨Ao9,co9,eo9⟩:=Kd.R_slice HO_3.out
       subst eo9
       have p675 : 0 ≤ (x5_1 : Int):=of_decide_eq_true (by first|(with_reducible assumption)|assumption)
       have q675 : x5_1 < (x3_1.length : Int):=of_decide_eq_true (by first|(with_reducible assumption)|assumption)
       obtain ⟨ad675,e675,hx675_0⟩:=Kd.at_int (Kd.R_reads' HO_3.out).2.2 x5_1 p675 q675
       cases e675
       replace p675:=eq_true p675
       replace q675:=eq_true q675
       have p8 : 0 ≤ (x5_1 : Int):=of_decide_eq_true (by first|(with_reducible assumption)|assumption)
       have q8 : (x5_1 : Int) < ((x3_1.length : Int) : Int):=of_decide_eq_true (by first|(with_reducible assumption)|assumption)
       obtain ⟨go8,co8,eo8,gb8,gl8,cl8,HG8⟩:=Kd.R_form HO_3.out (by omega)
       (first|cases eo8|(injection eo8 with ea_ en_ ec_;(first|subst ea_|(injection ea_ with ea_;subst ea_));subst ec_;clear en_))
       have GB8:=ak_ gb8
       have GG8:=ak_ HG8
       clear gb8 gl8 HG8
       (first|simp only [add_plain] at hx675_0|skip)
       obtain ⟨hx8_0,hf8_0⟩:=Kd.R_celln 0 HO_3.out (x5_1 : Int) p8 q8
       replace p8:=eq_true p8
       replace q8:=eq_true q8
       have HP10:=Kd.R_putg HO_3.out (x5_1 : Int) (wrap64 (x4_1 + 250))
       go_wp2_with (first|((with_reducible refine gate_store (t:=2) (p:=29) rfl ?_);refine store_event (t:=2) (p:=29) (v:=?vo_w11) (w1:=(wr.setCell ⟨go8,(x5_1 : Int).toNat,none⟩ (.int .i64 (wrap64 (x4_1 + 250))))) ?hg ?ho ?hn ?hr ?_;(case ho => rfl);(case hg => rfl);(case hn => rfl);(case hr => first|(go_simp;done)|(go_simp;rfl));intro w11 hw;have hg : wr.grownBy w11 (some go8):=(by rw [hw];exact HP10.2);have hp_ : Kd.R (Kd.int .i64) 2 w11 w.heap.size (fun _ => True) (.slice (some ⟨go8,0,none⟩) x3_1.length co9) y676:=(by rw [hw,Ny676.out];exact HP10.1);clear HP10;have n0_:=ak_ (hp_);have n1_:=ak_ ((by rw [hw];exact below_set (HB.out) GB8.out : Below w.heap.size w w11));clear HO_3;clear HB;have HO_3:=n0_;have HB:=n1_;clear n0_ n1_;clear hg hw hp_;have p677 : 0 ≤ (x5_1 : Int):=of_decide_eq_true (by first|(with_reducible assumption)|assumption);have q677 : x5_1 < (y676.length : Int):=(by have h_ : (x5_1 : Int) < ((x3_1.length : Int) : Int):=of_decide_eq_true (by first|(with_reducible assumption)|assumption);first|(have e_:=(Kd.R_reads' HO_3.out).1;omega)|simpa only [Ny676.out,List.length_set] using h_);have ql677 : ((x5_1 : Int) < ((x3_1.length : Int) : Int)) = True:=eq_true (of_decide_eq_true (by first|(with_reducible assumption)|assumption));obtain ⟨ad677,e677,hx677_0⟩:=Kd.at_int (Kd.R_reads' HO_3.out).2.2 x5_1 p677 q677;obtain rfl : (⟨go8,0,none⟩ : Addr) = ad677:=(by injection e677);(first|simp only [add_plain] at hx677_0|simp only [add_at] at hx677_0|simp only [Addr.add,Nat.zero_add] at hx677_0|skip);replace p677:=eq_true p677;replace q677:=eq_true q677))
       go_roundg k1
       case measure => have:=HK1.out;omega
       case rel => exact ⟨(y676),(rd y676 x5_1),(wrap64 (x5_1 + 1)),(by first|rfl|(simp;done)|(simp [*];done)),(by first|rfl|(simp;done)|(simp [*];done)),H',⟨by have:=HK1.out;omega⟩,⟨by (with_reducible repeat (first|apply ra_|apply rb_|apply rc_));exact HO_3.out⟩,⟨by repeat (first|(with_reducible first|exact HB.out|apply ba_|apply bb_|apply bc_)|exact HB.out)⟩⟩
      ·rw [if_neg c7] at H
       have c7b0:=decide_eq_false c7
       clear c7
       have H':=ak_ H
       clear H
       obtain ⟨Ao12,co12,eo12⟩:=Kd.R_slice HO_3.out
       subst eo12
       have p675 : 0 ≤ (x5_1 : Int):=of_decide_eq_true (by first|(with_reducible assumption)|assumption)
       have q675 : x5_1 < (x3_1.length : Int):=of_decide_eq_true (by first|(with_reducible assumption)|assumption)
       obtain ⟨ad675,e675,hx675_0⟩:=Kd.at_int (Kd.R_reads' HO_3.out).2.2 x5_1 p675 q675
       cases e675
       replace p675:=eq_true p675
       replace q675:=eq_true q675
       have p678 : 0 ≤ (x5_1 : Int):=of_decide_eq_true (by first|(with_reducible assumption)|assumption)
       have q678 : x5_1 < (x3_1.length : Int):=of_decide_eq_true (by first|(with_reducible assumption)|assumption)
       obtain ⟨ad678,e678,hx678_0⟩:=Kd.at_int (Kd.R_reads' HO_3.out).2.2 x5_1 p678 q678
       obtain rfl : ad675 = ad678:=(by injection e678)
       replace p678:=eq_true p678
       replace q678:=eq_true q678
       go_wp2
       go_roundg k1
       case measure => have:=HK1.out;omega
       case rel => exact ⟨(x3_1),(rd x3_1 x5_1),(wrap64 (x5_1 + 1)),(by first|rfl|(simp;done)|(simp [*];done)),(by first|rfl|(simp;done)|(simp [*];done)),H',⟨by have:=HK1.out;omega⟩,⟨by (with_reducible repeat (first|apply ra_|apply rb_|apply rc_));exact HO_3.out⟩,⟨by repeat (first|(with_reducible first|exact HB.out|apply ba_|apply bb_|apply bc_)|exact HB.out)⟩⟩
     ·rw [if_neg c6] at H
      exact absurd H (by simp)
    ·rw [if_neg c5] at H
     have c5b0:=decide_eq_false c5
     clear c5
     have H':=ak_ H
     clear H
     obtain ⟨Ao13,co13,eo13⟩:=Kd.R_slice HO_3.out
     subst eo13
     go_wp2
     go_loopg [4,6] k1 (fun kq v4 v6 w' => ∃ (x3_2 : List Int) (x4_2 : Int) (x6_2 : Int),v4 = .int .i64 x4_2 ∧ v6 = .int .i64 x6_2 ∧ Aside0 (madrigalref6_Steady.l1 kq x3_2 x4_2 x6_2 = some r) ∧ Aside0 (kq ≤ k1) ∧ Aside0 (Kd.R (Kd.int .i64) 2 w' w.heap.size (fun _ => True) (.slice Ao13 x3_1.length co13) x3_2) ∧ Aside0 (Below w.heap.size w w'))
     case atStart => exact ⟨(x3_1),(32768),(wrap64 ((x3_1.length : Int) - 1)),(by first|rfl|(simp;done)|(simp [*];done)),(by first|rfl|(simp;done)|(simp [*];done)),H',⟨Nat.le_refl _⟩,⟨by (with_reducible repeat (first|apply ra_|apply rb_|apply rc_));exact HO_3.out⟩,⟨by repeat (first|(with_reducible first|exact HB.out|apply ba_|apply bb_|apply bc_)|exact HB.out)⟩⟩
     case round =>
      clear H'
      try clear c2
      try clear c2b0
      try clear c2b1
      try clear p2
      try clear c3
      try clear c5
      try clear c5b0
      try clear c6
      try clear c6b0
      try clear p6
      try clear q6
      try clear hx6
      try clear c7
      try clear c7b0
      try clear p8
      try clear q8
      try clear hx8
      try clear hf8
      try clear hx675_0
      try clear hx677_0
      try clear hx678_0
      try clear hx8_0
      try clear p2
      try clear p675
      try clear p677
      try clear p678
      try clear p8
      try clear q675
      try clear q677
      try clear q678
      try clear q8
      obtain ⟨x3_2,x4_2,x6_2,rfl,rfl,HA,HK2,HO_3,HB⟩:=hrel
      (try simp only [i64_w,i32_w])
      have hl3_2:=(Kd.R_reads' HO_3.out).1
      rw [hl3_2] at HO_3
      (try simp only [hl3_2])
      cases gk with
      | zero => exact absurd HA.out (by simp [madrigalref6_Steady.l1])
      | succ k2 =>
       have H:=HA.out
       clear HA
       simp only [madrigalref6_Steady.l1] at H
       by_cases c14 : x6_2 ≥ 0
       ·rw [if_pos c14] at H
        have c14b0 : decide (0 ≤ x6_2) = true:=decide_eq_true c14
        (try (have c14h0:=c14b0;simp only [hl3_2] at c14h0))
        clear c14
        by_cases c15 : 0 ≤ x6_2
        ·rw [if_pos c15] at H
         have c15b0:=decide_eq_true c15
         (try (have c15h0:=c15b0;simp only [hl3_2] at c15h0))
         clear c15
         by_cases c16 : x6_2 < (x3_2.length : Int)
         ·rw [if_pos c16] at H
          have c16b0:=decide_eq_true c16
          (try (have c16h0:=c16b0;simp only [hl3_2] at c16h0))
          clear c16
          by_cases c17 : (rd x3_2 x6_2) > (wrap64 (x4_2 - 250))
          ·rw [if_pos c17] at H
           have c17b0 : decide ((wrap64 (x4_2 - 250)) < (rd x3_2 x6_2)) = true:=decide_eq_true c17
           (try (have c17h0:=c17b0;simp only [hl3_2] at c17h0))
           clear c17
           obtain ⟨y680,hy680⟩ : ∃ y_ : List Int,y_ = (x3_2.set (x6_2 : Int).toNat (wrap64 (x4_2 - 250))):=⟨_,rfl⟩
           replace H : (madrigalref6_Steady.l1 k2 y680 (rd y680 x6_2) (wrap64 (x6_2 - 1))) = some r:=by first|(rw [hy680];with_reducible exact H)|(have H2_:=(Option.bind_some _ _).symm.trans H;rw [hy680];with_reducible exact H2_)|(have H2_:=(Option.bind_some _ _).symm.trans H;with_reducible exact H2_)|with_reducible exact H|(rw [hy680];exact H)|exact H
           have Ny680:=ak_ hy680
           clear hy680
           have H':=ak_ H
           clear H
           have p679 : 0 ≤ (x6_2 : Int):=of_decide_eq_true (by first|(with_reducible assumption)|assumption)
           have q679 : x6_2 < (x3_2.length : Int):=of_decide_eq_true (by first|(with_reducible assumption)|assumption)
           obtain ⟨ad679,e679,hx679_0⟩:=Kd.at_int (Kd.R_reads' HO_3.out).2.2 x6_2 p679 q679
           cases e679
           replace p679:=eq_true p679
           replace q679:=eq_true q679
           have p18 : 0 ≤ (x6_2 : Int):=of_decide_eq_true (by first|(with_reducible assumption)|assumption)
           have q18 : (x6_2 : Int) < ((x3_2.length : Int) : Int):=of_decide_eq_true (by first|(with_reducible assumption)|assumption)
           obtain ⟨go18,co18,eo18,gb18,gl18,cl18,HG18⟩:=Kd.R_form HO_3.out (by omega)
           (first|cases eo18|(injection eo18 with ea_ en_ ec_;(first|subst ea_|(injection ea_ with ea_;subst ea_));subst ec_;clear en_))
           have GB18:=ak_ gb18
           have GG18:=ak_ HG18
           clear gb18 gl18 HG18
           (first|simp only [add_plain] at hx679_0|skip)
           obtain ⟨hx18_0,hf18_0⟩:=Kd.R_celln 0 HO_3.out (x6_2 : Int) p18 q18
           replace p18:=eq_true p18
           replace q18:=eq_true q18
           have HP19:=Kd.R_putg HO_3.out (x6_2 : Int) (wrap64 (x4_2 - 250))
           go_wp2_with (first|((with_reducible refine gate_store (t:=2) (p:=52) rfl ?_);refine store_event (t:=2) (p:=52) (v:=?vo_w20) (w1:=(wr.setCell ⟨go18,(x6_2 : Int).toNat,none⟩ (.int .i64 (wrap64 (x4_2 - 250))))) ?hg ?ho ?hn ?hr ?_;(case ho => rfl);(case hg => rfl);(case hn => rfl);(case hr => first|(go_simp;done)|(go_simp;rfl));intro w20 hw;have hg : wr.grownBy w20 (some go18):=(by rw [hw];exact HP19.2);have hp_ : Kd.R (Kd.int .i64) 2 w20 w.heap.size (fun _ => True) (.slice (some ⟨go18,0,none⟩) x3_2.length co13) y680:=(by rw [hw,Ny680.out];exact HP19.1);clear HP19;have n0_:=ak_ (hp_);have n1_:=ak_ ((by rw [hw];exact below_set (HB.out) GB18.out : Below w.heap.size w w20));clear HO_3;clear HB;have HO_3:=n0_;have HB:=n1_;clear n0_ n1_;clear hg hw hp_;have p681 : 0 ≤ (x6_2 : Int):=of_decide_eq_true (by first|(with_reducible assumption)|assumption);have q681 : x6_2 < (y680.length : Int):=(by have h_ : (x6_2 : Int) < ((x3_2.length : Int) : Int):=of_decide_eq_true (by first|(with_reducible assumption)|assumption);first|(have e_:=(Kd.R_reads' HO_3.out).1;omega)|simpa only [Ny680.out,List.length_set] using h_);have ql681 : ((x6_2 : Int) < ((x3_2.length : Int) : Int)) = True:=eq_true (of_decide_eq_true (by first|(with_reducible assumption)|assumption));obtain ⟨ad681,e681,hx681_0⟩:=Kd.at_int (Kd.R_reads' HO_3.out).2.2 x6_2 p681 q681;obtain rfl : (⟨go18,0,none⟩ : Addr) = ad681:=(by injection e681);(first|simp only [add_plain] at hx681_0|simp only [add_at] at hx681_0|simp only [Addr.add,Nat.zero_add] at hx681_0|skip);replace p681:=eq_true p681;replace q681:=eq_true q681))
           (try simp only [← hl3_2])
           go_roundg k2
           case measure => have:=HK1.out;have:=HK2.out;omega
           case rel => exact ⟨(y680),(rd y680 x6_2),(wrap64 (x6_2 - 1)),(by first|rfl|(simp;done)|(simp [*];done)),(by first|rfl|(simp;done)|(simp [*];done)),H',⟨by have:=HK1.out;have:=HK2.out;omega⟩,⟨by (try simp only [hl3_2]);(with_reducible repeat (first|apply ra_|apply rb_|apply rc_));exact HO_3.out⟩,⟨by repeat (first|(with_reducible first|exact HB.out|apply ba_|apply bb_|apply bc_)|exact HB.out)⟩⟩
          ·rw [if_neg c17] at H
           have c17b0 : decide ((wrap64 (x4_2 - 250)) < (rd x3_2 x6_2)) = false:=decide_eq_false c17
           (try (have c17h0:=c17b0;simp only [hl3_2] at c17h0))
           clear c17
           have H':=ak_ H
           clear H
           have p679 : 0 ≤ (x6_2 : Int):=of_decide_eq_true (by first|(with_reducible assumption)|assumption)
           have q679 : x6_2 < (x3_2.length : Int):=of_decide_eq_true (by first|(with_reducible assumption)|assumption)
           obtain ⟨ad679,e679,hx679_0⟩:=Kd.at_int (Kd.R_reads' HO_3.out).2.2 x6_2 p679 q679
           cases e679
           replace p679:=eq_true p679
           replace q679:=eq_true q679
           have p682 : 0 ≤ (x6_2 : Int):=of_decide_eq_true (by first|(with_reducible assumption)|assumption)
           have q682 : x6_2 < (x3_2.length : Int):=of_decide_eq_true (by first|(with_reducible assumption)|assumption)
           obtain ⟨ad682,e682,hx682_0⟩:=Kd.at_int (Kd.R_reads' HO_3.out).2.2 x6_2 p682 q682
           obtain rfl : ad679 = ad682:=(by injection e682)
           replace p682:=eq_true p682
           replace q682:=eq_true q682
           go_wp2
           (try simp only [← hl3_2])
           go_roundg k2
           case measure => have:=HK1.out;have:=HK2.out;omega
           case rel => exact ⟨(x3_2),(rd x3_2 x6_2),(wrap64 (x6_2 - 1)),(by first|rfl|(simp;done)|(simp [*];done)),(by first|rfl|(simp;done)|(simp [*];done)),H',⟨by have:=HK1.out;have:=HK2.out;omega⟩,⟨by (try simp only [hl3_2]);(with_reducible repeat (first|apply ra_|apply rb_|apply rc_));exact HO_3.out⟩,⟨by repeat (first|(with_reducible first|exact HB.out|apply ba_|apply bb_|apply bc_)|exact HB.out)⟩⟩
         ·rw [if_neg c16] at H
          exact absurd H (by simp)
        ·rw [if_neg c15] at H
         exact absurd H (by simp)
       ·rw [if_neg c14] at H
        have c14b0 : decide (0 ≤ x6_2) = false:=decide_eq_false c14
        (try (have c14h0:=c14b0;simp only [hl3_2] at c14h0))
        clear c14
        obtain rfl:=Option.some.inj H
        go_wp2
        go_ret
        exact ⟨_,by first|rfl|(simp [errW_none,errW_some] <;> rfl)|(simp [*,errW_none,errW_some] <;> rfl),by (with_reducible repeat (first|apply ra_|apply rb_|apply rc_));exact HO_3.out,by repeat (first|(with_reducible first|exact HB.out|apply ba_|apply bb_|apply bc_)|exact HB.out)⟩

end Go.Proofs.Ytllglpcpjeggcaa.P
