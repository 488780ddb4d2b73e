/- The machine side of the laws of one chapter, without conditions: each call of a Go function comes to what the Lean function of its name answers. Written for this claim by a program of the prover. -/
import Derived.Test.YtlmacbiahofmcaaPx0
import Derived.Test.YtlmacbiahofmcaaPx23
import Derived.Test.YtlmacbiahofmcaaPx27
namespace Go.Proofs.Ytlmacbiahofmcaa.P
open Go.RowKit Go.Proofs.YtlmacbiahofmcaaW.PrintWords Go.Proofs.YtlmacbiahofmcaaW.PrintLast Go.Proofs.YtlmacbiahofmcaaW.PrintMore
attribute [local go_sem] max2_int min2_int max_two min_two max_three min_three max_four min_four   -- for this text's walks alone
set_option linter.unusedVariables false
set_option linter.unusedSimpArgs false

/-! ### madrigalref10_table: function 32 -/
def madrigalref10_table.l0 : Nat → Int → List Int → Int → Option (List Int)
 | 0,_,_,_ => none
 | k + 1,x0,x3,x4 => if x4 < (wrap64 (8 * x0)) then (if x0 = 0 then (none) else ((madrigalref1_Cos.f k (wrap64 (Int.tdiv (wrap64 ((wrap64 (Int.tdiv (wrap64 (x4 * 16384)) x0)) + 1)) 2))).bind fun t359 => (if 0 ≤ x4 then (if x4 < (x3.length : Int) then (madrigalref10_table.l0 k x0 (x3.set (x4 : Int).toNat t359) (wrap64 (x4 + 1))) else (none)) else (none)))) else (some x3)
def madrigalref10_table.f (k : Nat) (a0 : Int) : Option (List Int):=if 0 ≤ (wrap64 (8 * a0)) then (if (wrap64 (8 * a0) : Int).toNat ≤ 35184372088832 then (madrigalref10_table.l0 k a0 (List.replicate (wrap64 (8 * a0) : Int).toNat 0) 0) else (none)) else (none)
theorem madrigalref10_table.mono_l : ∀ k,(∀ y0 y1 y2,LeO (madrigalref10_table.l0 k y0 y1 y2) (madrigalref10_table.l0 (k + 1) y0 y1 y2))
 | 0 => fun _ _ _ r h => by simp [madrigalref10_table.l0] at h
 | k + 1 => by
  have ih0:=madrigalref10_table.mono_l k
  all_goals (intros;first|unfold madrigalref10_table.l0)
  all_goals (repeat' first|(with_reducible first|exact ih0 _ _ _|exact madrigalref1_Cos.mono _ _|exact LeO.refl _|exact LeO.none _|refine LeO.ite ?_ ?_|refine LeO.bind ?_ (fun _ => ?_))|exact ih0 _ _ _|exact madrigalref1_Cos.mono _ _|exact LeO.none _|refine LeO.ite ?_ ?_|refine LeO.bind ?_ (fun _ => ?_))
theorem madrigalref10_table.mono : ∀ a0 k,LeO (madrigalref10_table.f k a0) (madrigalref10_table.f (k + 1) a0):=by
 intro a0 k
 have ih0:=madrigalref10_table.mono_l k
 unfold madrigalref10_table.f
 repeat' first|(with_reducible first|exact ih0 _ _ _|exact madrigalref1_Cos.mono _ _|exact LeO.refl _|exact LeO.none _|refine LeO.ite ?_ ?_|refine LeO.bind ?_ (fun _ => ?_))|exact ih0 _ _ _|exact madrigalref1_Cos.mono _ _|exact LeO.none _|refine LeO.ite ?_ ?_|refine LeO.bind ?_ (fun _ => ?_)
set_option maxHeartbeats 8000000 in
set_option maxRecDepth 100000 in
theorem madrigalref10_table.calls (k : Nat) (a0 : Int) (r : List Int) (w : World) (h : madrigalref10_table.f k a0 = some r) :
  Calls Try.prog 32 #[.int .i64 a0] w fun e w' => ∃ v0_ : Value,e = .returned (v0_) ∧ Kd.R (Kd.int .i64) 2 w' w.heap.size (fun _ => True) v0_ r ∧ Below w.heap.size w w':=by
 have HB:=ak_ (Below.refl w.heap.size w)
 have H : (if 0 ≤ (wrap64 (8 * a0)) then (if (wrap64 (8 * a0) : Int).toNat ≤ 35184372088832 then (madrigalref10_table.l0 k a0 (List.replicate (wrap64 (8 * a0) : Int).toNat 0) 0) else (none)) else (none)) = some r:=h
 clear h
 obtain ⟨ji2,hji2⟩ : ∃ j_ : Int,(wrap64 (8 * a0)) = j_:=⟨_,rfl⟩
 replace H : (if 0 ≤ (ji2) then (if (ji2 : Int).toNat ≤ 35184372088832 then (madrigalref10_table.l0 k a0 (List.replicate (ji2 : Int).toNat 0) 0) else (none)) else (none)) = some r:=by first|(rw [hji2] at H;exact H)|(simp only [hji2] at H ⊢;exact H)
 have hji2w : (IntKind.i64.wrap (8 * a0)) = ji2:=(i64_w _).trans hji2
 by_cases c3 : 0 ≤ (ji2)
 ·rw [if_pos c3] at H
  have c3b0:=eq_true c3
  have c3b1 : decide (0 ≤ (ji2)) = true:=decide_eq_true c3
  clear c3
  by_cases c4 : (ji2 : Int).toNat ≤ 35184372088832
  ·rw [if_pos c4] at H
   have c4b0:=eq_true c4
   have c4b1 : decide ((ji2 : Int).toNat ≤ 35184372088832) = true:=decide_eq_true c4
   clear c4
   obtain ⟨y356,hy356⟩ : ∃ y_ : List Int,y_ = (List.replicate (ji2 : Int).toNat 0):=⟨_,rfl⟩
   replace H : (madrigalref10_table.l0 k a0 y356 0) = some r:=by first|(rw [hy356];with_reducible exact H)|(have H2_:=(Option.bind_some _ _).symm.trans H;rw [hy356];with_reducible exact H2_)|(have H2_:=(Option.bind_some _ _).symm.trans H;with_reducible exact H2_)|with_reducible exact H|(rw [hy356];exact H)|exact H
   have Ny356:=ak_ hy356
   clear hy356
   have H':=ak_ H
   clear H
   go_enter Try.func32,Try.ntmps32
   go_wp2_with (first|((with_reducible refine gate_dst (N:=7) rfl ?_);refine Kd.R_make (Kd.int .i64) _ 2 rfl (N:=7) rfl 23 _ _ rfl ji2 rfl rfl Try.underlying23 (.int .i64 0) 8 info2 rfl (by decide) (by omega) 0 (ok:=fun _ => True) (okp:=fun _ => True) rfl (fun _ hk => hk) trivial (of_decide_eq_true (by first|(with_reducible assumption)|assumption)) (Nat.le_trans (Nat.mul_le_mul_right _ (of_decide_eq_true (by first|(with_reducible assumption)|assumption) : ji2.toNat ≤ 35184372088832)) (by omega)) (Below.refl _ _) (Nat.le_refl _) ?_;intro v357 w5 ho6 hb hg_ hnew_;clear hg_ hnew_;(first|rw [← Ny356.out] at ho6|(simp only [Int.reduceToNat] at ho6;rw [← Ny356.out] at ho6));have n0_:=ak_ (Kd.R_lower ho6 (below_size (by repeat (first|(with_reducible first|exact HB.out|apply ba_|apply bb_|apply bc_)|exact HB.out))));have n1_:=ak_ (below_step (by repeat (first|(with_reducible first|exact HB.out|apply ba_|apply bb_|apply bc_)|exact HB.out)) hb);clear HB;have HO358:=n0_;have HB:=n1_;clear n0_ n1_;clear hb ho6))
   go_loopg [4] k (fun kq v4 w' => ∃ (x3_1 : List Int) (x4_1 : Int),v4 = .int .i64 x4_1 ∧ Aside0 (madrigalref10_table.l0 kq a0 x3_1 x4_1 = some r) ∧ Aside0 (kq ≤ k) ∧ Aside0 (Kd.R (Kd.int .i64) 2 w' w.heap.size (fun _ => True) v357 x3_1) ∧ Aside0 (Below w.heap.size w w'))
   case atStart => exact ⟨(y356),(0),(by first|rfl|(simp;done)|(simp [*];done)),H',⟨Nat.le_refl _⟩,⟨by (with_reducible repeat (first|apply ra_|apply rb_|apply rc_));exact HO358.out⟩,⟨by repeat (first|(with_reducible first|exact HB.out|apply ba_|apply bb_|apply bc_)|exact HB.out)⟩⟩
   case round =>
    clear H'
    try clear p2
    try clear c3
    try clear c3b0
    try clear c3b1
    try clear c4
    try clear c4b0
    try clear c4b1
    try clear p6
    obtain ⟨x3_1,x4_1,rfl,HA,HK1,HO_3,HB⟩:=hrel
    (try simp only [i64_w,i32_w])
    cases gk with
    | zero => exact absurd HA.out (by simp [madrigalref10_table.l0])
    | succ k1 =>
     have H:=HA.out
     clear HA
     simp only [madrigalref10_table.l0] at H
     by_cases c7 : x4_1 < (wrap64 (8 * a0))
     ·rw [if_pos c7] at H
      have c7b0:=decide_eq_true c7
      (try rw [hji2] at c7b0)
      clear c7
      by_cases c8 : a0 = 0
      ·rw [if_pos c8] at H
       exact absurd H (by simp)
      ·rw [if_neg c8] at H
       have c8b0 : (a0 == 0) = false:=beq_eq_false_iff_ne.mpr c8
       have c8b1 : (a0 != 0) = true:=bne_iff_ne.mpr c8
       replace H:=Option.bind_eq_some_iff.mp H
       obtain ⟨t359,A90,H⟩:=H
       (try dsimp only at H)
       have A9:=ak_ A90
       clear A90
       by_cases c10 : 0 ≤ x4_1
       ·rw [if_pos c10] at H
        have c10b0:=decide_eq_true c10
        clear c10
        by_cases c11 : x4_1 < (x3_1.length : Int)
        ·rw [if_pos c11] at H
         have c11b0:=decide_eq_true c11
         clear c11
         obtain ⟨y360,hy360⟩ : ∃ y_ : List Int,y_ = (x3_1.set (x4_1 : Int).toNat t359):=⟨_,rfl⟩
         replace H : (madrigalref10_table.l0 k1 a0 y360 (wrap64 (x4_1 + 1))) = some r:=by first|(rw [hy360];with_reducible exact H)|(have H2_:=(Option.bind_some _ _).symm.trans H;rw [hy360];with_reducible exact H2_)|(have H2_:=(Option.bind_some _ _).symm.trans H;with_reducible exact H2_)|with_reducible exact H|(rw [hy360];exact H)|exact H
         have Ny360:=ak_ hy360
         clear hy360
         have H':=ak_ H
         clear H
         go_wp2_with (first|((with_reducible refine gate_callee (f:=43) rfl ?_);refine goesL_ (some 22) rfl rfl Try.func43 (by kernel_rfl) rfl #[.int .i64 (wrap64 (Int.tdiv (wrap64 ((wrap64 (Int.tdiv (wrap64 (x4_1 * 16384)) a0)) + 1)) 2))] rfl (by (try simp only [List.map_toArray,List.map_cons,List.map_nil]);first|done|rfl|(simp only [List.length_drop,List.length_take];rfl)) ?_;(with_reducible refine (madrigalref1_Cos.calls k1 (wrap64 (Int.tdiv (wrap64 ((wrap64 (Int.tdiv (wrap64 (x4_1 * 16384)) a0)) + 1)) 2)) t359 _ A9.out).mono ?_);rintro e w13 ⟨rfl,hb⟩;refine ⟨_,rfl,?_⟩;have n0_:=ak_ (Kd.R_below (by (with_reducible repeat (first|apply ra_|apply rb_|apply rc_));exact HO_3.out) hb);have n1_:=ak_ (below_step (by repeat (first|(with_reducible first|exact HB.out|apply ba_|apply bb_|apply bc_)|exact HB.out)) hb);clear HO_3;clear HB;have HO_3:=n0_;have HB:=n1_;clear n0_ n1_;(try clear hb);have p12 : 0 ≤ (x4_1 : Int):=of_decide_eq_true (by first|(with_reducible assumption)|assumption);have q12 : (x4_1 : Int) < ((x3_1.length : Int) : Int):=of_decide_eq_true (by first|(with_reducible assumption)|assumption);obtain ⟨go12,co12,eo12,gb12,gl12,cl12,HG12⟩:=Kd.R_form HO_3.out (by omega);(first|cases eo12|(injection eo12 with ea_ en_ ec_;(first|subst ea_|(injection ea_ with ea_;subst ea_));subst ec_;clear en_));have GB12:=ak_ gb12;have GG12:=ak_ HG12;clear gb12 gl12 HG12;obtain ⟨hx12_0,hf12_0⟩:=Kd.R_celln 0 HO_3.out (x4_1 : Int) p12 q12;replace p12:=eq_true p12;replace q12:=eq_true q12;obtain ⟨hy14_,hz14_⟩:=Kd.R_celln 0 HO_3.out (x4_1 : Int) (of_decide_eq_true (by first|(with_reducible assumption)|assumption)) (of_decide_eq_true (by first|(with_reducible assumption)|assumption));have HP14:=Kd.R_putg HO_3.out (x4_1 : Int) t359)|((with_reducible refine gate_store (t:=2) (p:=23) rfl ?_);refine store_event (t:=2) (p:=23) (v:=?vo_w15) (w1:=(w13.setCell ⟨go12,(x4_1 : Int).toNat,none⟩ (.int .i64 t359))) ?hg ?ho ?hn ?hr ?_;(case ho => rfl);(case hg => rfl);(case hn => rfl);(case hr => first|(go_simp;done)|(go_simp;rfl));intro w15 hw;have hg : w13.grownBy w15 (some go12):=(by rw [hw];exact HP14.2);have hp_ : Kd.R (Kd.int .i64) 2 w15 w.heap.size (fun _ => True) (.slice (some ⟨go12,0,none⟩) x3_1.length co12) y360:=(by rw [hw,Ny360.out];exact HP14.1);clear HP14;have n0_:=ak_ (hp_);have n1_:=ak_ ((by rw [hw];exact below_set (HB.out) GB12.out : Below w.heap.size w w15));clear HO_3;clear HB;have HO_3:=n0_;have HB:=n1_;clear n0_ n1_;clear hg hw hp_))
         go_roundg k1
         case measure => have:=HK1.out;omega
         case rel => exact ⟨(y360),(wrap64 (x4_1 + 1)),(by first|rfl|(simp;done)|(simp [*];done)),H',⟨by have:=HK1.out;omega⟩,⟨by (with_reducible repeat (first|apply ra_|apply rb_|apply rc_));exact HO_3.out⟩,⟨by repeat (first|(with_reducible first|exact HB.out|apply ba_|apply bb_|apply bc_)|exact HB.out)⟩⟩
        ·rw [if_neg c11] at H
         exact absurd H (by simp)
       ·rw [if_neg c10] at H
        exact absurd H (by simp)
     ·rw [if_neg c7] at H
      have c7b0:=decide_eq_false c7
      (try rw [hji2] at c7b0)
      clear c7
      obtain rfl:=Option.some.inj H
      go_wp2
      go_ret
      exact ⟨_,by first|rfl|(simp [errW_none,errW_some] <;> rfl)|(simp only [← hji2];first|rfl|(simp [errW_none,errW_some] <;> rfl))|(simp [*,errW_none,errW_some] <;> rfl),by (with_reducible repeat (first|apply ra_|apply rb_|apply rc_));exact HO_3.out,by repeat (first|(with_reducible first|exact HB.out|apply ba_|apply bb_|apply bc_)|exact HB.out)⟩
  ·rw [if_neg c4] at H
   exact absurd H (by simp)
 ·rw [if_neg c3] at H
  exact absurd H (by simp)

/-! ### madrigalref10_keep: function 34 -/
def madrigalref10_keep.f (k : Nat) (a0 : Int) : Option (Int):=(madrigalref1_Clamp.f k a0 (-16777216) 16777216).bind fun t361 => (some t361)
theorem madrigalref10_keep.mono : ∀ a0 k,LeO (madrigalref10_keep.f k a0) (madrigalref10_keep.f (k + 1) a0):=by
 intro a0 k
 unfold madrigalref10_keep.f
 repeat' first|(with_reducible first|exact madrigalref1_Clamp.mono _ _ _ _|exact LeO.refl _|exact LeO.none _|refine LeO.ite ?_ ?_|refine LeO.bind ?_ (fun _ => ?_))|exact madrigalref1_Clamp.mono _ _ _ _|exact LeO.none _|refine LeO.ite ?_ ?_|refine LeO.bind ?_ (fun _ => ?_)
set_option maxHeartbeats 8000000 in
set_option maxRecDepth 100000 in
theorem madrigalref10_keep.calls (k : Nat) (a0 : Int) (r : Int) (w : World) (h : madrigalref10_keep.f k a0 = some r) :
  Calls Try.prog 34 #[.int .i64 a0] w fun e w' => e = .returned (.int .i64 r) ∧ Drawn0 w w':=by
 have H : ((madrigalref1_Clamp.f k a0 (-16777216) 16777216).bind fun t361 => (some t361)) = some r:=h
 clear h
 replace H:=Option.bind_eq_some_iff.mp H
 obtain ⟨t361,A20,H⟩:=H
 (try dsimp only at H)
 have A2:=ak_ A20
 clear A20
 obtain rfl:=Option.some.inj H
 go_enter Try.func34,Try.ntmps34
 go_wp2_with (first|((with_reducible refine gate_callee (f:=35) rfl ?_);refine goesL_ (some 4) rfl rfl Try.func35 (by kernel_rfl) rfl #[.int .i64 a0,.int .i64 (-16777216),.int .i64 16777216] rfl (by (try simp only [List.map_toArray,List.map_cons,List.map_nil]);first|done|rfl|(simp only [List.length_drop,List.length_take];rfl)) ?_;(with_reducible refine (madrigalref1_Clamp.calls k a0 (-16777216) 16777216 t361 _ A2.out).mono ?_);rintro e w' ⟨rfl,⟨nd,rfl⟩⟩;refine ⟨_,rfl,?_⟩))
 go_ret
 exact ⟨by first|rfl|(simp;done)|(simp [*];done),by repeat (first|exact Drawn0.refl _|apply Drawn0.step)⟩

end Go.Proofs.Ytlmacbiahofmcaa.P
