/- The machine side of the laws of one chapter, without conditions: each call of a Go function comes to what the Lean function of its name answers. Written for this claim by a program of the prover. -/
import Derived.Test.YtlmacbiahofmcaaPx0
import Derived.Test.YtlmacbiahofmcaaPx5
namespace Go.Proofs.Ytlmacbiahofmcaa.P
open Go.RowKit Go.Proofs.YtlmacbiahofmcaaW.PrintWords Go.Proofs.YtlmacbiahofmcaaW.PrintLast Go.Proofs.YtlmacbiahofmcaaW.PrintMore
attribute [local go_sem] max2_int min2_int max_two min_two max_three min_three max_four min_four   -- for this text's walks alone
set_option linter.unusedVariables false
set_option linter.unusedSimpArgs false

/-! ### mdct_waves: function 29 -/
def mdct_waves.l0 : Nat → Int → List Int → Int → Int → Option (List Int)
 | 0,_,_,_,_ => none
 | k + 1,x0,x3,x9,x10 => if x10 < x9 then (if x0 = 0 then (none) else ((fix_Cos.f k (wrap64 (Int.tdiv (wrap64 ((wrap64 (Int.tdiv (wrap64 (Int.tdiv (wrap64 (x10 * 65536)) 4)) x0)) + 1)) 2))).bind fun t148 => (if 0 ≤ x10 then (if x10 < (x3.length : Int) then (mdct_waves.l0 k x0 (x3.set (x10 : Int).toNat t148) x9 (wrap64 (x10 + 1))) else (none)) else (none)))) else (some x3)
def mdct_waves.f (k : Nat) (a0 : Int) : Option (List Int):=if 0 ≤ (wrap64 (8 * a0)) then (if (wrap64 (8 * a0) : Int).toNat ≤ 35184372088832 then ((some (List.replicate (wrap64 (8 * a0) : Int).toNat 0 : List Int)).bind fun y145 => (mdct_waves.l0 k a0 y145 (y145.length : Int) 0)) else (none)) else (none)
theorem mdct_waves.mono_l : ∀ k,(∀ y0 y1 y2 y3,LeO (mdct_waves.l0 k y0 y1 y2 y3) (mdct_waves.l0 (k + 1) y0 y1 y2 y3))
 | 0 => fun _ _ _ _ r h => by simp [mdct_waves.l0] at h
 | k + 1 => by
  have ih0:=mdct_waves.mono_l k
  all_goals (intros;first|unfold mdct_waves.l0)
  all_goals (repeat' first|(with_reducible first|exact ih0 _ _ _ _|exact fix_Cos.mono _ _|exact LeO.refl _|exact LeO.none _|refine LeO.ite ?_ ?_|refine LeO.bind ?_ (fun _ => ?_))|exact ih0 _ _ _ _|exact fix_Cos.mono _ _|exact LeO.none _|refine LeO.ite ?_ ?_|refine LeO.bind ?_ (fun _ => ?_))
theorem mdct_waves.mono : ∀ a0 k,LeO (mdct_waves.f k a0) (mdct_waves.f (k + 1) a0):=by
 intro a0 k
 have ih0:=mdct_waves.mono_l k
 unfold mdct_waves.f
 repeat' first|(with_reducible first|exact ih0 _ _ _ _|exact fix_Cos.mono _ _|exact LeO.refl _|exact LeO.none _|refine LeO.ite ?_ ?_|refine LeO.bind ?_ (fun _ => ?_))|exact ih0 _ _ _ _|exact fix_Cos.mono _ _|exact LeO.none _|refine LeO.ite ?_ ?_|refine LeO.bind ?_ (fun _ => ?_)
set_option maxHeartbeats 8000000 in
set_option maxRecDepth 100000 in
theorem mdct_waves.calls (k : Nat) (a0 : Int) (r : List Int) (w : World) (h : mdct_waves.f k a0 = some r) :
  Calls Try.prog 29 #[.int .i64 a0] w fun e w' => ∃ v0_ : Value,e = .returned (v0_) ∧ Kd.R (Kd.int .i64) 2 w' w.heap.size (fun _ => True) v0_ r ∧ Below w.heap.size w w':=by
 have HB:=ak_ (Below.refl w.heap.size w)
 have H : (if 0 ≤ (wrap64 (8 * a0)) then (if (wrap64 (8 * a0) : Int).toNat ≤ 35184372088832 then ((some (List.replicate (wrap64 (8 * a0) : Int).toNat 0 : List Int)).bind fun y145 => (mdct_waves.l0 k a0 y145 (y145.length : Int) 0)) else (none)) else (none)) = some r:=h
 clear h
 obtain ⟨ji2,hji2⟩ : ∃ j_ : Int,(wrap64 (8 * a0)) = j_:=⟨_,rfl⟩
 replace H : (if 0 ≤ (ji2) then (if (ji2 : Int).toNat ≤ 35184372088832 then ((some (List.replicate (ji2 : Int).toNat 0 : List Int)).bind fun y145 => (mdct_waves.l0 k a0 y145 (y145.length : Int) 0)) else (none)) else (none)) = some r:=by first|(rw [hji2] at H;exact H)|(simp only [hji2] at H ⊢;exact H)
 have hji2w : (IntKind.i64.wrap (8 * a0)) = ji2:=(i64_w _).trans hji2
 by_cases c3 : 0 ≤ (ji2)
 ·rw [if_pos c3] at H
  have c3b0:=eq_true c3
  have c3b1 : decide (0 ≤ (ji2)) = true:=decide_eq_true c3
  clear c3
  by_cases c4 : (ji2 : Int).toNat ≤ 35184372088832
  ·rw [if_pos c4] at H
   have c4b0:=eq_true c4
   have c4b1 : decide ((ji2 : Int).toNat ≤ 35184372088832) = true:=decide_eq_true c4
   clear c4
   obtain ⟨y145,hy145⟩ : ∃ y_ : List Int,y_ = (List.replicate (ji2 : Int).toNat 0):=⟨_,rfl⟩
   replace H : (mdct_waves.l0 k a0 y145 (y145.length : Int) 0) = some r:=by first|(rw [hy145];with_reducible exact H)|(have H2_:=(Option.bind_some _ _).symm.trans H;rw [hy145];with_reducible exact H2_)|(have H2_:=(Option.bind_some _ _).symm.trans H;with_reducible exact H2_)|with_reducible exact H|(rw [hy145];exact H)|exact H
   have Ny145:=ak_ hy145
   clear hy145
   have H':=ak_ H
   clear H
   go_enter Try.func29,Try.ntmps29
   go_wp2_with (first|((with_reducible refine gate_dst (N:=7) rfl ?_);refine Kd.R_make (Kd.int .i64) _ 2 rfl (N:=7) rfl 23 _ _ rfl ji2 rfl rfl Try.underlying23 (.int .i64 0) 8 info2 rfl (by decide) (by omega) 0 (ok:=fun _ => True) (okp:=fun _ => True) rfl (fun _ hk => hk) trivial (of_decide_eq_true (by first|(with_reducible assumption)|assumption)) (Nat.le_trans (Nat.mul_le_mul_right _ (of_decide_eq_true (by first|(with_reducible assumption)|assumption) : ji2.toNat ≤ 35184372088832)) (by omega)) (Below.refl _ _) (Nat.le_refl _) ?_;intro v146 w5 ho6 hb hg_ hnew_;clear hg_ hnew_;(first|rw [← Ny145.out] at ho6|(simp only [Int.reduceToNat] at ho6;rw [← Ny145.out] at ho6));have n0_:=ak_ (Kd.R_lower ho6 (below_size (by repeat (first|(with_reducible first|exact HB.out|apply ba_|apply bb_|apply bc_)|exact HB.out))));have n1_:=ak_ (below_step (by repeat (first|(with_reducible first|exact HB.out|apply ba_|apply bb_|apply bc_)|exact HB.out)) hb);clear HB;have HO147:=n0_;have HB:=n1_;clear n0_ n1_;clear hb ho6;obtain ⟨Ao7,co7,eo7⟩:=Kd.R_slice HO147.out;subst eo7))
   go_loopg [10] k (fun kq v10 w' => ∃ (x3_1 : List Int) (x10_1 : Int),v10 = .int .i64 x10_1 ∧ Aside0 (mdct_waves.l0 kq a0 x3_1 (y145.length : Int) x10_1 = some r) ∧ Aside0 (kq ≤ k) ∧ Aside0 (Kd.R (Kd.int .i64) 2 w' w.heap.size (fun _ => True) (.slice Ao7 y145.length co7) x3_1) ∧ Aside0 (Below w.heap.size w w'))
   case atStart => exact ⟨(y145),(0),(by first|rfl|(simp;done)|(simp [*];done)),H',⟨Nat.le_refl _⟩,⟨by (with_reducible repeat (first|apply ra_|apply rb_|apply rc_));exact HO147.out⟩,⟨by repeat (first|(with_reducible first|exact HB.out|apply ba_|apply bb_|apply bc_)|exact HB.out)⟩⟩
   case round =>
    clear H'
    try clear c2
    try clear p2
    try clear c3
    try clear c3b0
    try clear c3b1
    try clear c4
    try clear c4b0
    try clear c4b1
    try clear p6
    obtain ⟨x3_1,x10_1,rfl,HA,HK1,HO_3,HB⟩:=hrel
    (try simp only [i64_w,i32_w])
    have hl3_1:=(Kd.R_reads' HO_3.out).1
    rw [hl3_1] at HO_3
    (try simp only [hl3_1])
    cases gk with
    | zero => exact absurd HA.out (by simp [mdct_waves.l0])
    | succ k1 =>
     have H:=HA.out
     clear HA
     simp only [mdct_waves.l0] at H
     by_cases c8 : x10_1 < (y145.length : Int)
     ·rw [if_pos c8] at H
      have c8b0:=decide_eq_true c8
      (try (have c8h0:=c8b0;simp only [hl3_1] at c8h0))
      clear c8
      by_cases c9 : a0 = 0
      ·rw [if_pos c9] at H
       exact absurd H (by simp)
      ·rw [if_neg c9] at H
       have c9b0 : (a0 == 0) = false:=beq_eq_false_iff_ne.mpr c9
       have c9b1 : (a0 != 0) = true:=bne_iff_ne.mpr c9
       (try (have c9h0:=c9b0;simp only [hl3_1] at c9h0))
       (try (have c9h1:=c9b1;simp only [hl3_1] at c9h1))
       replace H:=Option.bind_eq_some_iff.mp H
       obtain ⟨t148,A100,H⟩:=H
       (try dsimp only at H)
       have A10:=ak_ A100
       clear A100
       by_cases c11 : 0 ≤ x10_1
       ·rw [if_pos c11] at H
        have c11b0:=decide_eq_true c11
        (try (have c11h0:=c11b0;simp only [hl3_1] at c11h0))
        clear c11
        by_cases c12 : x10_1 < (x3_1.length : Int)
        ·rw [if_pos c12] at H
         have c12b0:=decide_eq_true c12
         (try (have c12h0:=c12b0;simp only [hl3_1] at c12h0))
         clear c12
         obtain ⟨y149,hy149⟩ : ∃ y_ : List Int,y_ = (x3_1.set (x10_1 : Int).toNat t148):=⟨_,rfl⟩
         replace H : (mdct_waves.l0 k1 a0 y149 (y145.length : Int) (wrap64 (x10_1 + 1))) = some r:=by first|(rw [hy149];with_reducible exact H)|(have H2_:=(Option.bind_some _ _).symm.trans H;rw [hy149];with_reducible exact H2_)|(have H2_:=(Option.bind_some _ _).symm.trans H;with_reducible exact H2_)|with_reducible exact H|(rw [hy149];exact H)|exact H
         have Ny149:=ak_ hy149
         clear hy149
         have H':=ak_ H
         clear H
         go_wp2_with (first|((with_reducible refine gate_callee (f:=41) rfl ?_);refine goesL_ (some 22) rfl rfl Try.func41 (by kernel_rfl) rfl #[.int .i64 (wrap64 (Int.tdiv (wrap64 ((wrap64 (Int.tdiv (wrap64 (Int.tdiv (wrap64 (x10_1 * 65536)) 4)) a0)) + 1)) 2))] rfl (by (try simp only [List.map_toArray,List.map_cons,List.map_nil]);first|done|rfl|(simp only [List.length_drop,List.length_take];rfl)) ?_;(with_reducible refine (fix_Cos.calls k1 (wrap64 (Int.tdiv (wrap64 ((wrap64 (Int.tdiv (wrap64 (Int.tdiv (wrap64 (x10_1 * 65536)) 4)) a0)) + 1)) 2)) t148 _ A10.out).mono ?_);rintro e w14 ⟨rfl,hb⟩;refine ⟨_,rfl,?_⟩;have n0_:=ak_ (Kd.R_below (by (with_reducible repeat (first|apply ra_|apply rb_|apply rc_));exact HO_3.out) hb);have n1_:=ak_ (below_step (by repeat (first|(with_reducible first|exact HB.out|apply ba_|apply bb_|apply bc_)|exact HB.out)) hb);clear HO_3;clear HB;have HO_3:=n0_;have HB:=n1_;clear n0_ n1_;(try clear hb);have p13 : 0 ≤ (x10_1 : Int):=of_decide_eq_true (by first|(with_reducible assumption)|assumption);have q13 : (x10_1 : Int) < ((x3_1.length : Int) : Int):=of_decide_eq_true (by first|(with_reducible assumption)|assumption);obtain ⟨go13,co13,eo13,gb13,gl13,cl13,HG13⟩:=Kd.R_form HO_3.out (by omega);(first|cases eo13|(injection eo13 with ea_ en_ ec_;(first|subst ea_|(injection ea_ with ea_;subst ea_));subst ec_;clear en_));have GB13:=ak_ gb13;have GG13:=ak_ HG13;clear gb13 gl13 HG13;obtain ⟨hx13_0,hf13_0⟩:=Kd.R_celln 0 HO_3.out (x10_1 : Int) p13 q13;replace p13:=eq_true p13;replace q13:=eq_true q13;obtain ⟨hy15_,hz15_⟩:=Kd.R_celln 0 HO_3.out (x10_1 : Int) (of_decide_eq_true (by first|(with_reducible assumption)|assumption)) (of_decide_eq_true (by first|(with_reducible assumption)|assumption));have HP15:=Kd.R_putg HO_3.out (x10_1 : Int) t148)|((with_reducible refine gate_store (t:=2) (p:=23) rfl ?_);refine store_event (t:=2) (p:=23) (v:=?vo_w16) (w1:=(w14.setCell ⟨go13,(x10_1 : Int).toNat,none⟩ (.int .i64 t148))) ?hg ?ho ?hn ?hr ?_;(case ho => rfl);(case hg => rfl);(case hn => rfl);(case hr => first|(go_simp;done)|(go_simp;rfl));intro w16 hw;have hg : w14.grownBy w16 (some go13):=(by rw [hw];exact HP15.2);have hp_ : Kd.R (Kd.int .i64) 2 w16 w.heap.size (fun _ => True) (.slice (some ⟨go13,0,none⟩) x3_1.length co7) y149:=(by rw [hw,Ny149.out];exact HP15.1);clear HP15;have n0_:=ak_ (hp_);have n1_:=ak_ ((by rw [hw];exact below_set (HB.out) GB13.out : Below w.heap.size w w16));clear HO_3;clear HB;have HO_3:=n0_;have HB:=n1_;clear n0_ n1_;clear hg hw hp_))
         (try simp only [← hl3_1])
         go_roundg k1
         case measure => have:=HK1.out;omega
         case rel => exact ⟨(y149),(wrap64 (x10_1 + 1)),(by first|rfl|(simp;done)|(simp [*];done)),H',⟨by have:=HK1.out;omega⟩,⟨by (try simp only [hl3_1]);(with_reducible repeat (first|apply ra_|apply rb_|apply rc_));exact HO_3.out⟩,⟨by repeat (first|(with_reducible first|exact HB.out|apply ba_|apply bb_|apply bc_)|exact HB.out)⟩⟩
        ·rw [if_neg c12] at H
         exact absurd H (by simp)
       ·rw [if_neg c11] at H
        exact absurd H (by simp)
     ·rw [if_neg c8] at H
      have c8b0:=decide_eq_false c8
      (try (have c8h0:=c8b0;simp only [hl3_1] at c8h0))
      clear c8
      obtain rfl:=Option.some.inj H
      go_wp2
      go_ret
      exact ⟨_,by first|rfl|(simp [errW_none,errW_some] <;> rfl)|(simp only [← hji2];first|rfl|(simp [errW_none,errW_some] <;> rfl))|(simp [*,errW_none,errW_some] <;> rfl),by (with_reducible repeat (first|apply ra_|apply rb_|apply rc_));exact HO_3.out,by repeat (first|(with_reducible first|exact HB.out|apply ba_|apply bb_|apply bc_)|exact HB.out)⟩
  ·rw [if_neg c4] at H
   exact absurd H (by simp)
 ·rw [if_neg c3] at H
  exact absurd H (by simp)

end Go.Proofs.Ytlmacbiahofmcaa.P
