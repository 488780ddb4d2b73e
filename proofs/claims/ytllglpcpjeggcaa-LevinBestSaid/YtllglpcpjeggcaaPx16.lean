/- The machine side of the laws of one chapter, without conditions: each call of a Go function comes to what the Lean function of its name answers. Written for this claim by a program of the prover. -/
import Derived.Test.YtllglpcpjeggcaaPx0
import Derived.Test.YtllglpcpjeggcaaPx1
namespace Go.Proofs.Ytllglpcpjeggcaa.P
open Go.RowKit Go.Proofs.YtllglpcpjeggcaaW.PrintWords Go.Proofs.YtllglpcpjeggcaaW.PrintLast Go.Proofs.YtllglpcpjeggcaaW.PrintMore
attribute [local go_sem] max2_int min2_int max_two min_two max_three min_three max_four min_four   -- for this text's walks alone
set_option linter.unusedVariables false
set_option linter.unusedSimpArgs false

/-! ### lsf_clamped: function 55 -/
def lsf_clamped.l0 : Nat → List Int → List Int → Int → Int → Option (List Int)
 | 0,_,_,_,_ => none
 | k + 1,x3,x9,x10,x11 => if x11 < x10 then (if 0 ≤ x11 then (if x11 < (x9.length : Int) then ((fix_Clamp.f k (rd x9 x11) 0 32768).bind fun t251 => (if x11 < (x3.length : Int) then (lsf_clamped.l0 k (x3.set (x11 : Int).toNat t251) x9 x10 (wrap64 (x11 + 1))) else (none))) else (none)) else (none)) else (some x3)
def lsf_clamped.f (k : Nat) (l0 : List Int) : Option (List Int):=if 0 ≤ (l0.length : Int) then (if ((l0.length : Int) : Int).toNat ≤ 35184372088832 then (lsf_clamped.l0 k (List.replicate ((l0.length : Int) : Int).toNat 0) l0 (l0.length : Int) 0) else (none)) else (none)
theorem lsf_clamped.mono_l : ∀ k,(∀ y0 y1 y2 y3,LeO (lsf_clamped.l0 k y0 y1 y2 y3) (lsf_clamped.l0 (k + 1) y0 y1 y2 y3))
 | 0 => fun _ _ _ _ r h => by simp [lsf_clamped.l0] at h
 | k + 1 => by
  have ih0:=lsf_clamped.mono_l k
  all_goals (intros;first|unfold lsf_clamped.l0)
  all_goals (repeat' first|(with_reducible first|exact ih0 _ _ _ _|exact fix_Clamp.mono _ _ _ _|exact LeO.refl _|exact LeO.none _|refine LeO.ite ?_ ?_|refine LeO.bind ?_ (fun _ => ?_))|exact ih0 _ _ _ _|exact fix_Clamp.mono _ _ _ _|exact LeO.none _|refine LeO.ite ?_ ?_|refine LeO.bind ?_ (fun _ => ?_))
theorem lsf_clamped.mono : ∀ a0 k,LeO (lsf_clamped.f k a0) (lsf_clamped.f (k + 1) a0):=by
 intro a0 k
 have ih0:=lsf_clamped.mono_l k
 unfold lsf_clamped.f
 repeat' first|(with_reducible first|exact ih0 _ _ _ _|exact fix_Clamp.mono _ _ _ _|exact LeO.refl _|exact LeO.none _|refine LeO.ite ?_ ?_|refine LeO.bind ?_ (fun _ => ?_))|exact ih0 _ _ _ _|exact fix_Clamp.mono _ _ _ _|exact LeO.none _|refine LeO.ite ?_ ?_|refine LeO.bind ?_ (fun _ => ?_)
set_option maxHeartbeats 8000000 in
set_option maxRecDepth 100000 in
theorem lsf_clamped.calls (k : Nat) (A0 : Option Addr) (c0 : Nat) (l0 : List Int) (r : List Int) (w : World) (hr0 : Kd.C (Kd.int .i64) w A0 l0.length l0) (hc0 : l0.length ≤ c0) (h : lsf_clamped.f k l0 = some r) :
  Calls Try.prog 55 #[.slice A0 l0.length c0] w fun e w' => ∃ v0_ : Value,e = .returned (v0_) ∧ Kd.R (Kd.int .i64) 2 w' w.heap.size (fun _ => True) v0_ r ∧ Below w.heap.size w w':=by
 have HR0:=ak_ hr0
 have HC0:=ak_ hc0
 clear hr0 hc0
 have HB:=ak_ (Below.refl w.heap.size w)
 have H : (if 0 ≤ (l0.length : Int) then (if ((l0.length : Int) : Int).toNat ≤ 35184372088832 then (lsf_clamped.l0 k (List.replicate ((l0.length : Int) : Int).toNat 0) l0 (l0.length : Int) 0) else (none)) else (none)) = some r:=h
 clear h
 by_cases c2 : 0 ≤ (l0.length : Int)
 ·rw [if_pos c2] at H
  have c2b0:=eq_true c2
  have c2b1 : decide (0 ≤ (l0.length : Int)) = true:=decide_eq_true c2
  clear c2
  by_cases c3 : ((l0.length : Int) : Int).toNat ≤ 35184372088832
  ·rw [if_pos c3] at H
   have c3b0:=eq_true c3
   have c3b1 : decide (((l0.length : Int) : Int).toNat ≤ 35184372088832) = true:=decide_eq_true c3
   clear c3
   obtain ⟨y247,hy247⟩ : ∃ y_ : List Int,y_ = (List.replicate ((l0.length : Int) : Int).toNat 0):=⟨_,rfl⟩
   replace H : (lsf_clamped.l0 k y247 l0 (l0.length : Int) 0) = some r:=by first|(rw [hy247];with_reducible exact H)|(have H2_:=(Option.bind_some _ _).symm.trans H;rw [hy247];with_reducible exact H2_)|(have H2_:=(Option.bind_some _ _).symm.trans H;with_reducible exact H2_)|with_reducible exact H|(rw [hy247];exact H)|exact H
   have Ny247:=ak_ hy247
   clear hy247
   have H':=ak_ H
   clear H
   go_enter Try.func55,Try.ntmps55
   go_wp2_with (first|((with_reducible refine gate_dst (N:=8) rfl ?_);refine Kd.R_make (Kd.int .i64) _ 2 rfl (N:=8) rfl 23 _ _ rfl (l0.length : Int) rfl rfl Try.underlying23 (.int .i64 0) 8 info2 rfl (by decide) (by omega) 0 (ok:=fun _ => True) (okp:=fun _ => True) rfl (fun _ hk => hk) trivial (of_decide_eq_true (by first|(with_reducible assumption)|assumption)) (Nat.le_trans (Nat.mul_le_mul_right _ (of_decide_eq_true (by first|(with_reducible assumption)|assumption) : (l0.length : Int).toNat ≤ 35184372088832)) (by omega)) (Below.refl _ _) (Nat.le_refl _) ?_;intro v248 w4 ho5 hb hg_ hnew_;clear hg_ hnew_;(first|rw [← Ny247.out] at ho5|(simp only [Int.reduceToNat] at ho5;rw [← Ny247.out] at ho5));have n0_:=ak_ (Kd.R_lower ho5 (below_size (by repeat (first|(with_reducible first|exact HB.out|apply ba_|apply bb_|apply bc_)|exact HB.out))));have n1_:=ak_ (below_step (by repeat (first|(with_reducible first|exact HB.out|apply ba_|apply bb_|apply bc_)|exact HB.out)) hb);clear HB;have HO249:=n0_;have HB:=n1_;clear n0_ n1_;clear hb ho5))
   go_loopg [11] k (fun kq v11 w' => ∃ (x3_1 : List Int) (x11_1 : Int),v11 = .int .i64 x11_1 ∧ Aside0 (lsf_clamped.l0 kq x3_1 l0 (l0.length : Int) x11_1 = some r) ∧ Aside0 (kq ≤ k) ∧ Aside0 (Kd.R (Kd.int .i64) 2 w' w.heap.size (fun _ => True) v248 x3_1) ∧ Aside0 (Below w.heap.size w w'))
   case atStart => exact ⟨(y247),(0),(by first|rfl|(simp;done)|(simp [*];done)),H',⟨Nat.le_refl _⟩,⟨by (with_reducible repeat (first|apply ra_|apply rb_|apply rc_));exact HO249.out⟩,⟨by repeat (first|(with_reducible first|exact HB.out|apply ba_|apply bb_|apply bc_)|exact HB.out)⟩⟩
   case round =>
    clear H'
    try clear c2
    try clear c2b0
    try clear c2b1
    try clear p2
    try clear c3
    try clear c3b0
    try clear c3b1
    try clear c5
    obtain ⟨x3_1,x11_1,rfl,HA,HK1,HO_3,HB⟩:=hrel
    (try simp only [i64_w,i32_w])
    cases gk with
    | zero => exact absurd HA.out (by simp [lsf_clamped.l0])
    | succ k1 =>
     have H:=HA.out
     clear HA
     simp only [lsf_clamped.l0] at H
     by_cases c6 : x11_1 < (l0.length : Int)
     ·rw [if_pos c6] at H
      have c6b0:=decide_eq_true c6
      clear c6
      by_cases c7 : 0 ≤ x11_1
      ·rw [if_pos c7] at H
       have c7b0:=decide_eq_true c7
       clear c7
       by_cases c8 : x11_1 < (l0.length : Int)
       ·rw [if_pos c8] at H
        have c8b0:=decide_eq_true c8
        clear c8
        replace H:=Option.bind_eq_some_iff.mp H
        obtain ⟨t251,A90,H⟩:=H
        (try dsimp only at H)
        have A9:=ak_ A90
        clear A90
        by_cases c10 : x11_1 < (x3_1.length : Int)
        ·rw [if_pos c10] at H
         have c10b0:=decide_eq_true c10
         clear c10
         obtain ⟨y252,hy252⟩ : ∃ y_ : List Int,y_ = (x3_1.set (x11_1 : Int).toNat t251):=⟨_,rfl⟩
         replace H : (lsf_clamped.l0 k1 y252 l0 (l0.length : Int) (wrap64 (x11_1 + 1))) = some r:=by first|(rw [hy252];with_reducible exact H)|(have H2_:=(Option.bind_some _ _).symm.trans H;rw [hy252];with_reducible exact H2_)|(have H2_:=(Option.bind_some _ _).symm.trans H;with_reducible exact H2_)|with_reducible exact H|(rw [hy252];exact H)|exact H
         have Ny252:=ak_ hy252
         clear hy252
         have H':=ak_ H
         clear H
         have p250 : 0 ≤ (x11_1 : Int):=of_decide_eq_true (by first|(with_reducible assumption)|assumption)
         have q250 : x11_1 < (l0.length : Int):=of_decide_eq_true (by first|(with_reducible assumption)|assumption)
         obtain ⟨ad250,e250,hx250_0⟩:=Kd.at_int HR0.out x11_1 p250 q250
         cases e250
         replace hx250_0:=(HB.out.cell (World.block_lt_of_cell? w _ hx250_0)).trans hx250_0
         replace p250:=eq_true p250
         replace q250:=eq_true q250
         go_wp2_with (first|((with_reducible refine gate_callee (f:=26) rfl ?_);refine goesL_ (some 19) rfl rfl Try.func26 (by kernel_rfl) rfl #[.int .i64 (rd l0 x11_1),.int .i64 0,.int .i64 32768] rfl (by (try simp only [List.map_toArray,List.map_cons,List.map_nil]);first|done|rfl|(simp only [List.length_drop,List.length_take];rfl)) ?_;(with_reducible refine (fix_Clamp.calls k1 (rd l0 x11_1) 0 32768 t251 _ A9.out).mono ?_);rintro e w' ⟨rfl,⟨nd,rfl⟩⟩;refine ⟨_,rfl,?_⟩;(try (rw [drewN_self wr];generalize hq_ : World.drewN wr _ = wr;have n0_ : Aside0 (Kd.R (Kd.int .i64) 2 wr w.heap.size (fun _ => True) v248 x3_1):=⟨by rw [← hq_];exact (by (with_reducible repeat (first|apply ra_|apply rb_|apply rc_));exact HO_3.out)⟩;have n1_ : Aside0 (Below w.heap.size w wr):=⟨by rw [← hq_];exact (by repeat (first|(with_reducible first|exact HB.out|apply ba_|apply bb_|apply bc_)|exact HB.out))⟩;clear HO_3 HB hq_;have HO_3:=n0_;have HB:=n1_;clear n0_ n1_));have p11 : 0 ≤ (x11_1 : Int):=of_decide_eq_true (by first|(with_reducible assumption)|assumption);have q11 : (x11_1 : Int) < ((x3_1.length : Int) : Int):=of_decide_eq_true (by first|(with_reducible assumption)|assumption);obtain ⟨go11,co11,eo11,gb11,gl11,cl11,HG11⟩:=Kd.R_form HO_3.out (by omega);(first|cases eo11|(injection eo11 with ea_ en_ ec_;(first|subst ea_|(injection ea_ with ea_;subst ea_));subst ec_;clear en_));have GB11:=ak_ gb11;have GG11:=ak_ HG11;clear gb11 gl11 HG11;obtain ⟨hx11_0,hf11_0⟩:=Kd.R_celln 0 HO_3.out (x11_1 : Int) p11 q11;replace p11:=eq_true p11;replace q11:=eq_true q11;obtain ⟨hy12_,hz12_⟩:=Kd.R_celln 0 HO_3.out (x11_1 : Int) (of_decide_eq_true (by first|(with_reducible assumption)|assumption)) (of_decide_eq_true (by first|(with_reducible assumption)|assumption));have HP12:=Kd.R_putg HO_3.out (x11_1 : Int) t251)|((with_reducible refine gate_store (t:=2) (p:=20) rfl ?_);refine store_event (t:=2) (p:=20) (v:=?vo_w13) (w1:=(wr.setCell ⟨go11,(x11_1 : Int).toNat,none⟩ (.int .i64 t251))) ?hg ?ho ?hn ?hr ?_;(case ho => rfl);(case hg => rfl);(case hn => rfl);(case hr => first|(go_simp;done)|(go_simp;rfl));intro w13 hw;have hg : wr.grownBy w13 (some go11):=(by rw [hw];exact HP12.2);have hp_ : Kd.R (Kd.int .i64) 2 w13 w.heap.size (fun _ => True) (.slice (some ⟨go11,0,none⟩) x3_1.length co11) y252:=(by rw [hw,Ny252.out];exact HP12.1);clear HP12;have n0_:=ak_ (hp_);have n1_:=ak_ ((by rw [hw];exact below_set (HB.out) GB11.out : Below w.heap.size w w13));clear HO_3;clear HB;have HO_3:=n0_;have HB:=n1_;clear n0_ n1_;clear hg hw hp_))
         go_roundg k1
         case measure => have:=HK1.out;omega
         case rel => exact ⟨(y252),(wrap64 (x11_1 + 1)),(by first|rfl|(simp;done)|(simp [*];done)),H',⟨by have:=HK1.out;omega⟩,⟨by (with_reducible repeat (first|apply ra_|apply rb_|apply rc_));exact HO_3.out⟩,⟨by repeat (first|(with_reducible first|exact HB.out|apply ba_|apply bb_|apply bc_)|exact HB.out)⟩⟩
        ·rw [if_neg c10] at H
         exact absurd H (by simp)
       ·rw [if_neg c8] at H
        exact absurd H (by simp)
      ·rw [if_neg c7] at H
       exact absurd H (by simp)
     ·rw [if_neg c6] at H
      have c6b0:=decide_eq_false c6
      clear c6
      obtain rfl:=Option.some.inj H
      go_wp2
      go_ret
      exact ⟨_,by first|rfl|(simp [errW_none,errW_some] <;> rfl)|(simp [*,errW_none,errW_some] <;> rfl),by (with_reducible repeat (first|apply ra_|apply rb_|apply rc_));exact HO_3.out,by repeat (first|(with_reducible first|exact HB.out|apply ba_|apply bb_|apply bc_)|exact HB.out)⟩
  ·rw [if_neg c3] at H
   exact absurd H (by simp)
 ·rw [if_neg c2] at H
  exact absurd H (by simp)

end Go.Proofs.Ytllglpcpjeggcaa.P
