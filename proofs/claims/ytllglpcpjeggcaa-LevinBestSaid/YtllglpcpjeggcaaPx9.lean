/- The machine side of the laws of one chapter, without conditions: each call of a Go function comes to what the Lean function of its name answers. Written for this claim by a program of the prover. -/
import Derived.Test.YtllglpcpjeggcaaPx0
import Derived.Test.YtllglpcpjeggcaaPx1
import Derived.Test.YtllglpcpjeggcaaPx7
import Derived.Test.YtllglpcpjeggcaaPx8
namespace Go.Proofs.Ytllglpcpjeggcaa.P
open Go.RowKit Go.Proofs.YtllglpcpjeggcaaW.PrintWords Go.Proofs.YtllglpcpjeggcaaW.PrintLast Go.Proofs.YtllglpcpjeggcaaW.PrintMore
attribute [local go_sem] max2_int min2_int max_two min_two max_three min_three max_four min_four   -- for this text's walks alone
set_option linter.unusedVariables false
set_option linter.unusedSimpArgs false

/-! ### lpc_Fit: function 28 -/
mutual
def lpc_Fit.l0 : Nat → List Int → List Int → Int → Int → Option (List Int)
 | 0,_,_,_,_ => none
 | k + 1,x3,x13,x14,x15 => if x15 < x14 then (if 0 ≤ x15 then (if x15 < (x13.length : Int) then ((fix_Clamp.f k (rd x13 x15) (-131072) 131072).bind fun t174 => (if x15 < (x3.length : Int) then (lpc_Fit.l0 k (x3.set (x15 : Int).toNat t174) x13 x14 (wrap64 (x15 + 1))) else (none))) else (none)) else (none)) else (lpc_Fit.l1 k x3 1)
def lpc_Fit.l1 : Nat → List Int → Int → Option (List Int)
 | 0,_,_ => none
 | k + 1,x3,x6 => if x6 ≤ 16 then ((lpc_Stable.f k x3).bind fun t176 => (if t176 = true then ((lpc_Stable.f k x3).bind fun t177 => (if t177 = true then (some x3) else (some (List.replicate x3.length 0)))) else ((lpc_Chirp.f k x3 (wrap64 (65536 - (wrap64 (2048 * x6))))).bind fun t179 => (lpc_Fit.l1 k t179 (wrap64 (x6 + 1)))))) else ((lpc_Stable.f k x3).bind fun t182 => (if t182 = true then (some x3) else (some (List.replicate x3.length 0))))
end
def lpc_Fit.f (k : Nat) (l0 : List Int) : Option (List Int):=if (l0.length : Int) > 32 then (some ([] : List Int)) else (if 0 ≤ (l0.length : Int) then (if ((l0.length : Int) : Int).toNat ≤ 35184372088832 then (lpc_Fit.l0 k (List.replicate ((l0.length : Int) : Int).toNat 0) l0 (l0.length : Int) 0) else (none)) else (none))
theorem lpc_Fit.mono_l : ∀ k,(∀ y0 y1 y2 y3,LeO (lpc_Fit.l0 k y0 y1 y2 y3) (lpc_Fit.l0 (k + 1) y0 y1 y2 y3)) ∧ (∀ y0 y1,LeO (lpc_Fit.l1 k y0 y1) (lpc_Fit.l1 (k + 1) y0 y1))
 | 0 => ⟨fun _ _ _ _ r h => by simp [lpc_Fit.l0] at h,fun _ _ r h => by simp [lpc_Fit.l1] at h⟩
 | k + 1 => by
  obtain ⟨ih0,ih1⟩:=lpc_Fit.mono_l k
  refine ⟨?_,?_⟩
  all_goals (intros;first|unfold lpc_Fit.l0|unfold lpc_Fit.l1)
  all_goals (repeat' first|(with_reducible first|exact ih0 _ _ _ _|exact ih1 _ _|exact fix_Clamp.mono _ _ _ _|exact lpc_Chirp.mono _ _ _|exact lpc_Stable.mono _ _|exact LeO.refl _|exact LeO.none _|refine LeO.ite ?_ ?_|refine LeO.bind ?_ (fun _ => ?_))|exact ih0 _ _ _ _|exact ih1 _ _|exact fix_Clamp.mono _ _ _ _|exact lpc_Chirp.mono _ _ _|exact lpc_Stable.mono _ _|exact LeO.none _|refine LeO.ite ?_ ?_|refine LeO.bind ?_ (fun _ => ?_))
theorem lpc_Fit.mono : ∀ a0 k,LeO (lpc_Fit.f k a0) (lpc_Fit.f (k + 1) a0):=by
 intro a0 k
 obtain ⟨ih0,ih1⟩:=lpc_Fit.mono_l k
 unfold lpc_Fit.f
 repeat' first|(with_reducible first|exact ih0 _ _ _ _|exact ih1 _ _|exact fix_Clamp.mono _ _ _ _|exact lpc_Chirp.mono _ _ _|exact lpc_Stable.mono _ _|exact LeO.refl _|exact LeO.none _|refine LeO.ite ?_ ?_|refine LeO.bind ?_ (fun _ => ?_))|exact ih0 _ _ _ _|exact ih1 _ _|exact fix_Clamp.mono _ _ _ _|exact lpc_Chirp.mono _ _ _|exact lpc_Stable.mono _ _|exact LeO.none _|refine LeO.ite ?_ ?_|refine LeO.bind ?_ (fun _ => ?_)
set_option maxHeartbeats 8000000 in
set_option maxRecDepth 100000 in
theorem lpc_Fit.calls (k : Nat) (A0 : Option Addr) (c0 : Nat) (l0 : List Int) (r : List Int) (w : World) (hr0 : Kd.C (Kd.int .i64) w A0 l0.length l0) (hc0 : l0.length ≤ c0) (h : lpc_Fit.f k l0 = some r) :
  Calls Try.prog 28 #[.slice A0 l0.length c0] w fun e w' => ∃ v0_ : Value,e = .returned (v0_) ∧ Kd.R (Kd.int .i64) 2 w' w.heap.size (fun _ => True) v0_ r ∧ Below w.heap.size w w':=by
 have HR0:=ak_ hr0
 have HC0:=ak_ hc0
 clear hr0 hc0
 have HB:=ak_ (Below.refl w.heap.size w)
 have H : (if (l0.length : Int) > 32 then (some ([] : List Int)) else (if 0 ≤ (l0.length : Int) then (if ((l0.length : Int) : Int).toNat ≤ 35184372088832 then (lpc_Fit.l0 k (List.replicate ((l0.length : Int) : Int).toNat 0) l0 (l0.length : Int) 0) else (none)) else (none))) = some r:=h
 clear h
 by_cases c2 : (l0.length : Int) > 32
 ·rw [if_pos c2] at H
  have c2b0 : decide (32 < (l0.length : Int)) = true:=decide_eq_true c2
  have c2b1 : decide (32 < l0.length) = true:=decide_eq_true (by omega)
  clear c2
  obtain rfl:=Option.some.inj H
  go_enter Try.func28,Try.ntmps28
  go_wp2
  go_ret
  exact ⟨_,by first|rfl|(simp [errW_none,errW_some] <;> rfl)|(simp [*,errW_none,errW_some] <;> rfl),by first|exact Kd.R_nil _ _ _ _ _|exact Kd.N_nil _ _ _ _ _|exact Kd.V_nil _ _ _ _ _|exact Kd.Q_nil _ _ _ _ _|exact Kd.S_nil _ _ _ _ _,by repeat (first|(with_reducible first|exact HB.out|apply ba_|apply bb_|apply bc_)|exact HB.out)⟩
 ·rw [if_neg c2] at H
  have c2b0 : decide (32 < (l0.length : Int)) = false:=decide_eq_false c2
  have c2b1 : decide (32 < l0.length) = false:=decide_eq_false (by omega)
  clear c2
  by_cases c3 : 0 ≤ (l0.length : Int)
  ·rw [if_pos c3] at H
   have c3b0:=eq_true c3
   have c3b1 : decide (0 ≤ (l0.length : Int)) = true:=decide_eq_true c3
   clear c3
   by_cases c4 : ((l0.length : Int) : Int).toNat ≤ 35184372088832
   ·rw [if_pos c4] at H
    have c4b0:=eq_true c4
    have c4b1 : decide (((l0.length : Int) : Int).toNat ≤ 35184372088832) = true:=decide_eq_true c4
    clear c4
    obtain ⟨y170,hy170⟩ : ∃ y_ : List Int,y_ = (List.replicate ((l0.length : Int) : Int).toNat 0):=⟨_,rfl⟩
    replace H : (lpc_Fit.l0 k y170 l0 (l0.length : Int) 0) = some r:=by first|(rw [hy170];with_reducible exact H)|(have H2_:=(Option.bind_some _ _).symm.trans H;rw [hy170];with_reducible exact H2_)|(have H2_:=(Option.bind_some _ _).symm.trans H;with_reducible exact H2_)|with_reducible exact H|(rw [hy170];exact H)|exact H
    have Ny170:=ak_ hy170
    clear hy170
    have H':=ak_ H
    clear H
    go_enter Try.func28,Try.ntmps28
    go_wp2_with (first|((with_reducible refine gate_dst (N:=12) rfl ?_);refine Kd.R_make (Kd.int .i64) _ 2 rfl (N:=12) rfl 23 _ _ rfl (l0.length : Int) rfl rfl Try.underlying23 (.int .i64 0) 8 info2 rfl (by decide) (by omega) 0 (ok:=fun _ => True) (okp:=fun _ => True) rfl (fun _ hk => hk) trivial (of_decide_eq_true (by first|(with_reducible assumption)|assumption)) (Nat.le_trans (Nat.mul_le_mul_right _ (of_decide_eq_true (by first|(with_reducible assumption)|assumption) : (l0.length : Int).toNat ≤ 35184372088832)) (by omega)) (Below.refl _ _) (Nat.le_refl _) ?_;intro v171 w5 ho6 hb hg_ hnew_;clear hg_ hnew_;(first|rw [← Ny170.out] at ho6|(simp only [Int.reduceToNat] at ho6;rw [← Ny170.out] at ho6));have n0_:=ak_ (Kd.R_lower ho6 (below_size (by repeat (first|(with_reducible first|exact HB.out|apply ba_|apply bb_|apply bc_)|exact HB.out))));have n1_:=ak_ (below_step (by repeat (first|(with_reducible first|exact HB.out|apply ba_|apply bb_|apply bc_)|exact HB.out)) hb);clear HB;have HO172:=n0_;have HB:=n1_;clear n0_ n1_;clear hb ho6))
    go_loopg [15] k (fun kq v15 w' => ∃ (x3_1 : List Int) (x15_1 : Int),v15 = .int .i64 x15_1 ∧ Aside0 (lpc_Fit.l0 kq x3_1 l0 (l0.length : Int) x15_1 = some r) ∧ Aside0 (kq ≤ k) ∧ Aside0 (Kd.R (Kd.int .i64) 2 w' w.heap.size (fun _ => True) v171 x3_1) ∧ Aside0 (Below w.heap.size w w'))
    case atStart => exact ⟨(y170),(0),(by first|rfl|(simp;done)|(simp [*];done)),H',⟨Nat.le_refl _⟩,⟨by (with_reducible repeat (first|apply ra_|apply rb_|apply rc_));exact HO172.out⟩,⟨by repeat (first|(with_reducible first|exact HB.out|apply ba_|apply bb_|apply bc_)|exact HB.out)⟩⟩
    case round =>
     clear H'
     try clear c2
     try clear c2b0
     try clear c2b1
     try clear p2
     try clear c3
     try clear c3b0
     try clear c3b1
     try clear c4
     try clear c4b0
     try clear c4b1
     obtain ⟨x3_1,x15_1,rfl,HA,HK1,HO_3,HB⟩:=hrel
     (try simp only [i64_w,i32_w])
     cases gk with
     | zero => exact absurd HA.out (by simp [lpc_Fit.l0])
     | succ k1 =>
      have H:=HA.out
      clear HA
      simp only [lpc_Fit.l0] at H
      by_cases c7 : x15_1 < (l0.length : Int)
      ·rw [if_pos c7] at H
       have c7b0:=decide_eq_true c7
       clear c7
       by_cases c8 : 0 ≤ x15_1
       ·rw [if_pos c8] at H
        have c8b0:=decide_eq_true c8
        clear c8
        by_cases c9 : x15_1 < (l0.length : Int)
        ·rw [if_pos c9] at H
         have c9b0:=decide_eq_true c9
         clear c9
         replace H:=Option.bind_eq_some_iff.mp H
         obtain ⟨t174,A100,H⟩:=H
         (try dsimp only at H)
         have A10:=ak_ A100
         clear A100
         by_cases c11 : x15_1 < (x3_1.length : Int)
         ·rw [if_pos c11] at H
          have c11b0:=decide_eq_true c11
          clear c11
          obtain ⟨y175,hy175⟩ : ∃ y_ : List Int,y_ = (x3_1.set (x15_1 : Int).toNat t174):=⟨_,rfl⟩
          replace H : (lpc_Fit.l0 k1 y175 l0 (l0.length : Int) (wrap64 (x15_1 + 1))) = some r:=by first|(rw [hy175];with_reducible exact H)|(have H2_:=(Option.bind_some _ _).symm.trans H;rw [hy175];with_reducible exact H2_)|(have H2_:=(Option.bind_some _ _).symm.trans H;with_reducible exact H2_)|with_reducible exact H|(rw [hy175];exact H)|exact H
          have Ny175:=ak_ hy175
          clear hy175
          have H':=ak_ H
          clear H
          have p173 : 0 ≤ (x15_1 : Int):=of_decide_eq_true (by first|(with_reducible assumption)|assumption)
          have q173 : x15_1 < (l0.length : Int):=of_decide_eq_true (by first|(with_reducible assumption)|assumption)
          obtain ⟨ad173,e173,hx173_0⟩:=Kd.at_int HR0.out x15_1 p173 q173
          cases e173
          replace hx173_0:=(HB.out.cell (World.block_lt_of_cell? w _ hx173_0)).trans hx173_0
          replace p173:=eq_true p173
          replace q173:=eq_true q173
          go_wp2_with (first|((with_reducible refine gate_callee (f:=26) rfl ?_);refine goesL_ (some 23) rfl rfl Try.func26 (by kernel_rfl) rfl #[.int .i64 (rd l0 x15_1),.int .i64 (-131072),.int .i64 131072] rfl (by (try simp only [List.map_toArray,List.map_cons,List.map_nil]);first|done|rfl|(simp only [List.length_drop,List.length_take];rfl)) ?_;(with_reducible refine (fix_Clamp.calls k1 (rd l0 x15_1) (-131072) 131072 t174 _ A10.out).mono ?_);rintro e w' ⟨rfl,⟨nd,rfl⟩⟩;refine ⟨_,rfl,?_⟩;(try (rw [drewN_self wr];generalize hq_ : World.drewN wr _ = wr;have n0_ : Aside0 (Kd.R (Kd.int .i64) 2 wr w.heap.size (fun _ => True) v171 x3_1):=⟨by rw [← hq_];exact (by (with_reducible repeat (first|apply ra_|apply rb_|apply rc_));exact HO_3.out)⟩;have n1_ : Aside0 (Below w.heap.size w wr):=⟨by rw [← hq_];exact (by repeat (first|(with_reducible first|exact HB.out|apply ba_|apply bb_|apply bc_)|exact HB.out))⟩;clear HO_3 HB hq_;have HO_3:=n0_;have HB:=n1_;clear n0_ n1_));have p12 : 0 ≤ (x15_1 : Int):=of_decide_eq_true (by first|(with_reducible assumption)|assumption);have q12 : (x15_1 : Int) < ((x3_1.length : Int) : Int):=of_decide_eq_true (by first|(with_reducible assumption)|assumption);obtain ⟨go12,co12,eo12,gb12,gl12,cl12,HG12⟩:=Kd.R_form HO_3.out (by omega);(first|cases eo12|(injection eo12 with ea_ en_ ec_;(first|subst ea_|(injection ea_ with ea_;subst ea_));subst ec_;clear en_));have GB12:=ak_ gb12;have GG12:=ak_ HG12;clear gb12 gl12 HG12;obtain ⟨hx12_0,hf12_0⟩:=Kd.R_celln 0 HO_3.out (x15_1 : Int) p12 q12;replace p12:=eq_true p12;replace q12:=eq_true q12;obtain ⟨hy13_,hz13_⟩:=Kd.R_celln 0 HO_3.out (x15_1 : Int) (of_decide_eq_true (by first|(with_reducible assumption)|assumption)) (of_decide_eq_true (by first|(with_reducible assumption)|assumption));have HP13:=Kd.R_putg HO_3.out (x15_1 : Int) t174)|((with_reducible refine gate_store (t:=2) (p:=24) rfl ?_);refine store_event (t:=2) (p:=24) (v:=?vo_w14) (w1:=(wr.setCell ⟨go12,(x15_1 : Int).toNat,none⟩ (.int .i64 t174))) ?hg ?ho ?hn ?hr ?_;(case ho => rfl);(case hg => rfl);(case hn => rfl);(case hr => first|(go_simp;done)|(go_simp;rfl));intro w14 hw;have hg : wr.grownBy w14 (some go12):=(by rw [hw];exact HP13.2);have hp_ : Kd.R (Kd.int .i64) 2 w14 w.heap.size (fun _ => True) (.slice (some ⟨go12,0,none⟩) x3_1.length co12) y175:=(by rw [hw,Ny175.out];exact HP13.1);clear HP13;have n0_:=ak_ (hp_);have n1_:=ak_ ((by rw [hw];exact below_set (HB.out) GB12.out : Below w.heap.size w w14));clear HO_3;clear HB;have HO_3:=n0_;have HB:=n1_;clear n0_ n1_;clear hg hw hp_))
          go_roundg k1
          case measure => have:=HK1.out;omega
          case rel => exact ⟨(y175),(wrap64 (x15_1 + 1)),(by first|rfl|(simp;done)|(simp [*];done)),H',⟨by have:=HK1.out;omega⟩,⟨by (with_reducible repeat (first|apply ra_|apply rb_|apply rc_));exact HO_3.out⟩,⟨by repeat (first|(with_reducible first|exact HB.out|apply ba_|apply bb_|apply bc_)|exact HB.out)⟩⟩
         ·rw [if_neg c11] at H
          exact absurd H (by simp)
        ·rw [if_neg c9] at H
         exact absurd H (by simp)
       ·rw [if_neg c8] at H
        exact absurd H (by simp)
      ·rw [if_neg c7] at H
       have c7b0:=decide_eq_false c7
       clear c7
       have H':=ak_ H
       clear H
       go_wp2
       go_loopg [3,6] k1 (fun kq v3 v6 w' => ∃ (x3_2 : List Int) (x6_2 : Int),v6 = .int .i64 x6_2 ∧ Aside0 (lpc_Fit.l1 kq x3_2 x6_2 = some r) ∧ Aside0 (kq ≤ k1) ∧ Aside0 (Kd.R (Kd.int .i64) 2 w' w.heap.size (fun _ => True) v3 x3_2) ∧ Aside0 (Below w.heap.size w w'))
       case atStart => exact ⟨(x3_1),(1),(by first|rfl|(simp;done)|(simp [*];done)),H',⟨Nat.le_refl _⟩,⟨by (with_reducible repeat (first|apply ra_|apply rb_|apply rc_));exact HO_3.out⟩,⟨by repeat (first|(with_reducible first|exact HB.out|apply ba_|apply bb_|apply bc_)|exact HB.out)⟩⟩
       case round =>
        clear H'
        try clear c1
        try clear p1
        try clear q1
        try clear hx1
        try clear hf1
        try clear c2
        try clear c2b0
        try clear c2b1
        try clear p2
        try clear c3
        try clear c3b0
        try clear c3b1
        try clear c4
        try clear c4b0
        try clear c4b1
        try clear p6
        try clear c7
        try clear c7b0
        try clear c8
        try clear c8b0
        try clear c9
        try clear c9b0
        try clear c11
        try clear c11b0
        try clear p12
        try clear q12
        try clear hx12
        try clear hf12
        try clear hx12_0
        try clear hx173_0
        try clear p12
        try clear p173
        try clear p2
        try clear q12
        try clear q173
        obtain ⟨x3_2,x6_2,rfl,HA,HK2,HO_3,HB⟩:=hrel
        (try simp only [i64_w,i32_w])
        cases gk with
        | zero => exact absurd HA.out (by simp [lpc_Fit.l1])
        | succ k2 =>
         have H:=HA.out
         clear HA
         simp only [lpc_Fit.l1] at H
         by_cases c15 : x6_2 ≤ 16
         ·rw [if_pos c15] at H
          have c15b0:=decide_eq_true c15
          clear c15
          replace H:=Option.bind_eq_some_iff.mp H
          obtain ⟨t176,A160,H⟩:=H
          (try dsimp only at H)
          have A16:=ak_ A160
          clear A160
          by_cases c17 : t176 = true
          ·subst c17
           have H1 : ((lpc_Stable.f k2 x3_2).bind fun t177 => (if t177 = true then (some x3_2) else (some (List.replicate x3_2.length 0)))) = some r:=by rw [if_pos rfl] at H;exact H
           clear H
           have H:=H1
           clear H1
           replace H:=Option.bind_eq_some_iff.mp H
           obtain ⟨t177,A180,H⟩:=H
           (try dsimp only at H)
           have A18:=ak_ A180
           clear A180
           by_cases c19 : t177 = true
           ·subst c19
            have H1 : (some x3_2) = some r:=by rw [if_pos rfl] at H;exact H
            clear H
            have H:=H1
            clear H1
            obtain rfl:=Option.some.inj H
            obtain ⟨Ao20,co20,eo20⟩:=Kd.R_slice HO_3.out
            subst eo20
            go_wp2_with (first|(go_at_call 19;(with_reducible refine (lpc_Stable.calls k2 _ _ x3_2 true _ ?side1 ?side2 A16.out).mono ?_);(case side1 => repeat (first|exact (Kd.R_reads' HO_3.out).2.2|(with_reducible refine Kd.C_alloc ?_ _)|(with_reducible refine Kd.C_drewN ?_ _)|(with_reducible refine Kd.C_drew ?_)));(case side2 => exact (Kd.R_reads' HO_3.out).2.1);rintro e w21 ⟨rfl,hb⟩;have n0_:=ak_ (Kd.R_below (by (with_reducible repeat (first|apply ra_|apply rb_|apply rc_));exact HO_3.out) hb);have n1_:=ak_ (below_step (by repeat (first|(with_reducible first|exact HB.out|apply ba_|apply bb_|apply bc_)|exact HB.out)) hb);clear HO_3;clear HB;have HO_3:=n0_;have HB:=n1_;clear n0_ n1_;(try clear hb))|((with_reducible refine gate_callee (f:=19) rfl ?_);refine goesL_ (some 41) rfl rfl Try.func19 (by kernel_rfl) rfl #[.slice Ao20 x3_2.length co20] rfl (by (try simp only [List.map_toArray,List.map_cons,List.map_nil]);first|done|rfl|(simp only [List.length_drop,List.length_take];rfl)) ?_;(with_reducible refine (lpc_Stable.calls k2 _ _ x3_2 true _ ?side1 ?side2 A18.out).mono ?_);(case side1 => repeat (first|exact (Kd.R_reads' HO_3.out).2.2|(with_reducible refine Kd.C_alloc ?_ _)|(with_reducible refine Kd.C_drewN ?_ _)|(with_reducible refine Kd.C_drew ?_)));(case side2 => exact (Kd.R_reads' HO_3.out).2.1);rintro e w22 ⟨rfl,hb⟩;refine ⟨_,rfl,?_⟩;have n0_:=ak_ (Kd.R_below (by (with_reducible repeat (first|apply ra_|apply rb_|apply rc_));exact HO_3.out) hb);have n1_:=ak_ (below_step (by repeat (first|(with_reducible first|exact HB.out|apply ba_|apply bb_|apply bc_)|exact HB.out)) hb);clear HO_3;clear HB;have HO_3:=n0_;have HB:=n1_;clear n0_ n1_;(try clear hb)))
            go_ret
            exact ⟨_,by first|rfl|(simp [errW_none,errW_some] <;> rfl)|(simp [*,errW_none,errW_some] <;> rfl),by (with_reducible repeat (first|apply ra_|apply rb_|apply rc_));exact HO_3.out,by repeat (first|(with_reducible first|exact HB.out|apply ba_|apply bb_|apply bc_)|exact HB.out)⟩
           ·replace c19:=Bool.eq_false_iff.mpr c19
            subst c19
            have H1 : (some (List.replicate x3_2.length 0)) = some r:=by rw [if_neg (show ¬ (false = true) by decide)] at H;exact H
            clear H
            have H:=H1
            clear H1
            obtain ⟨y178,hy178⟩ : ∃ y_ : List Int,y_ = (List.replicate x3_2.length 0):=⟨_,rfl⟩
            replace H : (some y178) = some r:=by first|(rw [hy178];with_reducible exact H)|(have H2_:=(Option.bind_some _ _).symm.trans H;rw [hy178];with_reducible exact H2_)|(have H2_:=(Option.bind_some _ _).symm.trans H;with_reducible exact H2_)|with_reducible exact H|(rw [hy178];exact H)|exact H
            have Ny178:=ak_ hy178
            clear hy178
            obtain rfl:=Option.some.inj H
            obtain ⟨Ao23,co23,eo23⟩:=Kd.R_slice HO_3.out
            subst eo23
            go_wp2_with (first|(go_at_call 19;(with_reducible refine (lpc_Stable.calls k2 _ _ x3_2 true _ ?side1 ?side2 A16.out).mono ?_);(case side1 => repeat (first|exact (Kd.R_reads' HO_3.out).2.2|(with_reducible refine Kd.C_alloc ?_ _)|(with_reducible refine Kd.C_drewN ?_ _)|(with_reducible refine Kd.C_drew ?_)));(case side2 => exact (Kd.R_reads' HO_3.out).2.1);rintro e w24 ⟨rfl,hb⟩;have n0_:=ak_ (Kd.R_below (by (with_reducible repeat (first|apply ra_|apply rb_|apply rc_));exact HO_3.out) hb);have n1_:=ak_ (below_step (by repeat (first|(with_reducible first|exact HB.out|apply ba_|apply bb_|apply bc_)|exact HB.out)) hb);clear HO_3;clear HB;have HO_3:=n0_;have HB:=n1_;clear n0_ n1_;(try clear hb))|((with_reducible refine gate_callee (f:=19) rfl ?_);refine goesL_ (some 41) rfl rfl Try.func19 (by kernel_rfl) rfl #[.slice Ao23 x3_2.length co23] rfl (by (try simp only [List.map_toArray,List.map_cons,List.map_nil]);first|done|rfl|(simp only [List.length_drop,List.length_take];rfl)) ?_;(with_reducible refine (lpc_Stable.calls k2 _ _ x3_2 false _ ?side1 ?side2 A18.out).mono ?_);(case side1 => repeat (first|exact (Kd.R_reads' HO_3.out).2.2|(with_reducible refine Kd.C_alloc ?_ _)|(with_reducible refine Kd.C_drewN ?_ _)|(with_reducible refine Kd.C_drew ?_)));(case side2 => exact (Kd.R_reads' HO_3.out).2.1);rintro e w25 ⟨rfl,hb⟩;refine ⟨_,rfl,?_⟩;have n0_:=ak_ (Kd.R_below (by (with_reducible repeat (first|apply ra_|apply rb_|apply rc_));exact HO_3.out) hb);have n1_:=ak_ (below_step (by repeat (first|(with_reducible first|exact HB.out|apply ba_|apply bb_|apply bc_)|exact HB.out)) hb);clear HO_3;clear HB;have HO_3:=n0_;have HB:=n1_;clear n0_ n1_;(try clear hb))|((with_reducible refine gate_builtin (b:=.clear) (xs:=#[.tmp 43]) rfl ?_);refine R_clear_ev (k:=.i64) (s:=43) rfl rfl rfl Try.underlying23 (fun _ => by kernel_rfl) rfl (by (with_reducible repeat (first|apply ra_|apply rb_|apply rc_));exact HO_3.out) ?_;intro w26 hg hp;have hp_ : Kd.R (Kd.int .i64) 2 w26 w.heap.size (fun _ => True) (.slice Ao23 x3_2.length co23) y178:=(by rw [Ny178.out];first|exact hp|simpa using hp);have hb_ : Below w.heap.size w w26:=clear_below HO_3.out (by repeat (first|(with_reducible first|exact HB.out|apply ba_|apply bb_|apply bc_)|exact HB.out)) hg;have n0_:=ak_ (hp_);have n1_:=ak_ (hb_);clear HO_3;clear HB;have HO_3:=n0_;have HB:=n1_;clear n0_ n1_;clear hg hp hp_ hb_))
            go_ret
            exact ⟨_,by first|rfl|(simp [errW_none,errW_some] <;> rfl)|(simp [*,errW_none,errW_some] <;> rfl),by (with_reducible repeat (first|apply ra_|apply rb_|apply rc_));exact HO_3.out,by repeat (first|(with_reducible first|exact HB.out|apply ba_|apply bb_|apply bc_)|exact HB.out)⟩
          ·replace c17:=Bool.eq_false_iff.mpr c17
           subst c17
           have H1 : ((lpc_Chirp.f k2 x3_2 (wrap64 (65536 - (wrap64 (2048 * x6_2))))).bind fun t179 => (lpc_Fit.l1 k2 t179 (wrap64 (x6_2 + 1)))) = some r:=by rw [if_neg (show ¬ (false = true) by decide)] at H;exact H
           clear H
           have H:=H1
           clear H1
           replace H:=Option.bind_eq_some_iff.mp H
           obtain ⟨t179,A270,H⟩:=H
           (try dsimp only at H)
           have A27:=ak_ A270
           clear A270
           have H':=ak_ H
           clear H
           obtain ⟨Ao28,co28,eo28⟩:=Kd.R_slice HO_3.out
           subst eo28
           go_wp2_with (first|(go_at_call 19;(with_reducible refine (lpc_Stable.calls k2 _ _ x3_2 false _ ?side1 ?side2 A16.out).mono ?_);(case side1 => repeat (first|exact (Kd.R_reads' HO_3.out).2.2|(with_reducible refine Kd.C_alloc ?_ _)|(with_reducible refine Kd.C_drewN ?_ _)|(with_reducible refine Kd.C_drew ?_)));(case side2 => exact (Kd.R_reads' HO_3.out).2.1);rintro e w29 ⟨rfl,hb⟩;have n0_:=ak_ (Kd.R_below (by (with_reducible repeat (first|apply ra_|apply rb_|apply rc_));exact HO_3.out) hb);have n1_:=ak_ (below_step (by repeat (first|(with_reducible first|exact HB.out|apply ba_|apply bb_|apply bc_)|exact HB.out)) hb);clear HO_3;clear HB;have HO_3:=n0_;have HB:=n1_;clear n0_ n1_;(try clear hb))|((with_reducible refine gate_callee (f:=41) rfl ?_);refine goesL_ (some 39) rfl rfl Try.func41 (by kernel_rfl) rfl #[.slice Ao28 x3_2.length co28,.int .i64 (wrap64 (65536 - (wrap64 (2048 * x6_2))))] rfl (by (try simp only [List.map_toArray,List.map_cons,List.map_nil]);first|done|rfl|(simp only [List.length_drop,List.length_take];rfl)) ?_;(with_reducible refine (lpc_Chirp.calls k2 _ _ x3_2 (wrap64 (65536 - (wrap64 (2048 * x6_2)))) t179 _ ?side1 ?side2 A27.out).mono ?_);(case side1 => repeat (first|exact (Kd.R_reads' HO_3.out).2.2|(with_reducible refine Kd.C_alloc ?_ _)|(with_reducible refine Kd.C_drewN ?_ _)|(with_reducible refine Kd.C_drew ?_)));(case side2 => exact (Kd.R_reads' HO_3.out).2.1);rintro e w30 ⟨v180,rfl,ho0,hb⟩;refine ⟨_,rfl,?_⟩;have n0_:=ak_ (Kd.R_elder' (by (with_reducible repeat (first|apply ra_|apply rb_|apply rc_));exact HO_3.out) (Kd.R_base ho0) hb);have n1_:=ak_ (Kd.R_lower (Kd.R_new' ho0 (Kd.R_lt (by (with_reducible repeat (first|apply ra_|apply rb_|apply rc_));exact HO_3.out))) (below_size (by repeat (first|(with_reducible first|exact HB.out|apply ba_|apply bb_|apply bc_)|exact HB.out))));have n2_:=ak_ (below_step (by repeat (first|(with_reducible first|exact HB.out|apply ba_|apply bb_|apply bc_)|exact HB.out)) hb);clear HO_3;clear HB;have HO_3:=n0_;have HO181:=n1_;have HB:=n2_;clear n0_ n1_ n2_;(try clear hb);(try clear ho0)))
           go_roundg k2
           case measure => have:=HK1.out;have:=HK2.out;omega
           case rel => exact ⟨(t179),(wrap64 (x6_2 + 1)),(by first|rfl|(simp;done)|(simp [*];done)),H',⟨by have:=HK1.out;have:=HK2.out;omega⟩,⟨by (with_reducible repeat (first|apply ra_|apply rb_|apply rc_));exact Kd.R_mono HO181.out (fun _ hk => trivial)⟩,⟨by repeat (first|(with_reducible first|exact HB.out|apply ba_|apply bb_|apply bc_)|exact HB.out)⟩⟩
         ·rw [if_neg c15] at H
          have c15b0:=decide_eq_false c15
          clear c15
          replace H:=Option.bind_eq_some_iff.mp H
          obtain ⟨t182,A310,H⟩:=H
          (try dsimp only at H)
          have A31:=ak_ A310
          clear A310
          by_cases c32 : t182 = true
          ·subst c32
           have H1 : (some x3_2) = some r:=by rw [if_pos rfl] at H;exact H
           clear H
           have H:=H1
           clear H1
           obtain rfl:=Option.some.inj H
           obtain ⟨Ao33,co33,eo33⟩:=Kd.R_slice HO_3.out
           subst eo33
           go_wp2_with (first|((with_reducible refine gate_callee (f:=19) rfl ?_);refine goesL_ (some 41) rfl rfl Try.func19 (by kernel_rfl) rfl #[.slice Ao33 x3_2.length co33] rfl (by (try simp only [List.map_toArray,List.map_cons,List.map_nil]);first|done|rfl|(simp only [List.length_drop,List.length_take];rfl)) ?_;(with_reducible refine (lpc_Stable.calls k2 _ _ x3_2 true _ ?side1 ?side2 A31.out).mono ?_);(case side1 => repeat (first|exact (Kd.R_reads' HO_3.out).2.2|(with_reducible refine Kd.C_alloc ?_ _)|(with_reducible refine Kd.C_drewN ?_ _)|(with_reducible refine Kd.C_drew ?_)));(case side2 => exact (Kd.R_reads' HO_3.out).2.1);rintro e w34 ⟨rfl,hb⟩;refine ⟨_,rfl,?_⟩;have n0_:=ak_ (Kd.R_below (by (with_reducible repeat (first|apply ra_|apply rb_|apply rc_));exact HO_3.out) hb);have n1_:=ak_ (below_step (by repeat (first|(with_reducible first|exact HB.out|apply ba_|apply bb_|apply bc_)|exact HB.out)) hb);clear HO_3;clear HB;have HO_3:=n0_;have HB:=n1_;clear n0_ n1_;(try clear hb)))
           go_ret
           exact ⟨_,by first|rfl|(simp [errW_none,errW_some] <;> rfl)|(simp [*,errW_none,errW_some] <;> rfl),by (with_reducible repeat (first|apply ra_|apply rb_|apply rc_));exact HO_3.out,by repeat (first|(with_reducible first|exact HB.out|apply ba_|apply bb_|apply bc_)|exact HB.out)⟩
          ·replace c32:=Bool.eq_false_iff.mpr c32
           subst c32
           have H1 : (some (List.replicate x3_2.length 0)) = some r:=by rw [if_neg (show ¬ (false = true) by decide)] at H;exact H
           clear H
           have H:=H1
           clear H1
           obtain ⟨y183,hy183⟩ : ∃ y_ : List Int,y_ = (List.replicate x3_2.length 0):=⟨_,rfl⟩
           replace H : (some y183) = some r:=by first|(rw [hy183];with_reducible exact H)|(have H2_:=(Option.bind_some _ _).symm.trans H;rw [hy183];with_reducible exact H2_)|(have H2_:=(Option.bind_some _ _).symm.trans H;with_reducible exact H2_)|with_reducible exact H|(rw [hy183];exact H)|exact H
           have Ny183:=ak_ hy183
           clear hy183
           obtain rfl:=Option.some.inj H
           obtain ⟨Ao35,co35,eo35⟩:=Kd.R_slice HO_3.out
           subst eo35
           go_wp2_with (first|((with_reducible refine gate_callee (f:=19) rfl ?_);refine goesL_ (some 41) rfl rfl Try.func19 (by kernel_rfl) rfl #[.slice Ao35 x3_2.length co35] rfl (by (try simp only [List.map_toArray,List.map_cons,List.map_nil]);first|done|rfl|(simp only [List.length_drop,List.length_take];rfl)) ?_;(with_reducible refine (lpc_Stable.calls k2 _ _ x3_2 false _ ?side1 ?side2 A31.out).mono ?_);(case side1 => repeat (first|exact (Kd.R_reads' HO_3.out).2.2|(with_reducible refine Kd.C_alloc ?_ _)|(with_reducible refine Kd.C_drewN ?_ _)|(with_reducible refine Kd.C_drew ?_)));(case side2 => exact (Kd.R_reads' HO_3.out).2.1);rintro e w36 ⟨rfl,hb⟩;refine ⟨_,rfl,?_⟩;have n0_:=ak_ (Kd.R_below (by (with_reducible repeat (first|apply ra_|apply rb_|apply rc_));exact HO_3.out) hb);have n1_:=ak_ (below_step (by repeat (first|(with_reducible first|exact HB.out|apply ba_|apply bb_|apply bc_)|exact HB.out)) hb);clear HO_3;clear HB;have HO_3:=n0_;have HB:=n1_;clear n0_ n1_;(try clear hb))|((with_reducible refine gate_builtin (b:=.clear) (xs:=#[.tmp 43]) rfl ?_);refine R_clear_ev (k:=.i64) (s:=43) rfl rfl rfl Try.underlying23 (fun _ => by kernel_rfl) rfl (by (with_reducible repeat (first|apply ra_|apply rb_|apply rc_));exact HO_3.out) ?_;intro w37 hg hp;have hp_ : Kd.R (Kd.int .i64) 2 w37 w.heap.size (fun _ => True) (.slice Ao35 x3_2.length co35) y183:=(by rw [Ny183.out];first|exact hp|simpa using hp);have hb_ : Below w.heap.size w w37:=clear_below HO_3.out (by repeat (first|(with_reducible first|exact HB.out|apply ba_|apply bb_|apply bc_)|exact HB.out)) hg;have n0_:=ak_ (hp_);have n1_:=ak_ (hb_);clear HO_3;clear HB;have HO_3:=n0_;have HB:=n1_;clear n0_ n1_;clear hg hp hp_ hb_))
           go_ret
           exact ⟨_,by first|rfl|(simp [errW_none,errW_some] <;> rfl)|(simp [*,errW_none,errW_some] <;> rfl),by (with_reducible repeat (first|apply ra_|apply rb_|apply rc_));exact HO_3.out,by repeat (first|(with_reducible first|exact HB.out|apply ba_|apply bb_|apply bc_)|exact HB.out)⟩
   ·rw [if_neg c4] at H
    exact absurd H (by simp)
  ·rw [if_neg c3] at H
   exact absurd H (by simp)

end Go.Proofs.Ytllglpcpjeggcaa.P
