/- The machine side of the laws of one chapter, without conditions: each call of a Go function comes to what the Lean function of its name answers. Written for this claim by a program of the prover. -/
import Derived.Test.YtllglpcpjeggcaaPx0
import Derived.Test.YtllglpcpjeggcaaPx1
import Derived.Test.YtllglpcpjeggcaaPx5
import Derived.Test.YtllglpcpjeggcaaPx6
namespace Go.Proofs.Ytllglpcpjeggcaa.P
open Go.RowKit Go.Proofs.YtllglpcpjeggcaaW.PrintWords Go.Proofs.YtllglpcpjeggcaaW.PrintLast Go.Proofs.YtllglpcpjeggcaaW.PrintMore
attribute [local go_sem] max2_int min2_int max_two min_two max_three min_three max_four min_four   -- for this text's walks alone
set_option linter.unusedVariables false
set_option linter.unusedSimpArgs false

/-! ### lpc_Stable: function 19 -/
mutual
def lpc_Stable.l0 : Nat → List Int → List Int → Int → Int → Option (Bool)
 | 0,_,_,_,_ => none
 | k + 1,x3,x18,x19,x20 => if x20 < x19 then (if 0 ≤ x20 then (if x20 < (x18.length : Int) then ((fix_Clamp.f k (rd x18 x20) (-131072) 131072).bind fun t143 => (if x20 < (x3.length : Int) then (lpc_Stable.l0 k (x3.set (x20 : Int).toNat (wrap64 (4096 * t143))) x18 x19 (wrap64 (x20 + 1))) else (none))) else (none)) else (none)) else (lpc_Stable.l1 k x3 (wrap64 ((x3.length : Int) - 1)))
def lpc_Stable.l1 : Nat → List Int → Int → Option (Bool)
 | 0,_,_ => none
 | k + 1,x3,x6 => if x6 ≥ 0 then (if 0 ≤ x6 then (if x6 < (x3.length : Int) then (if (rd x3 x6) > 16760438 then (lpc_Stable.j2 k x3 x6 (rd x3 x6) true) else (lpc_Stable.j2 k x3 x6 (rd x3 x6) (decide ((rd x3 x6) < (-16760438))))) else (none)) else (none)) else (some true)
def lpc_Stable.j2 : Nat → List Int → Int → Int → Bool → Option (Bool)
 | 0,_,_,_,_ => none
 | k + 1,x3,x6,x7,x48 => if x48 = true then (some false) else ((fix_Mul.f k x7 x7 24).bind fun t146 => ((some (([] : List Int) : List Int)).bind fun y147 => (if 0 ≤ x6 then (if x6 ≤ (x3.length : Int) then ((some (x3.take (x6 : Int).toNat : List Int)).bind fun y150 => (if y147.length + y150.length < 17592186044416 then (lpc_Stable.l2 k x3 x6 x7 (wrap64 (16777216 - t146)) (y147 ++ y150) x6 0) else (none))) else (none)) else (none))))
def lpc_Stable.l2 : Nat → List Int → Int → Int → Int → List Int → Int → Int → Option (Bool)
 | 0,_,_,_,_,_,_,_ => none
 | k + 1,x3,x6,x7,x8,x9,x58,x59 => if x59 < x58 then (if 0 ≤ x59 then (if x59 < (x9.length : Int) then (if 0 ≤ (wrap64 ((wrap64 (x6 - 1)) - x59)) then (if (wrap64 ((wrap64 (x6 - 1)) - x59)) < (x9.length : Int) then ((fix_Mul.f k x7 (rd x9 (wrap64 ((wrap64 (x6 - 1)) - x59))) 24).bind fun t159 => ((fix_Div.f k (wrap64 ((rd x9 x59) + t159)) x8 24).bind fun t160 => ((fix_Clamp.f k t160 (-2147483648) 2147483648).bind fun t161 => (if x59 < (x3.length : Int) then (lpc_Stable.l2 k (x3.set (x59 : Int).toNat t161) x6 x7 x8 x9 x58 (wrap64 (x59 + 1))) else (none))))) else (none)) else (none)) else (none)) else (none)) else (lpc_Stable.l1 k x3 (wrap64 (x6 - 1)))
end
def lpc_Stable.f (k : Nat) (l0 : List Int) : Option (Bool):=if (l0.length : Int) > 32 then (some false) else (if 0 ≤ (l0.length : Int) then (if ((l0.length : Int) : Int).toNat ≤ 35184372088832 then (lpc_Stable.l0 k (List.replicate ((l0.length : Int) : Int).toNat 0) l0 (l0.length : Int) 0) else (none)) else (none))
theorem lpc_Stable.mono_l : ∀ k,(∀ y0 y1 y2 y3,LeO (lpc_Stable.l0 k y0 y1 y2 y3) (lpc_Stable.l0 (k + 1) y0 y1 y2 y3)) ∧ (∀ y0 y1,LeO (lpc_Stable.l1 k y0 y1) (lpc_Stable.l1 (k + 1) y0 y1)) ∧ (∀ y0 y1 y2 y3,LeO (lpc_Stable.j2 k y0 y1 y2 y3) (lpc_Stable.j2 (k + 1) y0 y1 y2 y3)) ∧ (∀ y0 y1 y2 y3 y4 y5 y6,LeO (lpc_Stable.l2 k y0 y1 y2 y3 y4 y5 y6) (lpc_Stable.l2 (k + 1) y0 y1 y2 y3 y4 y5 y6))
 | 0 => ⟨fun _ _ _ _ r h => by simp [lpc_Stable.l0] at h,fun _ _ r h => by simp [lpc_Stable.l1] at h,fun _ _ _ _ r h => by simp [lpc_Stable.j2] at h,fun _ _ _ _ _ _ _ r h => by simp [lpc_Stable.l2] at h⟩
 | k + 1 => by
  obtain ⟨ih0,ih1,ih2,ih3⟩:=lpc_Stable.mono_l k
  refine ⟨?_,?_,?_,?_⟩
  all_goals (intros;first|unfold lpc_Stable.l0|unfold lpc_Stable.l1|unfold lpc_Stable.j2|unfold lpc_Stable.l2)
  all_goals (repeat' first|(with_reducible first|exact ih0 _ _ _ _|exact ih1 _ _|exact ih2 _ _ _ _|exact ih3 _ _ _ _ _ _ _|exact fix_Clamp.mono _ _ _ _|exact fix_Div.mono _ _ _ _|exact fix_Mul.mono _ _ _ _|exact LeO.refl _|exact LeO.none _|refine LeO.ite ?_ ?_|refine LeO.bind ?_ (fun _ => ?_))|exact ih0 _ _ _ _|exact ih1 _ _|exact ih2 _ _ _ _|exact ih3 _ _ _ _ _ _ _|exact fix_Clamp.mono _ _ _ _|exact fix_Div.mono _ _ _ _|exact fix_Mul.mono _ _ _ _|exact LeO.none _|refine LeO.ite ?_ ?_|refine LeO.bind ?_ (fun _ => ?_))
theorem lpc_Stable.mono : ∀ a0 k,LeO (lpc_Stable.f k a0) (lpc_Stable.f (k + 1) a0):=by
 intro a0 k
 obtain ⟨ih0,ih1,ih2,ih3⟩:=lpc_Stable.mono_l k
 unfold lpc_Stable.f
 repeat' first|(with_reducible first|exact ih0 _ _ _ _|exact ih1 _ _|exact ih2 _ _ _ _|exact ih3 _ _ _ _ _ _ _|exact fix_Clamp.mono _ _ _ _|exact fix_Div.mono _ _ _ _|exact fix_Mul.mono _ _ _ _|exact LeO.refl _|exact LeO.none _|refine LeO.ite ?_ ?_|refine LeO.bind ?_ (fun _ => ?_))|exact ih0 _ _ _ _|exact ih1 _ _|exact ih2 _ _ _ _|exact ih3 _ _ _ _ _ _ _|exact fix_Clamp.mono _ _ _ _|exact fix_Div.mono _ _ _ _|exact fix_Mul.mono _ _ _ _|exact LeO.none _|refine LeO.ite ?_ ?_|refine LeO.bind ?_ (fun _ => ?_)
set_option maxHeartbeats 8000000 in
set_option maxRecDepth 100000 in
theorem lpc_Stable.calls (k : Nat) (A0 : Option Addr) (c0 : Nat) (l0 : List Int) (r : Bool) (w : World) (hr0 : Kd.C (Kd.int .i64) w A0 l0.length l0) (hc0 : l0.length ≤ c0) (h : lpc_Stable.f k l0 = some r) :
  Calls Try.prog 19 #[.slice A0 l0.length c0] w fun e w' => e = .returned (.bool r) ∧ Below w.heap.size w w':=by
 have HR0:=ak_ hr0
 have HC0:=ak_ hc0
 clear hr0 hc0
 have HB:=ak_ (Below.refl w.heap.size w)
 have H : (if (l0.length : Int) > 32 then (some false) else (if 0 ≤ (l0.length : Int) then (if ((l0.length : Int) : Int).toNat ≤ 35184372088832 then (lpc_Stable.l0 k (List.replicate ((l0.length : Int) : Int).toNat 0) l0 (l0.length : Int) 0) else (none)) else (none))) = some r:=h
 clear h
 by_cases c2 : (l0.length : Int) > 32
 ·rw [if_pos c2] at H
  have c2b0 : decide (32 < (l0.length : Int)) = true:=decide_eq_true c2
  have c2b1 : decide (32 < l0.length) = true:=decide_eq_true (by omega)
  clear c2
  obtain rfl:=Option.some.inj H
  go_enter Try.func19,Try.ntmps19
  go_wp2
  repeat (go_quiet (fail);try go_wp2)
  go_ret
  exact ⟨by first|rfl|(simp [errW_none,errW_some] <;> rfl)|(simp [*,errW_none,errW_some] <;> rfl),by repeat (first|(with_reducible first|exact HB.out|apply ba_|apply bb_|apply bc_)|exact HB.out)⟩
 ·rw [if_neg c2] at H
  have c2b0 : decide (32 < (l0.length : Int)) = false:=decide_eq_false c2
  have c2b1 : decide (32 < l0.length) = false:=decide_eq_false (by omega)
  clear c2
  by_cases c3 : 0 ≤ (l0.length : Int)
  ·rw [if_pos c3] at H
   have c3b0:=eq_true c3
   have c3b1 : decide (0 ≤ (l0.length : Int)) = true:=decide_eq_true c3
   clear c3
   by_cases c4 : ((l0.length : Int) : Int).toNat ≤ 35184372088832
   ·rw [if_pos c4] at H
    have c4b0:=eq_true c4
    have c4b1 : decide (((l0.length : Int) : Int).toNat ≤ 35184372088832) = true:=decide_eq_true c4
    clear c4
    obtain ⟨y139,hy139⟩ : ∃ y_ : List Int,y_ = (List.replicate ((l0.length : Int) : Int).toNat 0):=⟨_,rfl⟩
    replace H : (lpc_Stable.l0 k y139 l0 (l0.length : Int) 0) = some r:=by first|(rw [hy139];with_reducible exact H)|(have H2_:=(Option.bind_some _ _).symm.trans H;rw [hy139];with_reducible exact H2_)|(have H2_:=(Option.bind_some _ _).symm.trans H;with_reducible exact H2_)|with_reducible exact H|(rw [hy139];exact H)|exact H
    have Ny139:=ak_ hy139
    clear hy139
    have H':=ak_ H
    clear H
    go_enter Try.func19,Try.ntmps19
    go_wp2_with (first|((with_reducible refine gate_dst (N:=17) rfl ?_);refine Kd.R_make (Kd.int .i64) _ 2 rfl (N:=17) rfl 23 _ _ rfl (l0.length : Int) rfl rfl Try.underlying23 (.int .i64 0) 8 info2 rfl (by decide) (by omega) 0 (ok:=fun _ => True) (okp:=fun _ => True) rfl (fun _ hk => hk) trivial (of_decide_eq_true (by first|(with_reducible assumption)|assumption)) (Nat.le_trans (Nat.mul_le_mul_right _ (of_decide_eq_true (by first|(with_reducible assumption)|assumption) : (l0.length : Int).toNat ≤ 35184372088832)) (by omega)) (Below.refl _ _) (Nat.le_refl _) ?_;intro v140 w5 ho6 hb hg_ hnew_;clear hg_ hnew_;(first|rw [← Ny139.out] at ho6|(simp only [Int.reduceToNat] at ho6;rw [← Ny139.out] at ho6));have n0_:=ak_ (Kd.R_lower ho6 (below_size (by repeat (first|(with_reducible first|exact HB.out|apply ba_|apply bb_|apply bc_)|exact HB.out))));have n1_:=ak_ (below_step (by repeat (first|(with_reducible first|exact HB.out|apply ba_|apply bb_|apply bc_)|exact HB.out)) hb);clear HB;have HO141:=n0_;have HB:=n1_;clear n0_ n1_;clear hb ho6))
    repeat (go_quiet (first|((with_reducible refine gate_dst (N:=17) rfl ?_);refine Kd.R_make (Kd.int .i64) _ 2 rfl (N:=17) rfl 23 _ _ rfl (l0.length : Int) rfl rfl Try.underlying23 (.int .i64 0) 8 info2 rfl (by decide) (by omega) 0 (ok:=fun _ => True) (okp:=fun _ => True) rfl (fun _ hk => hk) trivial (of_decide_eq_true (by first|(with_reducible assumption)|assumption)) (Nat.le_trans (Nat.mul_le_mul_right _ (of_decide_eq_true (by first|(with_reducible assumption)|assumption) : (l0.length : Int).toNat ≤ 35184372088832)) (by omega)) (Below.refl _ _) (Nat.le_refl _) ?_;intro v140 w5 ho6 hb hg_ hnew_;clear hg_ hnew_;(first|rw [← Ny139.out] at ho6|(simp only [Int.reduceToNat] at ho6;rw [← Ny139.out] at ho6));have n0_:=ak_ (Kd.R_lower ho6 (below_size (by repeat (first|(with_reducible first|exact HB.out|apply ba_|apply bb_|apply bc_)|exact HB.out))));have n1_:=ak_ (below_step (by repeat (first|(with_reducible first|exact HB.out|apply ba_|apply bb_|apply bc_)|exact HB.out)) hb);clear HB;have HO141:=n0_;have HB:=n1_;clear n0_ n1_;clear hb ho6));try go_wp2_with (first|((with_reducible refine gate_dst (N:=17) rfl ?_);refine Kd.R_make (Kd.int .i64) _ 2 rfl (N:=17) rfl 23 _ _ rfl (l0.length : Int) rfl rfl Try.underlying23 (.int .i64 0) 8 info2 rfl (by decide) (by omega) 0 (ok:=fun _ => True) (okp:=fun _ => True) rfl (fun _ hk => hk) trivial (of_decide_eq_true (by first|(with_reducible assumption)|assumption)) (Nat.le_trans (Nat.mul_le_mul_right _ (of_decide_eq_true (by first|(with_reducible assumption)|assumption) : (l0.length : Int).toNat ≤ 35184372088832)) (by omega)) (Below.refl _ _) (Nat.le_refl _) ?_;intro v140 w5 ho6 hb hg_ hnew_;clear hg_ hnew_;(first|rw [← Ny139.out] at ho6|(simp only [Int.reduceToNat] at ho6;rw [← Ny139.out] at ho6));have n0_:=ak_ (Kd.R_lower ho6 (below_size (by repeat (first|(with_reducible first|exact HB.out|apply ba_|apply bb_|apply bc_)|exact HB.out))));have n1_:=ak_ (below_step (by repeat (first|(with_reducible first|exact HB.out|apply ba_|apply bb_|apply bc_)|exact HB.out)) hb);clear HB;have HO141:=n0_;have HB:=n1_;clear n0_ n1_;clear hb ho6)))
    go_loopg [20] k (fun kq v20 w' => ∃ (x3_1 : List Int) (x20_1 : Int),v20 = .int .i64 x20_1 ∧ Aside0 (lpc_Stable.l0 kq x3_1 l0 (l0.length : Int) x20_1 = some r) ∧ Aside0 (kq ≤ k) ∧ Aside0 (Kd.R (Kd.int .i64) 2 w' w.heap.size (fun _ => True) v140 x3_1) ∧ Aside0 (Below w.heap.size w w'))
    case atStart => exact ⟨(y139),(0),(by first|rfl|(simp;done)|(simp [*];done)),H',⟨Nat.le_refl _⟩,⟨by (with_reducible repeat (first|apply ra_|apply rb_|apply rc_));exact HO141.out⟩,⟨by repeat (first|(with_reducible first|exact HB.out|apply ba_|apply bb_|apply bc_)|exact HB.out)⟩⟩
    case round =>
     clear H'
     try clear c1
     try clear c2
     try clear c2b0
     try clear c2b1
     try clear p2
     try clear c3
     try clear c3b0
     try clear c3b1
     try clear c4
     try clear c4b0
     try clear c4b1
     obtain ⟨x3_1,x20_1,rfl,HA,HK1,HO_3,HB⟩:=hrel
     (try simp only [i64_w,i32_w])
     cases gk with
     | zero => exact absurd HA.out (by simp [lpc_Stable.l0])
     | succ k1 =>
      have H:=HA.out
      clear HA
      simp only [lpc_Stable.l0] at H
      by_cases c7 : x20_1 < (l0.length : Int)
      ·rw [if_pos c7] at H
       have c7b0:=decide_eq_true c7
       clear c7
       by_cases c8 : 0 ≤ x20_1
       ·rw [if_pos c8] at H
        have c8b0:=decide_eq_true c8
        clear c8
        by_cases c9 : x20_1 < (l0.length : Int)
        ·rw [if_pos c9] at H
         have c9b0:=decide_eq_true c9
         clear c9
         replace H:=Option.bind_eq_some_iff.mp H
         obtain ⟨t143,A100,H⟩:=H
         (try dsimp only at H)
         have A10:=ak_ A100
         clear A100
         by_cases c11 : x20_1 < (x3_1.length : Int)
         ·rw [if_pos c11] at H
          have c11b0:=decide_eq_true c11
          clear c11
          obtain ⟨y144,hy144⟩ : ∃ y_ : List Int,y_ = (x3_1.set (x20_1 : Int).toNat (wrap64 (4096 * t143))):=⟨_,rfl⟩
          replace H : (lpc_Stable.l0 k1 y144 l0 (l0.length : Int) (wrap64 (x20_1 + 1))) = some r:=by first|(rw [hy144];with_reducible exact H)|(have H2_:=(Option.bind_some _ _).symm.trans H;rw [hy144];with_reducible exact H2_)|(have H2_:=(Option.bind_some _ _).symm.trans H;with_reducible exact H2_)|with_reducible exact H|(rw [hy144];exact H)|exact H
          have Ny144:=ak_ hy144
          clear hy144
          have H':=ak_ H
          clear H
          have p142 : 0 ≤ (x20_1 : Int):=of_decide_eq_true (by first|(with_reducible assumption)|assumption)
          have q142 : x20_1 < (l0.length : Int):=of_decide_eq_true (by first|(with_reducible assumption)|assumption)
          obtain ⟨ad142,e142,hx142_0⟩:=Kd.at_int HR0.out x20_1 p142 q142
          cases e142
          replace hx142_0:=(HB.out.cell (World.block_lt_of_cell? w _ hx142_0)).trans hx142_0
          replace p142:=eq_true p142
          replace q142:=eq_true q142
          go_wp2_with (first|(go_at_call 26;(with_reducible refine (fix_Clamp.calls k1 (rd l0 x20_1) (-131072) 131072 t143 _ A10.out).mono ?_);rintro e w' ⟨rfl,⟨nd,rfl⟩⟩;(try first|exact ⟨rfl,_,World.drewN_drewN _ _ _⟩|exact ⟨rfl,_,Eq.trans (World.drewN_drewN _ _ _) (congrArg (World.drewN _) (Nat.add_assoc _ _ _))⟩);have p12 : 0 ≤ (x20_1 : Int):=of_decide_eq_true (by first|(with_reducible assumption)|assumption);have q12 : (x20_1 : Int) < ((x3_1.length : Int) : Int):=of_decide_eq_true (by first|(with_reducible assumption)|assumption);obtain ⟨go12,co12,eo12,gb12,gl12,cl12,HG12⟩:=Kd.R_form HO_3.out (by omega);(first|cases eo12|(injection eo12 with ea_ en_ ec_;(first|subst ea_|(injection ea_ with ea_;subst ea_));subst ec_;clear en_));have GB12:=ak_ gb12;have GG12:=ak_ HG12;clear gb12 gl12 HG12;obtain ⟨hx12_0,hf12_0⟩:=Kd.R_celln 0 HO_3.out (x20_1 : Int) p12 q12;replace p12:=eq_true p12;replace q12:=eq_true q12;obtain ⟨hy13_,hz13_⟩:=Kd.R_celln 0 HO_3.out (x20_1 : Int) (of_decide_eq_true (by first|(with_reducible assumption)|assumption)) (of_decide_eq_true (by first|(with_reducible assumption)|assumption));have HP13:=Kd.R_putg HO_3.out (x20_1 : Int) (wrap64 (4096 * t143)))|((with_reducible refine gate_store (t:=2) (p:=30) rfl ?_);(try (rw [drewN_self wr];generalize hq_ : World.drewN wr _ = wr;have n0_:=ak_ (Kd.R_at hq_ HO_3.out);have n1_:=ak_ (below_at hq_ HB.out);clear hq_ HO_3 HB;have HO_3:=n0_;have HB:=n1_;clear n0_ n1_;(try (obtain ⟨hy13_,hz13_⟩:=Kd.R_celln 0 HO_3.out (x20_1 : Int) (of_decide_eq_true (by first|(with_reducible assumption)|assumption)) (of_decide_eq_true (by first|(with_reducible assumption)|assumption))));(try (have HP13:=Kd.R_putg HO_3.out (x20_1 : Int) (wrap64 (4096 * t143))))));refine store_event (t:=2) (p:=30) (v:=?vo_w14) (w1:=(wr.setCell ⟨go12,(x20_1 : Int).toNat,none⟩ (.int .i64 (wrap64 (4096 * t143))))) ?hg ?ho ?hn ?hr ?_;(case ho => rfl);(case hg => rfl);(case hn => rfl);(case hr => first|(go_simp;done)|(go_simp;rfl));intro w14 hw;have hg : wr.grownBy w14 (some go12):=(by rw [hw];exact HP13.2);have hp_ : Kd.R (Kd.int .i64) 2 w14 w.heap.size (fun _ => True) (.slice (some ⟨go12,0,none⟩) x3_1.length co12) y144:=(by rw [hw,Ny144.out];exact HP13.1);clear HP13;have n0_:=ak_ (hp_);have n1_:=ak_ ((by rw [hw];exact below_set (HB.out) GB12.out : Below w.heap.size w w14));clear HO_3;clear HB;have HO_3:=n0_;have HB:=n1_;clear n0_ n1_;clear hg hw hp_))
          repeat (go_quiet (first|(go_at_call 26;(with_reducible refine (fix_Clamp.calls k1 (rd l0 x20_1) (-131072) 131072 t143 _ A10.out).mono ?_);rintro e w' ⟨rfl,⟨nd,rfl⟩⟩;(try first|exact ⟨rfl,_,World.drewN_drewN _ _ _⟩|exact ⟨rfl,_,Eq.trans (World.drewN_drewN _ _ _) (congrArg (World.drewN _) (Nat.add_assoc _ _ _))⟩);have p12 : 0 ≤ (x20_1 : Int):=of_decide_eq_true (by first|(with_reducible assumption)|assumption);have q12 : (x20_1 : Int) < ((x3_1.length : Int) : Int):=of_decide_eq_true (by first|(with_reducible assumption)|assumption);obtain ⟨go12,co12,eo12,gb12,gl12,cl12,HG12⟩:=Kd.R_form HO_3.out (by omega);(first|cases eo12|(injection eo12 with ea_ en_ ec_;(first|subst ea_|(injection ea_ with ea_;subst ea_));subst ec_;clear en_));have GB12:=ak_ gb12;have GG12:=ak_ HG12;clear gb12 gl12 HG12;obtain ⟨hx12_0,hf12_0⟩:=Kd.R_celln 0 HO_3.out (x20_1 : Int) p12 q12;replace p12:=eq_true p12;replace q12:=eq_true q12;obtain ⟨hy13_,hz13_⟩:=Kd.R_celln 0 HO_3.out (x20_1 : Int) (of_decide_eq_true (by first|(with_reducible assumption)|assumption)) (of_decide_eq_true (by first|(with_reducible assumption)|assumption));have HP13:=Kd.R_putg HO_3.out (x20_1 : Int) (wrap64 (4096 * t143)))|((with_reducible refine gate_store (t:=2) (p:=30) rfl ?_);(try (rw [drewN_self wr];generalize hq_ : World.drewN wr _ = wr;have n0_:=ak_ (Kd.R_at hq_ HO_3.out);have n1_:=ak_ (below_at hq_ HB.out);clear hq_ HO_3 HB;have HO_3:=n0_;have HB:=n1_;clear n0_ n1_;(try (obtain ⟨hy13_,hz13_⟩:=Kd.R_celln 0 HO_3.out (x20_1 : Int) (of_decide_eq_true (by first|(with_reducible assumption)|assumption)) (of_decide_eq_true (by first|(with_reducible assumption)|assumption))));(try (have HP13:=Kd.R_putg HO_3.out (x20_1 : Int) (wrap64 (4096 * t143))))));refine store_event (t:=2) (p:=30) (v:=?vo_w14) (w1:=(wr.setCell ⟨go12,(x20_1 : Int).toNat,none⟩ (.int .i64 (wrap64 (4096 * t143))))) ?hg ?ho ?hn ?hr ?_;(case ho => rfl);(case hg => rfl);(case hn => rfl);(case hr => first|(go_simp;done)|(go_simp;rfl));intro w14 hw;have hg : wr.grownBy w14 (some go12):=(by rw [hw];exact HP13.2);have hp_ : Kd.R (Kd.int .i64) 2 w14 w.heap.size (fun _ => True) (.slice (some ⟨go12,0,none⟩) x3_1.length co12) y144:=(by rw [hw,Ny144.out];exact HP13.1);clear HP13;have n0_:=ak_ (hp_);have n1_:=ak_ ((by rw [hw];exact below_set (HB.out) GB12.out : Below w.heap.size w w14));clear HO_3;clear HB;have HO_3:=n0_;have HB:=n1_;clear n0_ n1_;clear hg hw hp_));try go_wp2_with (first|(go_at_call 26;(with_reducible refine (fix_Clamp.calls k1 (rd l0 x20_1) (-131072) 131072 t143 _ A10.out).mono ?_);rintro e w' ⟨rfl,⟨nd,rfl⟩⟩;(try first|exact ⟨rfl,_,World.drewN_drewN _ _ _⟩|exact ⟨rfl,_,Eq.trans (World.drewN_drewN _ _ _) (congrArg (World.drewN _) (Nat.add_assoc _ _ _))⟩);have p12 : 0 ≤ (x20_1 : Int):=of_decide_eq_true (by first|(with_reducible assumption)|assumption);have q12 : (x20_1 : Int) < ((x3_1.length : Int) : Int):=of_decide_eq_true (by first|(with_reducible assumption)|assumption);obtain ⟨go12,co12,eo12,gb12,gl12,cl12,HG12⟩:=Kd.R_form HO_3.out (by omega);(first|cases eo12|(injection eo12 with ea_ en_ ec_;(first|subst ea_|(injection ea_ with ea_;subst ea_));subst ec_;clear en_));have GB12:=ak_ gb12;have GG12:=ak_ HG12;clear gb12 gl12 HG12;obtain ⟨hx12_0,hf12_0⟩:=Kd.R_celln 0 HO_3.out (x20_1 : Int) p12 q12;replace p12:=eq_true p12;replace q12:=eq_true q12;obtain ⟨hy13_,hz13_⟩:=Kd.R_celln 0 HO_3.out (x20_1 : Int) (of_decide_eq_true (by first|(with_reducible assumption)|assumption)) (of_decide_eq_true (by first|(with_reducible assumption)|assumption));have HP13:=Kd.R_putg HO_3.out (x20_1 : Int) (wrap64 (4096 * t143)))|((with_reducible refine gate_store (t:=2) (p:=30) rfl ?_);(try (rw [drewN_self wr];generalize hq_ : World.drewN wr _ = wr;have n0_:=ak_ (Kd.R_at hq_ HO_3.out);have n1_:=ak_ (below_at hq_ HB.out);clear hq_ HO_3 HB;have HO_3:=n0_;have HB:=n1_;clear n0_ n1_;(try (obtain ⟨hy13_,hz13_⟩:=Kd.R_celln 0 HO_3.out (x20_1 : Int) (of_decide_eq_true (by first|(with_reducible assumption)|assumption)) (of_decide_eq_true (by first|(with_reducible assumption)|assumption))));(try (have HP13:=Kd.R_putg HO_3.out (x20_1 : Int) (wrap64 (4096 * t143))))));refine store_event (t:=2) (p:=30) (v:=?vo_w14) (w1:=(wr.setCell ⟨go12,(x20_1 : Int).toNat,none⟩ (.int .i64 (wrap64 (4096 * t143))))) ?hg ?ho ?hn ?hr ?_;(case ho => rfl);(case hg => rfl);(case hn => rfl);(case hr => first|(go_simp;done)|(go_simp;rfl));intro w14 hw;have hg : wr.grownBy w14 (some go12):=(by rw [hw];exact HP13.2);have hp_ : Kd.R (Kd.int .i64) 2 w14 w.heap.size (fun _ => True) (.slice (some ⟨go12,0,none⟩) x3_1.length co12) y144:=(by rw [hw,Ny144.out];exact HP13.1);clear HP13;have n0_:=ak_ (hp_);have n1_:=ak_ ((by rw [hw];exact below_set (HB.out) GB12.out : Below w.heap.size w w14));clear HO_3;clear HB;have HO_3:=n0_;have HB:=n1_;clear n0_ n1_;clear hg hw hp_)))
          go_roundg k1
          case measure => have:=HK1.out;omega
          case rel => exact ⟨(y144),(wrap64 (x20_1 + 1)),(by first|rfl|(simp;done)|(simp [*];done)),H',⟨by have:=HK1.out;omega⟩,⟨by (with_reducible repeat (first|apply ra_|apply rb_|apply rc_));exact HO_3.out⟩,⟨by repeat (first|(with_reducible first|exact HB.out|apply ba_|apply bb_|apply bc_)|exact HB.out)⟩⟩
         ·rw [if_neg c11] at H
          exact absurd H (by simp)
        ·rw [if_neg c9] at H
         exact absurd H (by simp)
       ·rw [if_neg c8] at H
        exact absurd H (by simp)
      ·rw [if_neg c7] at H
       have c7b0:=decide_eq_false c7
       clear c7
       have H':=ak_ H
       clear H
       obtain ⟨Ao15,co15,eo15⟩:=Kd.R_slice HO_3.out
       subst eo15
       go_wp2
       repeat (go_quiet (fail);try go_wp2)
       go_loopg [6] k1 (fun kq v6 w' => ∃ (x3_2 : List Int) (x6_2 : Int),v6 = .int .i64 x6_2 ∧ Aside0 (lpc_Stable.l1 kq x3_2 x6_2 = some r) ∧ Aside0 (kq ≤ k1) ∧ Aside0 (Kd.R (Kd.int .i64) 2 w' w.heap.size (fun _ => True) (.slice Ao15 x3_1.length co15) x3_2) ∧ Aside0 (Below w.heap.size w w'))
       case atStart => exact ⟨(x3_1),(wrap64 ((x3_1.length : Int) - 1)),(by first|rfl|(simp;done)|(simp [*];done)),H',⟨Nat.le_refl _⟩,⟨by (with_reducible repeat (first|apply ra_|apply rb_|apply rc_));exact HO_3.out⟩,⟨by repeat (first|(with_reducible first|exact HB.out|apply ba_|apply bb_|apply bc_)|exact HB.out)⟩⟩
       case round =>
        clear H'
        try clear c1
        try clear p1
        try clear q1
        try clear hx1
        try clear hf1
        try clear c2
        try clear c2b0
        try clear c2b1
        try clear p2
        try clear c3
        try clear c3b0
        try clear c3b1
        try clear c4
        try clear c4b0
        try clear c4b1
        try clear p6
        try clear c7
        try clear c7b0
        try clear c8
        try clear c8b0
        try clear c9
        try clear c9b0
        try clear c11
        try clear c11b0
        try clear p12
        try clear q12
        try clear hx12
        try clear hf12
        try clear p14
        try clear q14
        try clear hx14
        try clear hx12_0
        try clear hx142_0
        try clear p12
        try clear p142
        try clear p2
        try clear q12
        try clear q142
        obtain ⟨x3_2,x6_2,rfl,HA,HK2,HO_3,HB⟩:=hrel
        (try simp only [i64_w,i32_w])
        have hl3_2:=(Kd.R_reads' HO_3.out).1
        rw [hl3_2] at HO_3
        (try simp only [hl3_2])
        cases gk with
        | zero => exact absurd HA.out (by simp [lpc_Stable.l1])
        | succ k2 =>
         have H:=HA.out
         clear HA
         simp only [lpc_Stable.l1] at H
         by_cases c16 : x6_2 ≥ 0
         ·rw [if_pos c16] at H
          have c16b0 : decide (0 ≤ x6_2) = true:=decide_eq_true c16
          (try (have c16h0:=c16b0;simp only [hl3_2] at c16h0))
          clear c16
          by_cases c17 : 0 ≤ x6_2
          ·rw [if_pos c17] at H
           have c17b0:=decide_eq_true c17
           (try (have c17h0:=c17b0;simp only [hl3_2] at c17h0))
           clear c17
           by_cases c18 : x6_2 < (x3_2.length : Int)
           ·rw [if_pos c18] at H
            have c18b0:=decide_eq_true c18
            (try (have c18h0:=c18b0;simp only [hl3_2] at c18h0))
            clear c18
            have HC19:=ak_ H
            clear H
            have p145 : 0 ≤ (x6_2 : Int):=of_decide_eq_true (by first|(with_reducible assumption)|assumption)
            have q145 : x6_2 < (x3_2.length : Int):=of_decide_eq_true (by first|(with_reducible assumption)|assumption)
            obtain ⟨ad145,e145,hx145_0⟩:=Kd.at_int (Kd.R_reads' HO_3.out).2.2 x6_2 p145 q145
            cases e145
            replace p145:=eq_true p145
            replace q145:=eq_true q145
            go_upto_region 13 with (fail)
            repeat (go_quiet (fail);go_upto_region 13 with (fail))
            go_cut [48] (fun v48 wc => ∃ (kq : Nat) (x48_18 : Bool),v48 = .bool x48_18 ∧ Aside0 (lpc_Stable.j2 kq x3_2 x6_2 (rd x3_2 x6_2) x48_18 = some r) ∧ Aside0 (kq ≤ k2) ∧ Aside0 (Kd.R (Kd.int .i64) 2 wc w.heap.size (fun _ => True) (.slice (some ad145) x3_2.length co15) x3_2) ∧ Aside0 (Below w.heap.size w wc))
            case first =>
             have H:=HC19.out
             clear HC19
             by_cases c20 : (rd x3_2 x6_2) > 16760438
             ·rw [if_pos c20] at H
              have c20b0 : decide (16760438 < (rd x3_2 x6_2)) = true:=decide_eq_true c20
              (try (have c20h0:=c20b0;simp only [hl3_2] at c20h0))
              clear c20
              (first|rw [c20b0]|(simp only [i64_w,i32_w];rw [c20b0])|skip)
              have H':=ak_ H
              clear H
              go_wp2
              repeat (go_quiet (fail);try go_wp2)
              refine Met.intro ?_
              go_step
              (repeat apply Exists.intro)
              first|refine ⟨?rel241,rfl⟩|(refine ⟨?rel241,?st241⟩;case' st241 => (first|rw [c20b0]|simp only [c20b0]))
              case rel241 => exact ⟨_,(true),(by first|rfl|(simp;done)|(simp [*];done)),H',⟨by have:=HK1.out;have:=HK2.out;first|omega|exact Nat.le_refl _⟩,⟨by (try simp only [hl3_2]);(with_reducible repeat (first|apply ra_|apply rb_|apply rc_));exact HO_3.out⟩,⟨by repeat (first|(with_reducible first|exact HB.out|apply ba_|apply bb_|apply bc_)|exact HB.out)⟩⟩
             ·rw [if_neg c20] at H
              have c20b0 : decide (16760438 < (rd x3_2 x6_2)) = false:=decide_eq_false c20
              (try (have c20h0:=c20b0;simp only [hl3_2] at c20h0))
              clear c20
              (first|rw [c20b0]|(simp only [i64_w,i32_w];rw [c20b0])|skip)
              have H':=ak_ H
              clear H
              go_wp2
              repeat (go_quiet (fail);try go_wp2)
              refine Met.intro ?_
              go_step
              (repeat apply Exists.intro)
              first|refine ⟨?rel252,rfl⟩|(refine ⟨?rel252,?st252⟩;case' st252 => (first|rw [c20b0]|simp only [c20b0]))
              case rel252 => exact ⟨_,(decide ((rd x3_2 x6_2) < (-16760438))),(by first|rfl|(simp;done)|(simp [*];done)),H',⟨by have:=HK1.out;have:=HK2.out;first|omega|exact Nat.le_refl _⟩,⟨by (try simp only [hl3_2]);(with_reducible repeat (first|apply ra_|apply rb_|apply rc_));exact HO_3.out⟩,⟨by repeat (first|(with_reducible first|exact HB.out|apply ba_|apply bb_|apply bc_)|exact HB.out)⟩⟩
            case rest =>
             clear HC19
             try clear c1
             try clear p1
             try clear q1
             try clear hx1
             try clear hf1
             try clear c2
             try clear c2b0
             try clear c2b1
             try clear p2
             try clear c3
             try clear c3b0
             try clear c3b1
             try clear c4
             try clear c4b0
             try clear c4b1
             try clear p6
             try clear c7
             try clear c7b0
             try clear c8
             try clear c8b0
             try clear c9
             try clear c9b0
             try clear c11
             try clear c11b0
             try clear p12
             try clear q12
             try clear hx12
             try clear hf12
             try clear p14
             try clear q14
             try clear hx14
             try clear c16
             try clear c16b0
             try clear c16h0
             try clear c17
             try clear c17b0
             try clear c17h0
             try clear c18
             try clear c18b0
             try clear c18h0
             try clear c19
             try clear c20
             try clear c20b0
             try clear c20h0
             try clear hx12_0
             try clear hx142_0
             try clear hx145_0
             try clear p1
             try clear p12
             try clear p14
             try clear p142
             try clear p145
             try clear p2
             try clear p6
             try clear q1
             try clear q12
             try clear q14
             try clear q142
             try clear q145
             obtain ⟨kq,x48_18,rfl,HA,HJ18,HO_3,HB⟩:=hcut
             (try simp only [i64_w,i32_w])
             cases kq with
             | zero => exact absurd HA.out (by simp [lpc_Stable.j2])
             | succ kj18 =>
              have H:=HA.out
              clear HA
              simp only [lpc_Stable.j2] at H
              by_cases c21 : x48_18 = true
              ·subst c21
               have H1 : (some false) = some r:=by rw [if_pos rfl] at H;exact H
               clear H
               have H:=H1
               clear H1
               obtain rfl:=Option.some.inj H
               go_wp2
               repeat (go_quiet (fail);try go_wp2)
               go_ret
               exact ⟨by first|rfl|(simp [errW_none,errW_some] <;> rfl)|(simp [*,errW_none,errW_some] <;> rfl),by repeat (first|(with_reducible first|exact HB.out|apply ba_|apply bb_|apply bc_)|exact HB.out)⟩
              ·replace c21:=Bool.eq_false_iff.mpr c21
               subst c21
               have H1 : ((fix_Mul.f kj18 (rd x3_2 x6_2) (rd x3_2 x6_2) 24).bind fun t146 => ((some (([] : List Int) : List Int)).bind fun y147 => (if 0 ≤ x6_2 then (if x6_2 ≤ (x3_2.length : Int) then ((some (x3_2.take (x6_2 : Int).toNat : List Int)).bind fun y150 => (if y147.length + y150.length < 17592186044416 then (lpc_Stable.l2 kj18 x3_2 x6_2 (rd x3_2 x6_2) (wrap64 (16777216 - t146)) (y147 ++ y150) x6_2 0) else (none))) else (none)) else (none)))) = some r:=by rw [if_neg (show ¬ (false = true) by decide)] at H;exact H
               clear H
               have H:=H1
               clear H1
               replace H:=Option.bind_eq_some_iff.mp H
               obtain ⟨t146,A220,H⟩:=H
               (try dsimp only at H)
               have A22:=ak_ A220
               clear A220
               obtain ⟨y147,hy147⟩ : ∃ y_ : List Int,y_ = (([] : List Int)):=⟨_,rfl⟩
               replace H : (if 0 ≤ x6_2 then (if x6_2 ≤ (x3_2.length : Int) then ((some (x3_2.take (x6_2 : Int).toNat : List Int)).bind fun y150 => (if y147.length + y150.length < 17592186044416 then (lpc_Stable.l2 kj18 x3_2 x6_2 (rd x3_2 x6_2) (wrap64 (16777216 - t146)) (y147 ++ y150) x6_2 0) else (none))) else (none)) else (none)) = some r:=by first|(rw [hy147];with_reducible exact H)|(have H2_:=(Option.bind_some _ _).symm.trans H;rw [hy147];with_reducible exact H2_)|(have H2_:=(Option.bind_some _ _).symm.trans H;with_reducible exact H2_)|with_reducible exact H|(rw [hy147];exact H)|exact H
               have Ny147:=ak_ hy147
               clear hy147
               by_cases c23 : 0 ≤ x6_2
               ·rw [if_pos c23] at H
                have c23b0:=eq_true c23
                have c23b1 : decide (0 ≤ x6_2) = true:=decide_eq_true c23
                clear c23
                by_cases c24 : x6_2 ≤ (x3_2.length : Int)
                ·rw [if_pos c24] at H
                 have c24b0:=eq_true c24
                 have c24b1 : decide (x6_2 ≤ (x3_2.length : Int)) = true:=decide_eq_true c24
                 clear c24
                 obtain ⟨y150,hy150⟩ : ∃ y_ : List Int,y_ = (x3_2.take (x6_2 : Int).toNat):=⟨_,rfl⟩
                 replace H : (if y147.length + y150.length < 17592186044416 then (lpc_Stable.l2 kj18 x3_2 x6_2 (rd x3_2 x6_2) (wrap64 (16777216 - t146)) (y147 ++ y150) x6_2 0) else (none)) = some r:=by first|(rw [hy150];with_reducible exact H)|(have H2_:=(Option.bind_some _ _).symm.trans H;rw [hy150];with_reducible exact H2_)|(have H2_:=(Option.bind_some _ _).symm.trans H;with_reducible exact H2_)|with_reducible exact H|(rw [hy150];exact H)|exact H
                 have Ny150:=ak_ hy150
                 clear hy150
                 by_cases c25 : y147.length + y150.length < 17592186044416
                 ·rw [if_pos c25] at H
                  have LMc25:=ak_ c25
                  clear c25
                  obtain ⟨y154,hy154⟩ : ∃ y_ : List Int,y_ = (y147 ++ y150):=⟨_,rfl⟩
                  replace H : (lpc_Stable.l2 kj18 x3_2 x6_2 (rd x3_2 x6_2) (wrap64 (16777216 - t146)) y154 x6_2 0) = some r:=by first|(rw [hy154];with_reducible exact H)|(have H2_:=(Option.bind_some _ _).symm.trans H;rw [hy154];with_reducible exact H2_)|(have H2_:=(Option.bind_some _ _).symm.trans H;with_reducible exact H2_)|with_reducible exact H|(rw [hy154];exact H)|exact H
                  have Ny154:=ak_ hy154
                  clear hy154
                  have H':=ak_ H
                  clear H
                  go_wp2_with (first|(go_at_call 25;(with_reducible refine (fix_Mul.calls kj18 (rd x3_2 x6_2) (rd x3_2 x6_2) 24 t146 _ A22.out).mono ?_);rintro e w' ⟨rfl,⟨nd,rfl⟩⟩;(try first|exact ⟨rfl,_,World.drewN_drewN _ _ _⟩|exact ⟨rfl,_,Eq.trans (World.drewN_drewN _ _ _) (congrArg (World.drewN _) (Nat.add_assoc _ _ _))⟩))|((with_reducible refine gate_dst (N:=53) rfl ?_);refine Kd.R_lit (Kd.int .i64) _ 2 ?hg (N:=53) ?hd (xs:=([] : List Int)) (inner:=[]) (ok:=fun _ => True) (okp:=fun _ => True) ?hr ?hp (fun _ hk => hk) trivial (Below.refl _ _) (Nat.le_refl _) (by simp) ?_;(case hd => rfl);(case hg => rfl);(case hr => first|(go_simp;done)|(go_simp;rfl));(case hp => exact (Reps.none _ _));intro v148 w26 ho27 hb hg_ hnew_;clear hg_ hnew_;(first|rw [← Ny147.out] at ho27|(simp only [Int.reduceToNat] at ho27;rw [← Ny147.out] at ho27));have n0_:=ak_ (Kd.R_elder' (by (with_reducible repeat (first|apply ra_|apply rb_|apply rc_));exact HO_3.out) (Kd.R_base ho27) hb);have n1_:=ak_ (Kd.R_lower (Kd.R_new' ho27 (Kd.R_lt (by (with_reducible repeat (first|apply ra_|apply rb_|apply rc_));exact HO_3.out))) (below_size (by repeat (first|(with_reducible first|exact HB.out|apply ba_|apply bb_|apply bc_)|exact HB.out))));have n2_:=ak_ (below_step (by repeat (first|(with_reducible first|exact HB.out|apply ba_|apply bb_|apply bc_)|exact HB.out)) hb);clear HO_3;clear HB;have HO_3:=n0_;have HO149:=n1_;have HB:=n2_;clear n0_ n1_ n2_;clear hb ho27;have q28 : (x6_2 : Int) ≤ ((x3_2.length : Int) : Int):=of_decide_eq_true (by first|(with_reducible assumption)|assumption);obtain ⟨i028,hi028,_,hsz28,_⟩:=info_parts info2;have hroom28 : x3_2.length ≤ co15:=(Kd.R_reads' HO_3.out).2.1;have hC28 : Kd.C (Kd.int .i64) _ (some ad145) x3_2.length x3_2:=(Kd.R_reads' HO_3.out).2.2;have hcut28:=cut_to (P:=Try.prog) 23 2 .i64 Try.underlying23 hi028 (some ad145) x3_2.length co15 x6_2 (of_decide_eq_true (by first|(with_reducible assumption)|assumption)) q28 hroom28;have hr28:=Kd.C_take (m:=(x6_2 : Int).toNat) hC28 (by omega);have hy28 : y150.length = (x6_2 : Int).toNat:=(by rw [Ny150.out,List.length_take];omega);rw [← Ny150.out] at hr28;rw [← hy28] at hcut28;have HR153:=ak_ hr28;have HC153:=ak_ (show y150.length ≤ co15 from by omega);clear hr28 hC28 hroom28 hi028 hsz28;have KY28:=ak_ hy28;clear hy28;have KL28:=ak_ (show (x6_2 : Int).toNat ≤ x3_2.length from by omega);replace q28:=eq_true q28)|((with_reducible refine gate_builtin (b:=.append) (xs:=#[.tmp 53,.tmp 56]) rfl ?_);at_builtin;refine Kd.R_append_rows (Kd.int .i64) (w0:=w) w.heap.size rfl (.tmp 53) (.tmp 56) 23 2 (.int .i64 0) 8 rfl Try.underlying23 info2 rfl (by decide) (by omega) v148 y147 y150 _ _ _ (fun k_ => some k_ ≠ (.slice (some ad145) x3_2.length co15 : Value).ownBlock) (fun _ => False) rfl rfl ?aO ?aR (fun _ _ h => h) (fun _ h => h.elim) ?aF ?aB ?aS ?aL ?_;(case aR => repeat (first|exact (by repeat (first|(with_reducible exact HR153.out)|(with_reducible refine Kd.C_alloc ?_ _)|(with_reducible refine Kd.C_drewN ?_ _)|(with_reducible refine Kd.C_drew ?_)|exact HR153.out))|(with_reducible refine Kd.C_alloc ?_ _)|(with_reducible refine Kd.C_drewN ?_ _)|(with_reducible refine Kd.C_drew ?_)));(case aB => exact (by repeat (first|(with_reducible first|exact HB.out|apply ba_|apply bb_|apply bc_)|exact HB.out)));(case aF => exact (fun k_ hk => Kd.fresh' (Kd.R_lt (by (with_reducible repeat (first|apply ra_|apply rb_|apply rc_));exact HO_3.out)) k_ hk));(case aO => exact (by (with_reducible repeat (first|apply ra_|apply rb_|apply rc_));exact Kd.R_mono HO149.out (fun _ hk => hk.2)));(case aS => exact (below_size (by repeat (first|(with_reducible first|exact HB.out|apply ba_|apply bb_|apply bc_)|exact HB.out))));(case aL => have:=LMc25.out;omega);intro v155 w29 ho hb hg hat;rw [← Ny154.out] at ho;have n0_:=ak_ (Kd.R_after (ok:=(fun _ => True)) (by (with_reducible repeat (first|apply ra_|apply rb_|apply rc_));exact HO_3.out) hg hat);have n1_:=ak_ (hb);have n2_:=ak_ ((show Kd.C (Kd.int .i64) w29 (some ad145) y150.length y150 from by rw [Ny150.out];exact Kd.C_take (m:=(x6_2 : Int).toNat) ((Kd.R_reads' (Kd.R_after (ok:=(fun _ => True)) (by (with_reducible repeat (first|apply ra_|apply rb_|apply rc_));exact HO_3.out) hg hat)).2.2) KL28.out));have n3_:=ak_ (ho);clear HO_3;clear HB;clear HR153;clear HO149;have HO_3:=n0_;have HB:=n1_;have HR153:=n2_;have HO156:=n3_;clear n0_ n1_ n2_ n3_;clear ho hb hg hat))
                  repeat (go_quiet (first|(go_at_call 25;(with_reducible refine (fix_Mul.calls kj18 (rd x3_2 x6_2) (rd x3_2 x6_2) 24 t146 _ A22.out).mono ?_);rintro e w' ⟨rfl,⟨nd,rfl⟩⟩;(try first|exact ⟨rfl,_,World.drewN_drewN _ _ _⟩|exact ⟨rfl,_,Eq.trans (World.drewN_drewN _ _ _) (congrArg (World.drewN _) (Nat.add_assoc _ _ _))⟩))|((with_reducible refine gate_dst (N:=53) rfl ?_);refine Kd.R_lit (Kd.int .i64) _ 2 ?hg (N:=53) ?hd (xs:=([] : List Int)) (inner:=[]) (ok:=fun _ => True) (okp:=fun _ => True) ?hr ?hp (fun _ hk => hk) trivial (Below.refl _ _) (Nat.le_refl _) (by simp) ?_;(case hd => rfl);(case hg => rfl);(case hr => first|(go_simp;done)|(go_simp;rfl));(case hp => exact (Reps.none _ _));intro v148 w26 ho27 hb hg_ hnew_;clear hg_ hnew_;(first|rw [← Ny147.out] at ho27|(simp only [Int.reduceToNat] at ho27;rw [← Ny147.out] at ho27));have n0_:=ak_ (Kd.R_elder' (by (with_reducible repeat (first|apply ra_|apply rb_|apply rc_));exact HO_3.out) (Kd.R_base ho27) hb);have n1_:=ak_ (Kd.R_lower (Kd.R_new' ho27 (Kd.R_lt (by (with_reducible repeat (first|apply ra_|apply rb_|apply rc_));exact HO_3.out))) (below_size (by repeat (first|(with_reducible first|exact HB.out|apply ba_|apply bb_|apply bc_)|exact HB.out))));have n2_:=ak_ (below_step (by repeat (first|(with_reducible first|exact HB.out|apply ba_|apply bb_|apply bc_)|exact HB.out)) hb);clear HO_3;clear HB;have HO_3:=n0_;have HO149:=n1_;have HB:=n2_;clear n0_ n1_ n2_;clear hb ho27;have q28 : (x6_2 : Int) ≤ ((x3_2.length : Int) : Int):=of_decide_eq_true (by first|(with_reducible assumption)|assumption);obtain ⟨i028,hi028,_,hsz28,_⟩:=info_parts info2;have hroom28 : x3_2.length ≤ co15:=(Kd.R_reads' HO_3.out).2.1;have hC28 : Kd.C (Kd.int .i64) _ (some ad145) x3_2.length x3_2:=(Kd.R_reads' HO_3.out).2.2;have hcut28:=cut_to (P:=Try.prog) 23 2 .i64 Try.underlying23 hi028 (some ad145) x3_2.length co15 x6_2 (of_decide_eq_true (by first|(with_reducible assumption)|assumption)) q28 hroom28;have hr28:=Kd.C_take (m:=(x6_2 : Int).toNat) hC28 (by omega);have hy28 : y150.length = (x6_2 : Int).toNat:=(by rw [Ny150.out,List.length_take];omega);rw [← Ny150.out] at hr28;rw [← hy28] at hcut28;have HR153:=ak_ hr28;have HC153:=ak_ (show y150.length ≤ co15 from by omega);clear hr28 hC28 hroom28 hi028 hsz28;have KY28:=ak_ hy28;clear hy28;have KL28:=ak_ (show (x6_2 : Int).toNat ≤ x3_2.length from by omega);replace q28:=eq_true q28)|((with_reducible refine gate_builtin (b:=.append) (xs:=#[.tmp 53,.tmp 56]) rfl ?_);at_builtin;refine Kd.R_append_rows (Kd.int .i64) (w0:=w) w.heap.size rfl (.tmp 53) (.tmp 56) 23 2 (.int .i64 0) 8 rfl Try.underlying23 info2 rfl (by decide) (by omega) v148 y147 y150 _ _ _ (fun k_ => some k_ ≠ (.slice (some ad145) x3_2.length co15 : Value).ownBlock) (fun _ => False) rfl rfl ?aO ?aR (fun _ _ h => h) (fun _ h => h.elim) ?aF ?aB ?aS ?aL ?_;(case aR => repeat (first|exact (by repeat (first|(with_reducible exact HR153.out)|(with_reducible refine Kd.C_alloc ?_ _)|(with_reducible refine Kd.C_drewN ?_ _)|(with_reducible refine Kd.C_drew ?_)|exact HR153.out))|(with_reducible refine Kd.C_alloc ?_ _)|(with_reducible refine Kd.C_drewN ?_ _)|(with_reducible refine Kd.C_drew ?_)));(case aB => exact (by repeat (first|(with_reducible first|exact HB.out|apply ba_|apply bb_|apply bc_)|exact HB.out)));(case aF => exact (fun k_ hk => Kd.fresh' (Kd.R_lt (by (with_reducible repeat (first|apply ra_|apply rb_|apply rc_));exact HO_3.out)) k_ hk));(case aO => exact (by (with_reducible repeat (first|apply ra_|apply rb_|apply rc_));exact Kd.R_mono HO149.out (fun _ hk => hk.2)));(case aS => exact (below_size (by repeat (first|(with_reducible first|exact HB.out|apply ba_|apply bb_|apply bc_)|exact HB.out))));(case aL => have:=LMc25.out;omega);intro v155 w29 ho hb hg hat;rw [← Ny154.out] at ho;have n0_:=ak_ (Kd.R_after (ok:=(fun _ => True)) (by (with_reducible repeat (first|apply ra_|apply rb_|apply rc_));exact HO_3.out) hg hat);have n1_:=ak_ (hb);have n2_:=ak_ ((show Kd.C (Kd.int .i64) w29 (some ad145) y150.length y150 from by rw [Ny150.out];exact Kd.C_take (m:=(x6_2 : Int).toNat) ((Kd.R_reads' (Kd.R_after (ok:=(fun _ => True)) (by (with_reducible repeat (first|apply ra_|apply rb_|apply rc_));exact HO_3.out) hg hat)).2.2) KL28.out));have n3_:=ak_ (ho);clear HO_3;clear HB;clear HR153;clear HO149;have HO_3:=n0_;have HB:=n1_;have HR153:=n2_;have HO156:=n3_;clear n0_ n1_ n2_ n3_;clear ho hb hg hat));try go_wp2_with (first|(go_at_call 25;(with_reducible refine (fix_Mul.calls kj18 (rd x3_2 x6_2) (rd x3_2 x6_2) 24 t146 _ A22.out).mono ?_);rintro e w' ⟨rfl,⟨nd,rfl⟩⟩;(try first|exact ⟨rfl,_,World.drewN_drewN _ _ _⟩|exact ⟨rfl,_,Eq.trans (World.drewN_drewN _ _ _) (congrArg (World.drewN _) (Nat.add_assoc _ _ _))⟩))|((with_reducible refine gate_dst (N:=53) rfl ?_);refine Kd.R_lit (Kd.int .i64) _ 2 ?hg (N:=53) ?hd (xs:=([] : List Int)) (inner:=[]) (ok:=fun _ => True) (okp:=fun _ => True) ?hr ?hp (fun _ hk => hk) trivial (Below.refl _ _) (Nat.le_refl _) (by simp) ?_;(case hd => rfl);(case hg => rfl);(case hr => first|(go_simp;done)|(go_simp;rfl));(case hp => exact (Reps.none _ _));intro v148 w26 ho27 hb hg_ hnew_;clear hg_ hnew_;(first|rw [← Ny147.out] at ho27|(simp only [Int.reduceToNat] at ho27;rw [← Ny147.out] at ho27));have n0_:=ak_ (Kd.R_elder' (by (with_reducible repeat (first|apply ra_|apply rb_|apply rc_));exact HO_3.out) (Kd.R_base ho27) hb);have n1_:=ak_ (Kd.R_lower (Kd.R_new' ho27 (Kd.R_lt (by (with_reducible repeat (first|apply ra_|apply rb_|apply rc_));exact HO_3.out))) (below_size (by repeat (first|(with_reducible first|exact HB.out|apply ba_|apply bb_|apply bc_)|exact HB.out))));have n2_:=ak_ (below_step (by repeat (first|(with_reducible first|exact HB.out|apply ba_|apply bb_|apply bc_)|exact HB.out)) hb);clear HO_3;clear HB;have HO_3:=n0_;have HO149:=n1_;have HB:=n2_;clear n0_ n1_ n2_;clear hb ho27;have q28 : (x6_2 : Int) ≤ ((x3_2.length : Int) : Int):=of_decide_eq_true (by first|(with_reducible assumption)|assumption);obtain ⟨i028,hi028,_,hsz28,_⟩:=info_parts info2;have hroom28 : x3_2.length ≤ co15:=(Kd.R_reads' HO_3.out).2.1;have hC28 : Kd.C (Kd.int .i64) _ (some ad145) x3_2.length x3_2:=(Kd.R_reads' HO_3.out).2.2;have hcut28:=cut_to (P:=Try.prog) 23 2 .i64 Try.underlying23 hi028 (some ad145) x3_2.length co15 x6_2 (of_decide_eq_true (by first|(with_reducible assumption)|assumption)) q28 hroom28;have hr28:=Kd.C_take (m:=(x6_2 : Int).toNat) hC28 (by omega);have hy28 : y150.length = (x6_2 : Int).toNat:=(by rw [Ny150.out,List.length_take];omega);rw [← Ny150.out] at hr28;rw [← hy28] at hcut28;have HR153:=ak_ hr28;have HC153:=ak_ (show y150.length ≤ co15 from by omega);clear hr28 hC28 hroom28 hi028 hsz28;have KY28:=ak_ hy28;clear hy28;have KL28:=ak_ (show (x6_2 : Int).toNat ≤ x3_2.length from by omega);replace q28:=eq_true q28)|((with_reducible refine gate_builtin (b:=.append) (xs:=#[.tmp 53,.tmp 56]) rfl ?_);at_builtin;refine Kd.R_append_rows (Kd.int .i64) (w0:=w) w.heap.size rfl (.tmp 53) (.tmp 56) 23 2 (.int .i64 0) 8 rfl Try.underlying23 info2 rfl (by decide) (by omega) v148 y147 y150 _ _ _ (fun k_ => some k_ ≠ (.slice (some ad145) x3_2.length co15 : Value).ownBlock) (fun _ => False) rfl rfl ?aO ?aR (fun _ _ h => h) (fun _ h => h.elim) ?aF ?aB ?aS ?aL ?_;(case aR => repeat (first|exact (by repeat (first|(with_reducible exact HR153.out)|(with_reducible refine Kd.C_alloc ?_ _)|(with_reducible refine Kd.C_drewN ?_ _)|(with_reducible refine Kd.C_drew ?_)|exact HR153.out))|(with_reducible refine Kd.C_alloc ?_ _)|(with_reducible refine Kd.C_drewN ?_ _)|(with_reducible refine Kd.C_drew ?_)));(case aB => exact (by repeat (first|(with_reducible first|exact HB.out|apply ba_|apply bb_|apply bc_)|exact HB.out)));(case aF => exact (fun k_ hk => Kd.fresh' (Kd.R_lt (by (with_reducible repeat (first|apply ra_|apply rb_|apply rc_));exact HO_3.out)) k_ hk));(case aO => exact (by (with_reducible repeat (first|apply ra_|apply rb_|apply rc_));exact Kd.R_mono HO149.out (fun _ hk => hk.2)));(case aS => exact (below_size (by repeat (first|(with_reducible first|exact HB.out|apply ba_|apply bb_|apply bc_)|exact HB.out))));(case aL => have:=LMc25.out;omega);intro v155 w29 ho hb hg hat;rw [← Ny154.out] at ho;have n0_:=ak_ (Kd.R_after (ok:=(fun _ => True)) (by (with_reducible repeat (first|apply ra_|apply rb_|apply rc_));exact HO_3.out) hg hat);have n1_:=ak_ (hb);have n2_:=ak_ ((show Kd.C (Kd.int .i64) w29 (some ad145) y150.length y150 from by rw [Ny150.out];exact Kd.C_take (m:=(x6_2 : Int).toNat) ((Kd.R_reads' (Kd.R_after (ok:=(fun _ => True)) (by (with_reducible repeat (first|apply ra_|apply rb_|apply rc_));exact HO_3.out) hg hat)).2.2) KL28.out));have n3_:=ak_ (ho);clear HO_3;clear HB;clear HR153;clear HO149;have HO_3:=n0_;have HB:=n1_;have HR153:=n2_;have HO156:=n3_;clear n0_ n1_ n2_ n3_;clear ho hb hg hat)))
                  go_loopg [59] kj18 (fun kq v59 w' => ∃ (x3_4 : List Int) (x59_4 : Int),v59 = .int .i64 x59_4 ∧ Aside0 (lpc_Stable.l2 kq x3_4 x6_2 (rd x3_2 x6_2) (wrap64 (16777216 - t146)) y154 x6_2 x59_4 = some r) ∧ Aside0 (kq ≤ kj18) ∧ Aside0 (Kd.R (Kd.int .i64) 2 w' w.heap.size (fun k_ => some k_ ≠ (v155 : Value).ownBlock) (.slice (some ad145) x3_2.length co15) x3_4) ∧ Aside0 (Kd.R (Kd.int .i64) 2 w' w.heap.size (fun k_ => some k_ ≠ ((.slice (some ad145) x3_2.length co15) : Value).ownBlock) v155 y154) ∧ Aside0 (Below w.heap.size w w'))
                  case atStart => exact ⟨(x3_2),(0),(by first|rfl|(simp;done)|(simp [*];done)),H',⟨Nat.le_refl _⟩,⟨by (try simp only [hl3_2]);(with_reducible repeat (first|apply ra_|apply rb_|apply rc_));exact Kd.R_mono HO_3.out (fun _ hk => hk.2)⟩,⟨by (try simp only [hl3_2]);(with_reducible repeat (first|apply ra_|apply rb_|apply rc_));exact HO156.out⟩,⟨by repeat (first|(with_reducible first|exact HB.out|apply ba_|apply bb_|apply bc_)|exact HB.out)⟩⟩
                  case round =>
                   clear H'
                   try clear c1
                   try clear p1
                   try clear q1
                   try clear hx1
                   try clear hf1
                   try clear c2
                   try clear c2b0
                   try clear c2b1
                   try clear p2
                   try clear q2
                   try clear c3
                   try clear c3b0
                   try clear c3b1
                   try clear c4
                   try clear c4b0
                   try clear c4b1
                   try clear p6
                   try clear c7
                   try clear c7b0
                   try clear c8
                   try clear c8b0
                   try clear c9
                   try clear c9b0
                   try clear c11
                   try clear c11b0
                   try clear p12
                   try clear q12
                   try clear hx12
                   try clear hf12
                   try clear p14
                   try clear q14
                   try clear hx14
                   try clear c16
                   try clear c16b0
                   try clear c16h0
                   try clear c17
                   try clear c17b0
                   try clear c17h0
                   try clear c18
                   try clear c18b0
                   try clear c18h0
                   try clear c19
                   try clear c20
                   try clear c20b0
                   try clear c20h0
                   try clear c21
                   try clear c23
                   try clear c23b0
                   try clear c23b1
                   try clear c24
                   try clear c24b0
                   try clear c24b1
                   try clear c25
                   try clear q28
                   try clear hx12_0
                   try clear hx142_0
                   try clear hx145_0
                   try clear p1
                   try clear p12
                   try clear p14
                   try clear p142
                   try clear p145
                   try clear p2
                   try clear p6
                   try clear q1
                   try clear q12
                   try clear q14
                   try clear q142
                   try clear q145
                   try clear q28
                   obtain ⟨x3_4,x59_4,rfl,HA,HK4,HO_3,HO_9,HB⟩:=hrel
                   (try simp only [i64_w,i32_w])
                   have hl3_4:=(Kd.R_reads' HO_3.out).1
                   rw [hl3_4] at HO_3
                   (try simp only [hl3_4])
                   (try simp only [hl3_4] at HO_9)
                   cases gk with
                   | zero => exact absurd HA.out (by simp [lpc_Stable.l2])
                   | succ k4 =>
                    have H:=HA.out
                    clear HA
                    simp only [lpc_Stable.l2] at H
                    by_cases c30 : x59_4 < x6_2
                    ·rw [if_pos c30] at H
                     have c30b0:=decide_eq_true c30
                     (try (have c30h0:=c30b0;simp only [hl3_2,hl3_4] at c30h0))
                     clear c30
                     by_cases c31 : 0 ≤ x59_4
                     ·rw [if_pos c31] at H
                      have c31b0:=decide_eq_true c31
                      (try (have c31h0:=c31b0;simp only [hl3_2,hl3_4] at c31h0))
                      clear c31
                      by_cases c32 : x59_4 < (y154.length : Int)
                      ·rw [if_pos c32] at H
                       have c32b0:=decide_eq_true c32
                       (try (have c32h0:=c32b0;simp only [hl3_2,hl3_4] at c32h0))
                       clear c32
                       obtain ⟨ji33,hji33⟩ : ∃ j_ : Int,(wrap64 ((wrap64 (x6_2 - 1)) - x59_4)) = j_:=⟨_,rfl⟩
                       replace H : (if 0 ≤ (ji33) then (if (ji33) < (y154.length : Int) then ((fix_Mul.f k4 (rd x3_2 x6_2) (rd y154 (ji33)) 24).bind fun t159 => ((fix_Div.f k4 (wrap64 ((rd y154 x59_4) + t159)) (wrap64 (16777216 - t146)) 24).bind fun t160 => ((fix_Clamp.f k4 t160 (-2147483648) 2147483648).bind fun t161 => (if x59_4 < (x3_4.length : Int) then (lpc_Stable.l2 k4 (x3_4.set (x59_4 : Int).toNat t161) x6_2 (rd x3_2 x6_2) (wrap64 (16777216 - t146)) y154 x6_2 (wrap64 (x59_4 + 1))) else (none))))) else (none)) else (none)) = some r:=by first|(rw [hji33] at H;exact H)|(simp only [hji33] at H ⊢;exact H)
                       have hji33w : (IntKind.i64.wrap ((wrap64 (x6_2 - 1)) - x59_4)) = ji33:=(i64_w _).trans hji33
                       by_cases c34 : 0 ≤ (ji33)
                       ·rw [if_pos c34] at H
                        have c34b0:=decide_eq_true c34
                        (try (have c34h0:=c34b0;simp only [hl3_2,hl3_4] at c34h0))
                        clear c34
                        by_cases c35 : (ji33) < (y154.length : Int)
                        ·rw [if_pos c35] at H
                         have c35b0:=decide_eq_true c35
                         (try (have c35h0:=c35b0;simp only [hl3_2,hl3_4] at c35h0))
                         clear c35
                         replace H:=Option.bind_eq_some_iff.mp H
                         obtain ⟨t159,A360,H⟩:=H
                         (try dsimp only at H)
                         have A36:=ak_ A360
                         clear A360
                         replace H:=Option.bind_eq_some_iff.mp H
                         obtain ⟨t160,A370,H⟩:=H
                         (try dsimp only at H)
                         have A37:=ak_ A370
                         clear A370
                         replace H:=Option.bind_eq_some_iff.mp H
                         obtain ⟨t161,A380,H⟩:=H
                         (try dsimp only at H)
                         have A38:=ak_ A380
                         clear A380
                         by_cases c39 : x59_4 < (x3_4.length : Int)
                         ·rw [if_pos c39] at H
                          have c39b0:=decide_eq_true c39
                          (try (have c39h0:=c39b0;simp only [hl3_2,hl3_4] at c39h0))
                          clear c39
                          obtain ⟨y162,hy162⟩ : ∃ y_ : List Int,y_ = (x3_4.set (x59_4 : Int).toNat t161):=⟨_,rfl⟩
                          replace H : (lpc_Stable.l2 k4 y162 x6_2 (rd x3_2 x6_2) (wrap64 (16777216 - t146)) y154 x6_2 (wrap64 (x59_4 + 1))) = some r:=by first|(rw [hy162];with_reducible exact H)|(have H2_:=(Option.bind_some _ _).symm.trans H;rw [hy162];with_reducible exact H2_)|(have H2_:=(Option.bind_some _ _).symm.trans H;with_reducible exact H2_)|with_reducible exact H|(rw [hy162];exact H)|exact H
                          have Ny162:=ak_ hy162
                          clear hy162
                          have H':=ak_ H
                          clear H
                          obtain ⟨Ao41,co41,eo41⟩:=Kd.R_slice HO_9.out
                          subst eo41
                          have p157 : 0 ≤ (x59_4 : Int):=of_decide_eq_true (by first|(with_reducible assumption)|assumption)
                          have q157 : x59_4 < (y154.length : Int):=of_decide_eq_true (by first|(with_reducible assumption)|assumption)
                          obtain ⟨ad157,e157,hx157_0⟩:=Kd.at_int (Kd.R_reads' HO_9.out).2.2 x59_4 p157 q157
                          cases e157
                          replace p157:=eq_true p157
                          replace q157:=eq_true q157
                          have p158 : 0 ≤ ((ji33) : Int):=of_decide_eq_true (by first|(with_reducible assumption)|assumption)
                          have q158 : (ji33) < (y154.length : Int):=of_decide_eq_true (by first|(with_reducible assumption)|assumption)
                          obtain ⟨ad158,e158,hx158_0⟩:=Kd.at_int (Kd.R_reads' HO_9.out).2.2 (ji33) p158 q158
                          obtain rfl : ad157 = ad158:=(by injection e158)
                          replace p158:=eq_true p158
                          replace q158:=eq_true q158
                          go_wp2_with (first|(go_at_call 25;(with_reducible refine (fix_Mul.calls k4 (rd x3_2 x6_2) (rd y154 (ji33)) 24 t159 _ A36.out).mono ?_);rintro e w' ⟨rfl,⟨nd,rfl⟩⟩;(try first|exact ⟨rfl,_,World.drewN_drewN _ _ _⟩|exact ⟨rfl,_,Eq.trans (World.drewN_drewN _ _ _) (congrArg (World.drewN _) (Nat.add_assoc _ _ _))⟩))|(go_at_call 27;(with_reducible refine (fix_Div.calls k4 (wrap64 ((rd y154 x59_4) + t159)) (wrap64 (16777216 - t146)) 24 t160 _ A37.out).mono ?_);rintro e w' ⟨rfl,⟨nd,rfl⟩⟩;(try first|exact ⟨rfl,_,World.drewN_drewN _ _ _⟩|exact ⟨rfl,_,Eq.trans (World.drewN_drewN _ _ _) (congrArg (World.drewN _) (Nat.add_assoc _ _ _))⟩))|(go_at_call 26;(with_reducible refine (fix_Clamp.calls k4 t160 (-2147483648) 2147483648 t161 _ A38.out).mono ?_);rintro e w' ⟨rfl,⟨nd,rfl⟩⟩;(try first|exact ⟨rfl,_,World.drewN_drewN _ _ _⟩|exact ⟨rfl,_,Eq.trans (World.drewN_drewN _ _ _) (congrArg (World.drewN _) (Nat.add_assoc _ _ _))⟩);have p40 : 0 ≤ (x59_4 : Int):=of_decide_eq_true (by first|(with_reducible assumption)|assumption);have q40 : (x59_4 : Int) < ((x3_4.length : Int) : Int):=of_decide_eq_true (by first|(with_reducible assumption)|assumption);obtain ⟨go40,co40,eo40,gb40,gl40,cl40,HG40⟩:=Kd.R_form HO_3.out (by omega);(first|cases eo40|(injection eo40 with ea_ en_ ec_;(first|subst ea_|(injection ea_ with ea_;subst ea_));subst ec_;clear en_));have GB40:=ak_ gb40;have GG40:=ak_ HG40;clear gb40 gl40 HG40;(first|simp only [add_plain] at hx145_0|skip);obtain ⟨hx40_0,hf40_0⟩:=Kd.R_celln 0 HO_3.out (x59_4 : Int) p40 q40;replace p40:=eq_true p40;replace q40:=eq_true q40;obtain ⟨hy42_,hz42_⟩:=Kd.R_celln 0 HO_3.out (x59_4 : Int) (of_decide_eq_true (by first|(with_reducible assumption)|assumption)) (of_decide_eq_true (by first|(with_reducible assumption)|assumption));have HP42:=Kd.R_putg HO_3.out (x59_4 : Int) t161)|((with_reducible refine gate_store (t:=2) (p:=82) rfl ?_);(try (rw [drewN_self wr];generalize hq_ : World.drewN wr _ = wr;have n0_:=ak_ (Kd.R_at hq_ HO_3.out);have n1_:=ak_ (Kd.R_at hq_ HO_9.out);have n2_:=ak_ (below_at hq_ HB.out);clear hq_ HO_3 HO_9 HB;have HO_3:=n0_;have HO_9:=n1_;have HB:=n2_;clear n0_ n1_ n2_;(try (obtain ⟨hy42_,hz42_⟩:=Kd.R_celln 0 HO_3.out (x59_4 : Int) (of_decide_eq_true (by first|(with_reducible assumption)|assumption)) (of_decide_eq_true (by first|(with_reducible assumption)|assumption))));(try (have HP42:=Kd.R_putg HO_3.out (x59_4 : Int) t161))));refine store_event (t:=2) (p:=82) (v:=?vo_w43) (w1:=(wr.setCell ⟨go40,(x59_4 : Int).toNat,none⟩ (.int .i64 t161))) ?hg ?ho ?hn ?hr ?_;(case ho => rfl);(case hg => rfl);(case hn => rfl);(case hr => first|(go_simp;done)|(go_simp;rfl));intro w43 hw;have hg : wr.grownBy w43 (some go40):=(by rw [hw];exact HP42.2);have hp_ : Kd.R (Kd.int .i64) 2 w43 w.heap.size (fun k_ => some k_ ≠ (.slice (some ad157) y154.length co41 : Value).ownBlock) (.slice (some ⟨go40,0,none⟩) x3_4.length co15) y162:=(by rw [hw,Ny162.out];exact HP42.1);clear HP42;have n0_:=ak_ (hp_);have n1_:=ak_ (Kd.R_after (v:=(.slice (some ⟨go40,0,none⟩) x3_4.length co15)) (v1:=(.slice (some ⟨go40,0,none⟩) x3_4.length co15)) (ok:=(fun _ => True)) (by (with_reducible repeat (first|apply ra_|apply rb_|apply rc_));exact Kd.R_mono HO_9.out (fun _ hk => ⟨trivial,hk⟩)) hg (.inl rfl));have n2_:=ak_ ((by rw [hw];exact below_set (HB.out) GB40.out : Below w.heap.size w w43));clear HO_3;clear HO_9;clear HB;have HO_3:=n0_;have HO_9:=n1_;have HB:=n2_;clear n0_ n1_ n2_;clear hg hw hp_))
                          repeat (go_quiet (first|(go_at_call 25;(with_reducible refine (fix_Mul.calls k4 (rd x3_2 x6_2) (rd y154 (ji33)) 24 t159 _ A36.out).mono ?_);rintro e w' ⟨rfl,⟨nd,rfl⟩⟩;(try first|exact ⟨rfl,_,World.drewN_drewN _ _ _⟩|exact ⟨rfl,_,Eq.trans (World.drewN_drewN _ _ _) (congrArg (World.drewN _) (Nat.add_assoc _ _ _))⟩))|(go_at_call 27;(with_reducible refine (fix_Div.calls k4 (wrap64 ((rd y154 x59_4) + t159)) (wrap64 (16777216 - t146)) 24 t160 _ A37.out).mono ?_);rintro e w' ⟨rfl,⟨nd,rfl⟩⟩;(try first|exact ⟨rfl,_,World.drewN_drewN _ _ _⟩|exact ⟨rfl,_,Eq.trans (World.drewN_drewN _ _ _) (congrArg (World.drewN _) (Nat.add_assoc _ _ _))⟩))|(go_at_call 26;(with_reducible refine (fix_Clamp.calls k4 t160 (-2147483648) 2147483648 t161 _ A38.out).mono ?_);rintro e w' ⟨rfl,⟨nd,rfl⟩⟩;(try first|exact ⟨rfl,_,World.drewN_drewN _ _ _⟩|exact ⟨rfl,_,Eq.trans (World.drewN_drewN _ _ _) (congrArg (World.drewN _) (Nat.add_assoc _ _ _))⟩);have p40 : 0 ≤ (x59_4 : Int):=of_decide_eq_true (by first|(with_reducible assumption)|assumption);have q40 : (x59_4 : Int) < ((x3_4.length : Int) : Int):=of_decide_eq_true (by first|(with_reducible assumption)|assumption);obtain ⟨go40,co40,eo40,gb40,gl40,cl40,HG40⟩:=Kd.R_form HO_3.out (by omega);(first|cases eo40|(injection eo40 with ea_ en_ ec_;(first|subst ea_|(injection ea_ with ea_;subst ea_));subst ec_;clear en_));have GB40:=ak_ gb40;have GG40:=ak_ HG40;clear gb40 gl40 HG40;(first|simp only [add_plain] at hx145_0|skip);obtain ⟨hx40_0,hf40_0⟩:=Kd.R_celln 0 HO_3.out (x59_4 : Int) p40 q40;replace p40:=eq_true p40;replace q40:=eq_true q40;obtain ⟨hy42_,hz42_⟩:=Kd.R_celln 0 HO_3.out (x59_4 : Int) (of_decide_eq_true (by first|(with_reducible assumption)|assumption)) (of_decide_eq_true (by first|(with_reducible assumption)|assumption));have HP42:=Kd.R_putg HO_3.out (x59_4 : Int) t161)|((with_reducible refine gate_store (t:=2) (p:=82) rfl ?_);(try (rw [drewN_self wr];generalize hq_ : World.drewN wr _ = wr;have n0_:=ak_ (Kd.R_at hq_ HO_3.out);have n1_:=ak_ (Kd.R_at hq_ HO_9.out);have n2_:=ak_ (below_at hq_ HB.out);clear hq_ HO_3 HO_9 HB;have HO_3:=n0_;have HO_9:=n1_;have HB:=n2_;clear n0_ n1_ n2_;(try (obtain ⟨hy42_,hz42_⟩:=Kd.R_celln 0 HO_3.out (x59_4 : Int) (of_decide_eq_true (by first|(with_reducible assumption)|assumption)) (of_decide_eq_true (by first|(with_reducible assumption)|assumption))));(try (have HP42:=Kd.R_putg HO_3.out (x59_4 : Int) t161))));refine store_event (t:=2) (p:=82) (v:=?vo_w43) (w1:=(wr.setCell ⟨go40,(x59_4 : Int).toNat,none⟩ (.int .i64 t161))) ?hg ?ho ?hn ?hr ?_;(case ho => rfl);(case hg => rfl);(case hn => rfl);(case hr => first|(go_simp;done)|(go_simp;rfl));intro w43 hw;have hg : wr.grownBy w43 (some go40):=(by rw [hw];exact HP42.2);have hp_ : Kd.R (Kd.int .i64) 2 w43 w.heap.size (fun k_ => some k_ ≠ (.slice (some ad157) y154.length co41 : Value).ownBlock) (.slice (some ⟨go40,0,none⟩) x3_4.length co15) y162:=(by rw [hw,Ny162.out];exact HP42.1);clear HP42;have n0_:=ak_ (hp_);have n1_:=ak_ (Kd.R_after (v:=(.slice (some ⟨go40,0,none⟩) x3_4.length co15)) (v1:=(.slice (some ⟨go40,0,none⟩) x3_4.length co15)) (ok:=(fun _ => True)) (by (with_reducible repeat (first|apply ra_|apply rb_|apply rc_));exact Kd.R_mono HO_9.out (fun _ hk => ⟨trivial,hk⟩)) hg (.inl rfl));have n2_:=ak_ ((by rw [hw];exact below_set (HB.out) GB40.out : Below w.heap.size w w43));clear HO_3;clear HO_9;clear HB;have HO_3:=n0_;have HO_9:=n1_;have HB:=n2_;clear n0_ n1_ n2_;clear hg hw hp_));try go_wp2_with (first|(go_at_call 25;(with_reducible refine (fix_Mul.calls k4 (rd x3_2 x6_2) (rd y154 (ji33)) 24 t159 _ A36.out).mono ?_);rintro e w' ⟨rfl,⟨nd,rfl⟩⟩;(try first|exact ⟨rfl,_,World.drewN_drewN _ _ _⟩|exact ⟨rfl,_,Eq.trans (World.drewN_drewN _ _ _) (congrArg (World.drewN _) (Nat.add_assoc _ _ _))⟩))|(go_at_call 27;(with_reducible refine (fix_Div.calls k4 (wrap64 ((rd y154 x59_4) + t159)) (wrap64 (16777216 - t146)) 24 t160 _ A37.out).mono ?_);rintro e w' ⟨rfl,⟨nd,rfl⟩⟩;(try first|exact ⟨rfl,_,World.drewN_drewN _ _ _⟩|exact ⟨rfl,_,Eq.trans (World.drewN_drewN _ _ _) (congrArg (World.drewN _) (Nat.add_assoc _ _ _))⟩))|(go_at_call 26;(with_reducible refine (fix_Clamp.calls k4 t160 (-2147483648) 2147483648 t161 _ A38.out).mono ?_);rintro e w' ⟨rfl,⟨nd,rfl⟩⟩;(try first|exact ⟨rfl,_,World.drewN_drewN _ _ _⟩|exact ⟨rfl,_,Eq.trans (World.drewN_drewN _ _ _) (congrArg (World.drewN _) (Nat.add_assoc _ _ _))⟩);have p40 : 0 ≤ (x59_4 : Int):=of_decide_eq_true (by first|(with_reducible assumption)|assumption);have q40 : (x59_4 : Int) < ((x3_4.length : Int) : Int):=of_decide_eq_true (by first|(with_reducible assumption)|assumption);obtain ⟨go40,co40,eo40,gb40,gl40,cl40,HG40⟩:=Kd.R_form HO_3.out (by omega);(first|cases eo40|(injection eo40 with ea_ en_ ec_;(first|subst ea_|(injection ea_ with ea_;subst ea_));subst ec_;clear en_));have GB40:=ak_ gb40;have GG40:=ak_ HG40;clear gb40 gl40 HG40;(first|simp only [add_plain] at hx145_0|skip);obtain ⟨hx40_0,hf40_0⟩:=Kd.R_celln 0 HO_3.out (x59_4 : Int) p40 q40;replace p40:=eq_true p40;replace q40:=eq_true q40;obtain ⟨hy42_,hz42_⟩:=Kd.R_celln 0 HO_3.out (x59_4 : Int) (of_decide_eq_true (by first|(with_reducible assumption)|assumption)) (of_decide_eq_true (by first|(with_reducible assumption)|assumption));have HP42:=Kd.R_putg HO_3.out (x59_4 : Int) t161)|((with_reducible refine gate_store (t:=2) (p:=82) rfl ?_);(try (rw [drewN_self wr];generalize hq_ : World.drewN wr _ = wr;have n0_:=ak_ (Kd.R_at hq_ HO_3.out);have n1_:=ak_ (Kd.R_at hq_ HO_9.out);have n2_:=ak_ (below_at hq_ HB.out);clear hq_ HO_3 HO_9 HB;have HO_3:=n0_;have HO_9:=n1_;have HB:=n2_;clear n0_ n1_ n2_;(try (obtain ⟨hy42_,hz42_⟩:=Kd.R_celln 0 HO_3.out (x59_4 : Int) (of_decide_eq_true (by first|(with_reducible assumption)|assumption)) (of_decide_eq_true (by first|(with_reducible assumption)|assumption))));(try (have HP42:=Kd.R_putg HO_3.out (x59_4 : Int) t161))));refine store_event (t:=2) (p:=82) (v:=?vo_w43) (w1:=(wr.setCell ⟨go40,(x59_4 : Int).toNat,none⟩ (.int .i64 t161))) ?hg ?ho ?hn ?hr ?_;(case ho => rfl);(case hg => rfl);(case hn => rfl);(case hr => first|(go_simp;done)|(go_simp;rfl));intro w43 hw;have hg : wr.grownBy w43 (some go40):=(by rw [hw];exact HP42.2);have hp_ : Kd.R (Kd.int .i64) 2 w43 w.heap.size (fun k_ => some k_ ≠ (.slice (some ad157) y154.length co41 : Value).ownBlock) (.slice (some ⟨go40,0,none⟩) x3_4.length co15) y162:=(by rw [hw,Ny162.out];exact HP42.1);clear HP42;have n0_:=ak_ (hp_);have n1_:=ak_ (Kd.R_after (v:=(.slice (some ⟨go40,0,none⟩) x3_4.length co15)) (v1:=(.slice (some ⟨go40,0,none⟩) x3_4.length co15)) (ok:=(fun _ => True)) (by (with_reducible repeat (first|apply ra_|apply rb_|apply rc_));exact Kd.R_mono HO_9.out (fun _ hk => ⟨trivial,hk⟩)) hg (.inl rfl));have n2_:=ak_ ((by rw [hw];exact below_set (HB.out) GB40.out : Below w.heap.size w w43));clear HO_3;clear HO_9;clear HB;have HO_3:=n0_;have HO_9:=n1_;have HB:=n2_;clear n0_ n1_ n2_;clear hg hw hp_)))
                          (try simp only [← hl3_4])
                          go_roundg k4
                          case measure => have:=HK1.out;have:=HK2.out;have:=HJ18.out;have:=HK4.out;omega
                          case rel => exact ⟨(y162),(wrap64 (x59_4 + 1)),(by first|rfl|(simp;done)|(simp [*];done)),H',⟨by have:=HK1.out;have:=HK2.out;have:=HJ18.out;have:=HK4.out;omega⟩,⟨by (try simp only [hl3_2]);(try simp only [hl3_4]);(with_reducible repeat (first|apply ra_|apply rb_|apply rc_));exact HO_3.out⟩,⟨by (try simp only [hl3_2]);(try simp only [hl3_4]);(with_reducible repeat (first|apply ra_|apply rb_|apply rc_));exact Kd.R_mono HO_9.out (fun _ hk => hk.2)⟩,⟨by repeat (first|(with_reducible first|exact HB.out|apply ba_|apply bb_|apply bc_)|exact HB.out)⟩⟩
                         ·rw [if_neg c39] at H
                          exact absurd H (by simp)
                        ·rw [if_neg c35] at H
                         exact absurd H (by simp)
                       ·rw [if_neg c34] at H
                        exact absurd H (by simp)
                      ·rw [if_neg c32] at H
                       exact absurd H (by simp)
                     ·rw [if_neg c31] at H
                      exact absurd H (by simp)
                    ·rw [if_neg c30] at H
                     have c30b0:=decide_eq_false c30
                     (try (have c30h0:=c30b0;simp only [hl3_2,hl3_4] at c30h0))
                     clear c30
                     have H':=ak_ H
                     clear H
                     go_wp2
                     repeat (go_quiet (fail);try go_wp2)
                     (try simp only [← hl3_2,← hl3_4])
                     go_roundg k4
                     case measure => have:=HK1.out;have:=HK2.out;have:=HJ18.out;have:=HK4.out;omega
                     case rel => exact ⟨(x3_4),(wrap64 (x6_2 - 1)),(by first|rfl|(simp;done)|(simp [*];done)),H',⟨by have:=HK1.out;have:=HK2.out;have:=HJ18.out;have:=HK4.out;omega⟩,⟨by (try simp only [hl3_2]);(try simp only [hl3_4]);(with_reducible repeat (first|apply ra_|apply rb_|apply rc_));exact Kd.R_mono HO_3.out (fun _ hk => trivial)⟩,⟨by repeat (first|(with_reducible first|exact HB.out|apply ba_|apply bb_|apply bc_)|exact HB.out)⟩⟩
                 ·rw [if_neg c25] at H
                  exact absurd H (by simp)
                ·rw [if_neg c24] at H
                 exact absurd H (by simp)
               ·rw [if_neg c23] at H
                exact absurd H (by simp)
           ·rw [if_neg c18] at H
            exact absurd H (by simp)
          ·rw [if_neg c17] at H
           exact absurd H (by simp)
         ·rw [if_neg c16] at H
          have c16b0 : decide (0 ≤ x6_2) = false:=decide_eq_false c16
          (try (have c16h0:=c16b0;simp only [hl3_2] at c16h0))
          clear c16
          obtain rfl:=Option.some.inj H
          go_wp2
          repeat (go_quiet (fail);try go_wp2)
          go_ret
          exact ⟨by first|rfl|(simp [errW_none,errW_some] <;> rfl)|(simp [*,errW_none,errW_some] <;> rfl),by repeat (first|(with_reducible first|exact HB.out|apply ba_|apply bb_|apply bc_)|exact HB.out)⟩
   ·rw [if_neg c4] at H
    exact absurd H (by simp)
  ·rw [if_neg c3] at H
   exact absurd H (by simp)

end Go.Proofs.Ytllglpcpjeggcaa.P
