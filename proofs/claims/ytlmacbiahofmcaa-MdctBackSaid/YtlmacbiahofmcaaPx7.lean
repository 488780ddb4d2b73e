/- The machine side of the laws of one chapter, without conditions: each call of a Go function comes to what the Lean function of its name answers. Written for this claim by a program of the prover. -/
import Derived.Test.YtlmacbiahofmcaaPx0
import Derived.Test.YtlmacbiahofmcaaPx3
import Derived.Test.YtlmacbiahofmcaaPx6
namespace Go.Proofs.Ytlmacbiahofmcaa.P
open Go.RowKit Go.Proofs.YtlmacbiahofmcaaW.PrintWords Go.Proofs.YtlmacbiahofmcaaW.PrintLast Go.Proofs.YtlmacbiahofmcaaW.PrintMore
attribute [local go_sem] max2_int min2_int max_two min_two max_three min_three max_four min_four   -- for this text's walks alone
set_option linter.unusedVariables false
set_option linter.unusedSimpArgs false

/-! ### tabs_Window: function 26 -/
mutual
def tabs_Window.j0 : Nat → Int → Bool → Option (List Int)
 | 0,_,_ => none
 | k + 1,x0,x11 => if x11 = true then (some ([] : List Int)) else (if 0 ≤ x0 then (if (x0 : Int).toNat ≤ 35184372088832 then ((some (List.replicate (x0 : Int).toNat 0 : List Int)).bind fun y127 => (tabs_Window.l0 k x0 y127 (y127.length : Int) 0)) else (none)) else (none))
def tabs_Window.l0 : Nat → Int → List Int → Int → Int → Option (List Int)
 | 0,_,_,_,_ => none
 | k + 1,x0,x3,x15,x16 => if x16 < x15 then (if x0 = 0 then (none) else ((fix_Sin.f k (wrap64 (Int.tdiv (wrap64 ((wrap64 (Int.tdiv (wrap64 ((wrap64 ((wrap64 (2 * x16)) + 1)) * 16384)) x0)) + 1)) 2))).bind fun t130 => ((fix_Mul.f k t130 t130 15).bind fun t131 => ((fix_Sin.f k (wrap64 (Int.tdiv (wrap64 (t131 + 1)) 2))).bind fun t132 => (if 0 ≤ x16 then (if x16 < (x3.length : Int) then (tabs_Window.l0 k x0 (x3.set (x16 : Int).toNat t132) x15 (wrap64 (x16 + 1))) else (none)) else (none)))))) else (some x3)
end
def tabs_Window.f (k : Nat) (a0 : Int) : Option (List Int):=if a0 < 1 then (tabs_Window.j0 k a0 true) else (tabs_Window.j0 k a0 (decide (a0 > 480)))
theorem tabs_Window.mono_l : ∀ k,(∀ y0 y1,LeO (tabs_Window.j0 k y0 y1) (tabs_Window.j0 (k + 1) y0 y1)) ∧ (∀ y0 y1 y2 y3,LeO (tabs_Window.l0 k y0 y1 y2 y3) (tabs_Window.l0 (k + 1) y0 y1 y2 y3))
 | 0 => ⟨fun _ _ r h => by simp [tabs_Window.j0] at h,fun _ _ _ _ r h => by simp [tabs_Window.l0] at h⟩
 | k + 1 => by
  obtain ⟨ih0,ih1⟩:=tabs_Window.mono_l k
  refine ⟨?_,?_⟩
  all_goals (intros;first|unfold tabs_Window.j0|unfold tabs_Window.l0)
  all_goals (repeat' first|(with_reducible first|exact ih0 _ _|exact ih1 _ _ _ _|exact fix_Mul.mono _ _ _ _|exact fix_Sin.mono _ _|exact LeO.refl _|exact LeO.none _|refine LeO.ite ?_ ?_|refine LeO.bind ?_ (fun _ => ?_))|exact ih0 _ _|exact ih1 _ _ _ _|exact fix_Mul.mono _ _ _ _|exact fix_Sin.mono _ _|exact LeO.none _|refine LeO.ite ?_ ?_|refine LeO.bind ?_ (fun _ => ?_))
theorem tabs_Window.mono : ∀ a0 k,LeO (tabs_Window.f k a0) (tabs_Window.f (k + 1) a0):=by
 intro a0 k
 obtain ⟨ih0,ih1⟩:=tabs_Window.mono_l k
 unfold tabs_Window.f
 repeat' first|(with_reducible first|exact ih0 _ _|exact ih1 _ _ _ _|exact fix_Mul.mono _ _ _ _|exact fix_Sin.mono _ _|exact LeO.refl _|exact LeO.none _|refine LeO.ite ?_ ?_|refine LeO.bind ?_ (fun _ => ?_))|exact ih0 _ _|exact ih1 _ _ _ _|exact fix_Mul.mono _ _ _ _|exact fix_Sin.mono _ _|exact LeO.none _|refine LeO.ite ?_ ?_|refine LeO.bind ?_ (fun _ => ?_)
set_option maxHeartbeats 8000000 in
set_option maxRecDepth 100000 in
theorem tabs_Window.calls (k : Nat) (a0 : Int) (r : List Int) (w : World) (h : tabs_Window.f k a0 = some r) :
  Calls Try.prog 26 #[.int .i64 a0] w fun e w' => ∃ v0_ : Value,e = .returned (v0_) ∧ Kd.R (Kd.int .i64) 2 w' w.heap.size (fun _ => True) v0_ r ∧ Below w.heap.size w w':=by
 have HB:=ak_ (Below.refl w.heap.size w)
 have H : (if a0 < 1 then (tabs_Window.j0 k a0 true) else (tabs_Window.j0 k a0 (decide (a0 > 480)))) = some r:=h
 clear h
 have HC2:=ak_ H
 clear H
 go_enter Try.func26,Try.ntmps26
 go_upto_region 1 with (fail)
 go_cut [11] (fun v11 wc => ∃ (kq : Nat) (x11_1 : Bool),v11 = .bool x11_1 ∧ Aside0 (tabs_Window.j0 kq a0 x11_1 = some r) ∧ Aside0 (kq ≤ k) ∧ Aside0 (Below w.heap.size w wc))
 case first =>
  have H:=HC2.out
  clear HC2
  by_cases c3 : a0 < 1
  ·rw [if_pos c3] at H
   have c3b0:=decide_eq_true c3
   clear c3
   (first|rw [c3b0]|(simp only [i64_w,i32_w];rw [c3b0])|skip)
   have H':=ak_ H
   clear H
   go_wp2
   refine Met.intro ?_
   go_step
   (repeat apply Exists.intro)
   first|refine ⟨?rel45,rfl⟩|(refine ⟨?rel45,?st45⟩;case' st45 => (first|rw [c3b0]|simp only [c3b0]))
   case rel45 => exact ⟨_,(true),(by first|rfl|(simp;done)|(simp [*];done)),H',⟨by first|omega|exact Nat.le_refl _⟩,⟨by repeat (first|(with_reducible first|exact HB.out|apply ba_|apply bb_|apply bc_)|exact HB.out)⟩⟩
  ·rw [if_neg c3] at H
   have c3b0:=decide_eq_false c3
   clear c3
   (first|rw [c3b0]|(simp only [i64_w,i32_w];rw [c3b0])|skip)
   have H':=ak_ H
   clear H
   go_wp2
   refine Met.intro ?_
   go_step
   (repeat apply Exists.intro)
   first|refine ⟨?rel54,rfl⟩|(refine ⟨?rel54,?st54⟩;case' st54 => (first|rw [c3b0]|simp only [c3b0]))
   case rel54 => exact ⟨_,(decide (a0 > 480)),(by first|rfl|(simp;done)|(simp [*];done)),H',⟨by first|omega|exact Nat.le_refl _⟩,⟨by repeat (first|(with_reducible first|exact HB.out|apply ba_|apply bb_|apply bc_)|exact HB.out)⟩⟩
 case rest =>
  clear HC2
  try clear c2
  try clear p2
  try clear c3
  try clear c3b0
  obtain ⟨kq,x11_1,rfl,HA,HJ1,HB⟩:=hcut
  (try simp only [i64_w,i32_w])
  cases kq with
  | zero => exact absurd HA.out (by simp [tabs_Window.j0])
  | succ kj1 =>
   have H:=HA.out
   clear HA
   simp only [tabs_Window.j0] at H
   by_cases c4 : x11_1 = true
   ·subst c4
    have H1 : (some ([] : List Int)) = some r:=by rw [if_pos rfl] at H;exact H
    clear H
    have H:=H1
    clear H1
    obtain rfl:=Option.some.inj H
    go_wp2
    go_ret
    exact ⟨_,by first|rfl|(simp [errW_none,errW_some] <;> rfl)|(simp [*,errW_none,errW_some] <;> rfl),by first|exact Kd.R_nil _ _ _ _ _|exact Kd.N_nil _ _ _ _ _|exact Kd.V_nil _ _ _ _ _|exact Kd.Q_nil _ _ _ _ _|exact Kd.S_nil _ _ _ _ _,by repeat (first|(with_reducible first|exact HB.out|apply ba_|apply bb_|apply bc_)|exact HB.out)⟩
   ·replace c4:=Bool.eq_false_iff.mpr c4
    subst c4
    have H1 : (if 0 ≤ a0 then (if (a0 : Int).toNat ≤ 35184372088832 then ((some (List.replicate (a0 : Int).toNat 0 : List Int)).bind fun y127 => (tabs_Window.l0 kj1 a0 y127 (y127.length : Int) 0)) else (none)) else (none)) = some r:=by rw [if_neg (show ¬ (false = true) by decide)] at H;exact H
    clear H
    have H:=H1
    clear H1
    by_cases c5 : 0 ≤ a0
    ·rw [if_pos c5] at H
     have c5b0:=eq_true c5
     have c5b1 : decide (0 ≤ a0) = true:=decide_eq_true c5
     clear c5
     by_cases c6 : (a0 : Int).toNat ≤ 35184372088832
     ·rw [if_pos c6] at H
      have c6b0:=eq_true c6
      have c6b1 : decide ((a0 : Int).toNat ≤ 35184372088832) = true:=decide_eq_true c6
      clear c6
      obtain ⟨y127,hy127⟩ : ∃ y_ : List Int,y_ = (List.replicate (a0 : Int).toNat 0):=⟨_,rfl⟩
      replace H : (tabs_Window.l0 kj1 a0 y127 (y127.length : Int) 0) = some r:=by first|(rw [hy127];with_reducible exact H)|(have H2_:=(Option.bind_some _ _).symm.trans H;rw [hy127];with_reducible exact H2_)|(have H2_:=(Option.bind_some _ _).symm.trans H;with_reducible exact H2_)|with_reducible exact H|(rw [hy127];exact H)|exact H
      have Ny127:=ak_ hy127
      clear hy127
      have H':=ak_ H
      clear H
      go_wp2_with (first|((with_reducible refine gate_dst (N:=13) rfl ?_);refine Kd.R_make (Kd.int .i64) _ 2 rfl (N:=13) rfl 23 _ _ rfl a0 rfl rfl Try.underlying23 (.int .i64 0) 8 info2 rfl (by decide) (by omega) 0 (ok:=fun _ => True) (okp:=fun _ => True) rfl (fun _ hk => hk) trivial (of_decide_eq_true (by first|(with_reducible assumption)|assumption)) (Nat.le_trans (Nat.mul_le_mul_right _ (of_decide_eq_true (by first|(with_reducible assumption)|assumption) : a0.toNat ≤ 35184372088832)) (by omega)) (Below.refl _ _) (Nat.le_refl _) ?_;intro v128 w7 ho8 hb hg_ hnew_;clear hg_ hnew_;(first|rw [← Ny127.out] at ho8|(simp only [Int.reduceToNat] at ho8;rw [← Ny127.out] at ho8));have n0_:=ak_ (Kd.R_lower ho8 (below_size (by repeat (first|(with_reducible first|exact HB.out|apply ba_|apply bb_|apply bc_)|exact HB.out))));have n1_:=ak_ (below_step (by repeat (first|(with_reducible first|exact HB.out|apply ba_|apply bb_|apply bc_)|exact HB.out)) hb);clear HB;have HO129:=n0_;have HB:=n1_;clear n0_ n1_;clear hb ho8;obtain ⟨Ao9,co9,eo9⟩:=Kd.R_slice HO129.out;subst eo9))
      go_loopg [16] kj1 (fun kq v16 w' => ∃ (x3_2 : List Int) (x16_2 : Int),v16 = .int .i64 x16_2 ∧ Aside0 (tabs_Window.l0 kq a0 x3_2 (y127.length : Int) x16_2 = some r) ∧ Aside0 (kq ≤ kj1) ∧ Aside0 (Kd.R (Kd.int .i64) 2 w' w.heap.size (fun _ => True) (.slice Ao9 y127.length co9) x3_2) ∧ Aside0 (Below w.heap.size w w'))
      case atStart => exact ⟨(y127),(0),(by first|rfl|(simp;done)|(simp [*];done)),H',⟨Nat.le_refl _⟩,⟨by (with_reducible repeat (first|apply ra_|apply rb_|apply rc_));exact HO129.out⟩,⟨by repeat (first|(with_reducible first|exact HB.out|apply ba_|apply bb_|apply bc_)|exact HB.out)⟩⟩
      case round =>
       clear H'
       try clear c2
       try clear p2
       try clear c3
       try clear c3b0
       try clear c4
       try clear c5
       try clear c5b0
       try clear c5b1
       try clear c6
       try clear c6b0
       try clear c6b1
       try clear p2
       obtain ⟨x3_2,x16_2,rfl,HA,HK2,HO_3,HB⟩:=hrel
       (try simp only [i64_w,i32_w])
       have hl3_2:=(Kd.R_reads' HO_3.out).1
       rw [hl3_2] at HO_3
       (try simp only [hl3_2])
       cases gk with
       | zero => exact absurd HA.out (by simp [tabs_Window.l0])
       | succ k2 =>
        have H:=HA.out
        clear HA
        simp only [tabs_Window.l0] at H
        by_cases c10 : x16_2 < (y127.length : Int)
        ·rw [if_pos c10] at H
         have c10b0:=decide_eq_true c10
         (try (have c10h0:=c10b0;simp only [hl3_2] at c10h0))
         clear c10
         by_cases c11 : a0 = 0
         ·rw [if_pos c11] at H
          exact absurd H (by simp)
         ·rw [if_neg c11] at H
          have c11b0 : (a0 == 0) = false:=beq_eq_false_iff_ne.mpr c11
          have c11b1 : (a0 != 0) = true:=bne_iff_ne.mpr c11
          (try (have c11h0:=c11b0;simp only [hl3_2] at c11h0))
          (try (have c11h1:=c11b1;simp only [hl3_2] at c11h1))
          replace H:=Option.bind_eq_some_iff.mp H
          obtain ⟨t130,A120,H⟩:=H
          (try dsimp only at H)
          have A12:=ak_ A120
          clear A120
          replace H:=Option.bind_eq_some_iff.mp H
          obtain ⟨t131,A130,H⟩:=H
          (try dsimp only at H)
          have A13:=ak_ A130
          clear A130
          replace H:=Option.bind_eq_some_iff.mp H
          obtain ⟨t132,A140,H⟩:=H
          (try dsimp only at H)
          have A14:=ak_ A140
          clear A140
          by_cases c15 : 0 ≤ x16_2
          ·rw [if_pos c15] at H
           have c15b0:=decide_eq_true c15
           (try (have c15h0:=c15b0;simp only [hl3_2] at c15h0))
           clear c15
           by_cases c16 : x16_2 < (x3_2.length : Int)
           ·rw [if_pos c16] at H
            have c16b0:=decide_eq_true c16
            (try (have c16h0:=c16b0;simp only [hl3_2] at c16h0))
            clear c16
            obtain ⟨y133,hy133⟩ : ∃ y_ : List Int,y_ = (x3_2.set (x16_2 : Int).toNat t132):=⟨_,rfl⟩
            replace H : (tabs_Window.l0 k2 a0 y133 (y127.length : Int) (wrap64 (x16_2 + 1))) = some r:=by first|(rw [hy133];with_reducible exact H)|(have H2_:=(Option.bind_some _ _).symm.trans H;rw [hy133];with_reducible exact H2_)|(have H2_:=(Option.bind_some _ _).symm.trans H;with_reducible exact H2_)|with_reducible exact H|(rw [hy133];exact H)|exact H
            have Ny133:=ak_ hy133
            clear hy133
            have H':=ak_ H
            clear H
            go_wp2_with (first|((with_reducible refine gate_callee (f:=39) rfl ?_);refine goesL_ (some 27) rfl rfl Try.func39 (by kernel_rfl) rfl #[.int .i64 (wrap64 (Int.tdiv (wrap64 ((wrap64 (Int.tdiv (wrap64 ((wrap64 ((wrap64 (2 * x16_2)) + 1)) * 16384)) a0)) + 1)) 2))] rfl (by (try simp only [List.map_toArray,List.map_cons,List.map_nil]);first|done|rfl|(simp only [List.length_drop,List.length_take];rfl)) ?_;(with_reducible refine (fix_Sin.calls k2 (wrap64 (Int.tdiv (wrap64 ((wrap64 (Int.tdiv (wrap64 ((wrap64 ((wrap64 (2 * x16_2)) + 1)) * 16384)) a0)) + 1)) 2)) t130 _ A12.out).mono ?_);rintro e w18 ⟨rfl,hb⟩;refine ⟨_,rfl,?_⟩;have n0_:=ak_ (Kd.R_below (by (with_reducible repeat (first|apply ra_|apply rb_|apply rc_));exact HO_3.out) hb);have n1_:=ak_ (below_step (by repeat (first|(with_reducible first|exact HB.out|apply ba_|apply bb_|apply bc_)|exact HB.out)) hb);clear HO_3;clear HB;have HO_3:=n0_;have HB:=n1_;clear n0_ n1_;(try clear hb))|((with_reducible refine gate_callee (f:=27) rfl ?_);refine goesL_ (some 32) rfl rfl Try.func27 (by kernel_rfl) rfl #[.int .i64 t130,.int .i64 t130,.int .i64 15] rfl (by (try simp only [List.map_toArray,List.map_cons,List.map_nil]);first|done|rfl|(simp only [List.length_drop,List.length_take];rfl)) ?_;(with_reducible refine (fix_Mul.calls k2 t130 t130 15 t131 _ A13.out).mono ?_);rintro e w' ⟨rfl,⟨nd,rfl⟩⟩;refine ⟨_,rfl,?_⟩;(try (rw [drewN_self w18];generalize hq_ : World.drewN w18 _ = w18;have n0_ : Aside0 (Kd.R (Kd.int .i64) 2 w18 w.heap.size (fun _ => True) (.slice Ao9 x3_2.length co9) x3_2):=⟨by rw [← hq_];exact (by (with_reducible repeat (first|apply ra_|apply rb_|apply rc_));exact HO_3.out)⟩;have n1_ : Aside0 (Below w.heap.size w w18):=⟨by rw [← hq_];exact (by repeat (first|(with_reducible first|exact HB.out|apply ba_|apply bb_|apply bc_)|exact HB.out))⟩;clear HO_3 HB hq_;have HO_3:=n0_;have HB:=n1_;clear n0_ n1_)))|((with_reducible refine gate_callee (f:=39) rfl ?_);refine goesL_ (some 35) rfl rfl Try.func39 (by kernel_rfl) rfl #[.int .i64 (wrap64 (Int.tdiv (wrap64 (t131 + 1)) 2))] rfl (by (try simp only [List.map_toArray,List.map_cons,List.map_nil]);first|done|rfl|(simp only [List.length_drop,List.length_take];rfl)) ?_;(with_reducible refine (fix_Sin.calls k2 (wrap64 (Int.tdiv (wrap64 (t131 + 1)) 2)) t132 _ A14.out).mono ?_);rintro e w19 ⟨rfl,hb⟩;refine ⟨_,rfl,?_⟩;have n0_:=ak_ (Kd.R_below (by (with_reducible repeat (first|apply ra_|apply rb_|apply rc_));exact HO_3.out) hb);have n1_:=ak_ (below_step (by repeat (first|(with_reducible first|exact HB.out|apply ba_|apply bb_|apply bc_)|exact HB.out)) hb);clear HO_3;clear HB;have HO_3:=n0_;have HB:=n1_;clear n0_ n1_;(try clear hb);have p17 : 0 ≤ (x16_2 : Int):=of_decide_eq_true (by first|(with_reducible assumption)|assumption);have q17 : (x16_2 : Int) < ((x3_2.length : Int) : Int):=of_decide_eq_true (by first|(with_reducible assumption)|assumption);obtain ⟨go17,co17,eo17,gb17,gl17,cl17,HG17⟩:=Kd.R_form HO_3.out (by omega);(first|cases eo17|(injection eo17 with ea_ en_ ec_;(first|subst ea_|(injection ea_ with ea_;subst ea_));subst ec_;clear en_));have GB17:=ak_ gb17;have GG17:=ak_ HG17;clear gb17 gl17 HG17;obtain ⟨hx17_0,hf17_0⟩:=Kd.R_celln 0 HO_3.out (x16_2 : Int) p17 q17;replace p17:=eq_true p17;replace q17:=eq_true q17;obtain ⟨hy20_,hz20_⟩:=Kd.R_celln 0 HO_3.out (x16_2 : Int) (of_decide_eq_true (by first|(with_reducible assumption)|assumption)) (of_decide_eq_true (by first|(with_reducible assumption)|assumption));have HP20:=Kd.R_putg HO_3.out (x16_2 : Int) t132)|((with_reducible refine gate_store (t:=2) (p:=36) rfl ?_);refine store_event (t:=2) (p:=36) (v:=?vo_w21) (w1:=(w19.setCell ⟨go17,(x16_2 : Int).toNat,none⟩ (.int .i64 t132))) ?hg ?ho ?hn ?hr ?_;(case ho => rfl);(case hg => rfl);(case hn => rfl);(case hr => first|(go_simp;done)|(go_simp;rfl));intro w21 hw;have hg : w19.grownBy w21 (some go17):=(by rw [hw];exact HP20.2);have hp_ : Kd.R (Kd.int .i64) 2 w21 w.heap.size (fun _ => True) (.slice (some ⟨go17,0,none⟩) x3_2.length co9) y133:=(by rw [hw,Ny133.out];exact HP20.1);clear HP20;have n0_:=ak_ (hp_);have n1_:=ak_ ((by rw [hw];exact below_set (HB.out) GB17.out : Below w.heap.size w w21));clear HO_3;clear HB;have HO_3:=n0_;have HB:=n1_;clear n0_ n1_;clear hg hw hp_))
            (try simp only [← hl3_2])
            go_roundg k2
            case measure => have:=HJ1.out;have:=HK2.out;omega
            case rel => exact ⟨(y133),(wrap64 (x16_2 + 1)),(by first|rfl|(simp;done)|(simp [*];done)),H',⟨by have:=HJ1.out;have:=HK2.out;omega⟩,⟨by (try simp only [hl3_2]);(with_reducible repeat (first|apply ra_|apply rb_|apply rc_));exact HO_3.out⟩,⟨by repeat (first|(with_reducible first|exact HB.out|apply ba_|apply bb_|apply bc_)|exact HB.out)⟩⟩
           ·rw [if_neg c16] at H
            exact absurd H (by simp)
          ·rw [if_neg c15] at H
           exact absurd H (by simp)
        ·rw [if_neg c10] at H
         have c10b0:=decide_eq_false c10
         (try (have c10h0:=c10b0;simp only [hl3_2] at c10h0))
         clear c10
         obtain rfl:=Option.some.inj H
         go_wp2
         go_ret
         exact ⟨_,by first|rfl|(simp [errW_none,errW_some] <;> rfl)|(simp [*,errW_none,errW_some] <;> rfl),by (with_reducible repeat (first|apply ra_|apply rb_|apply rc_));exact HO_3.out,by repeat (first|(with_reducible first|exact HB.out|apply ba_|apply bb_|apply bc_)|exact HB.out)⟩
     ·rw [if_neg c6] at H
      exact absurd H (by simp)
    ·rw [if_neg c5] at H
     exact absurd H (by simp)

end Go.Proofs.Ytlmacbiahofmcaa.P
