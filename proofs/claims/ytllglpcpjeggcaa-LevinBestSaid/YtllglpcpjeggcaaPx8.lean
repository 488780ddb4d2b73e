/- The machine side of the laws of one chapter, without conditions: each call of a Go function comes to what the Lean function of its name answers. Written for this claim by a program of the prover. -/
import Derived.Test.YtllglpcpjeggcaaPx0
import Derived.Test.YtllglpcpjeggcaaPx1
import Derived.Test.YtllglpcpjeggcaaPx5
namespace Go.Proofs.Ytllglpcpjeggcaa.P
open Go.RowKit Go.Proofs.YtllglpcpjeggcaaW.PrintWords Go.Proofs.YtllglpcpjeggcaaW.PrintLast Go.Proofs.YtllglpcpjeggcaaW.PrintMore
attribute [local go_sem] max2_int min2_int max_two min_two max_three min_three max_four min_four   -- for this text's walks alone
set_option linter.unusedVariables false
set_option linter.unusedSimpArgs false

/-! ### lpc_Chirp: function 41 -/
mutual
def lpc_Chirp.l0 : Nat → Int → List Int → List Int → Int → Int → Option (List Int)
 | 0,_,_,_,_,_ => none
 | k + 1,x1,x5,x16,x17,x18 => if x18 < x17 then (if 0 ≤ x18 then (if x18 < (x16.length : Int) then (lpc_Chirp.l1 k x1 x5 x18 (rd x16 x18) x16 x17 x18 (wrap64 (x18 + 1)) 0) else (none)) else (none)) else (some x5)
def lpc_Chirp.l1 : Nat → Int → List Int → Int → Int → List Int → Int → Int → Int → Int → Option (List Int)
 | 0,_,_,_,_,_,_,_,_,_ => none
 | k + 1,x1,x5,x6,x7,x16,x17,x18,x24,x25 => if x25 < x24 then ((fix_Mul.f k x7 x1 16).bind fun t168 => (lpc_Chirp.l1 k x1 x5 x6 t168 x16 x17 x18 x24 (wrap64 (x25 + 1)))) else (if 0 ≤ x6 then (if x6 < (x5.length : Int) then (lpc_Chirp.l0 k x1 (x5.set (x6 : Int).toNat x7) x16 x17 (wrap64 (x18 + 1))) else (none)) else (none))
end
def lpc_Chirp.f (k : Nat) (l0 : List Int) (a1 : Int) : Option (List Int):=if (l0.length : Int) > 32 then (some ([] : List Int)) else ((fix_Clamp.f k a1 0 65536).bind fun t163 => (if 0 ≤ (l0.length : Int) then (if ((l0.length : Int) : Int).toNat ≤ 35184372088832 then (lpc_Chirp.l0 k t163 (List.replicate ((l0.length : Int) : Int).toNat 0) l0 (l0.length : Int) 0) else (none)) else (none)))
theorem lpc_Chirp.mono_l : ∀ k,(∀ y0 y1 y2 y3 y4,LeO (lpc_Chirp.l0 k y0 y1 y2 y3 y4) (lpc_Chirp.l0 (k + 1) y0 y1 y2 y3 y4)) ∧ (∀ y0 y1 y2 y3 y4 y5 y6 y7 y8,LeO (lpc_Chirp.l1 k y0 y1 y2 y3 y4 y5 y6 y7 y8) (lpc_Chirp.l1 (k + 1) y0 y1 y2 y3 y4 y5 y6 y7 y8))
 | 0 => ⟨fun _ _ _ _ _ r h => by simp [lpc_Chirp.l0] at h,fun _ _ _ _ _ _ _ _ _ r h => by simp [lpc_Chirp.l1] at h⟩
 | k + 1 => by
  obtain ⟨ih0,ih1⟩:=lpc_Chirp.mono_l k
  refine ⟨?_,?_⟩
  all_goals (intros;first|unfold lpc_Chirp.l0|unfold lpc_Chirp.l1)
  all_goals (repeat' first|(with_reducible first|exact ih0 _ _ _ _ _|exact ih1 _ _ _ _ _ _ _ _ _|exact fix_Clamp.mono _ _ _ _|exact fix_Mul.mono _ _ _ _|exact LeO.refl _|exact LeO.none _|refine LeO.ite ?_ ?_|refine LeO.bind ?_ (fun _ => ?_))|exact ih0 _ _ _ _ _|exact ih1 _ _ _ _ _ _ _ _ _|exact fix_Clamp.mono _ _ _ _|exact fix_Mul.mono _ _ _ _|exact LeO.none _|refine LeO.ite ?_ ?_|refine LeO.bind ?_ (fun _ => ?_))
theorem lpc_Chirp.mono : ∀ a0 a1 k,LeO (lpc_Chirp.f k a0 a1) (lpc_Chirp.f (k + 1) a0 a1):=by
 intro a0 a1 k
 obtain ⟨ih0,ih1⟩:=lpc_Chirp.mono_l k
 unfold lpc_Chirp.f
 repeat' first|(with_reducible first|exact ih0 _ _ _ _ _|exact ih1 _ _ _ _ _ _ _ _ _|exact fix_Clamp.mono _ _ _ _|exact fix_Mul.mono _ _ _ _|exact LeO.refl _|exact LeO.none _|refine LeO.ite ?_ ?_|refine LeO.bind ?_ (fun _ => ?_))|exact ih0 _ _ _ _ _|exact ih1 _ _ _ _ _ _ _ _ _|exact fix_Clamp.mono _ _ _ _|exact fix_Mul.mono _ _ _ _|exact LeO.none _|refine LeO.ite ?_ ?_|refine LeO.bind ?_ (fun _ => ?_)
set_option maxHeartbeats 8000000 in
set_option maxRecDepth 100000 in
theorem lpc_Chirp.calls (k : Nat) (A0 : Option Addr) (c0 : Nat) (l0 : List Int) (a1 : Int) (r : List Int) (w : World) (hr0 : Kd.C (Kd.int .i64) w A0 l0.length l0) (hc0 : l0.length ≤ c0) (h : lpc_Chirp.f k l0 a1 = some r) :
  Calls Try.prog 41 #[.slice A0 l0.length c0,.int .i64 a1] w fun e w' => ∃ v0_ : Value,e = .returned (v0_) ∧ Kd.R (Kd.int .i64) 2 w' w.heap.size (fun _ => True) v0_ r ∧ Below w.heap.size w w':=by
 have HR0:=ak_ hr0
 have HC0:=ak_ hc0
 clear hr0 hc0
 have HB:=ak_ (Below.refl w.heap.size w)
 have H : (if (l0.length : Int) > 32 then (some ([] : List Int)) else ((fix_Clamp.f k a1 0 65536).bind fun t163 => (if 0 ≤ (l0.length : Int) then (if ((l0.length : Int) : Int).toNat ≤ 35184372088832 then (lpc_Chirp.l0 k t163 (List.replicate ((l0.length : Int) : Int).toNat 0) l0 (l0.length : Int) 0) else (none)) else (none)))) = some r:=h
 clear h
 by_cases c3 : (l0.length : Int) > 32
 ·rw [if_pos c3] at H
  have c3b0 : decide (32 < (l0.length : Int)) = true:=decide_eq_true c3
  have c3b1 : decide (32 < l0.length) = true:=decide_eq_true (by omega)
  clear c3
  obtain rfl:=Option.some.inj H
  go_enter Try.func41,Try.ntmps41
  go_wp2
  go_ret
  exact ⟨_,by first|rfl|(simp [errW_none,errW_some] <;> rfl)|(simp [*,errW_none,errW_some] <;> rfl),by first|exact Kd.R_nil _ _ _ _ _|exact Kd.N_nil _ _ _ _ _|exact Kd.V_nil _ _ _ _ _|exact Kd.Q_nil _ _ _ _ _|exact Kd.S_nil _ _ _ _ _,by repeat (first|(with_reducible first|exact HB.out|apply ba_|apply bb_|apply bc_)|exact HB.out)⟩
 ·rw [if_neg c3] at H
  have c3b0 : decide (32 < (l0.length : Int)) = false:=decide_eq_false c3
  have c3b1 : decide (32 < l0.length) = false:=decide_eq_false (by omega)
  clear c3
  replace H:=Option.bind_eq_some_iff.mp H
  obtain ⟨t163,A40,H⟩:=H
  (try dsimp only at H)
  have A4:=ak_ A40
  clear A40
  by_cases c5 : 0 ≤ (l0.length : Int)
  ·rw [if_pos c5] at H
   have c5b0:=eq_true c5
   have c5b1 : decide (0 ≤ (l0.length : Int)) = true:=decide_eq_true c5
   clear c5
   by_cases c6 : ((l0.length : Int) : Int).toNat ≤ 35184372088832
   ·rw [if_pos c6] at H
    have c6b0:=eq_true c6
    have c6b1 : decide (((l0.length : Int) : Int).toNat ≤ 35184372088832) = true:=decide_eq_true c6
    clear c6
    obtain ⟨y164,hy164⟩ : ∃ y_ : List Int,y_ = (List.replicate ((l0.length : Int) : Int).toNat 0):=⟨_,rfl⟩
    replace H : (lpc_Chirp.l0 k t163 y164 l0 (l0.length : Int) 0) = some r:=by first|(rw [hy164];with_reducible exact H)|(have H2_:=(Option.bind_some _ _).symm.trans H;rw [hy164];with_reducible exact H2_)|(have H2_:=(Option.bind_some _ _).symm.trans H;with_reducible exact H2_)|with_reducible exact H|(rw [hy164];exact H)|exact H
    have Ny164:=ak_ hy164
    clear hy164
    have H':=ak_ H
    clear H
    go_enter Try.func41,Try.ntmps41
    go_wp2_with (first|((with_reducible refine gate_callee (f:=26) rfl ?_);refine goesL_ (some 12) rfl rfl Try.func26 (by kernel_rfl) rfl #[.int .i64 a1,.int .i64 0,.int .i64 65536] rfl (by (try simp only [List.map_toArray,List.map_cons,List.map_nil]);first|done|rfl|(simp only [List.length_drop,List.length_take];rfl)) ?_;(with_reducible refine (fix_Clamp.calls k a1 0 65536 t163 _ A4.out).mono ?_);rintro e w' ⟨rfl,⟨nd,rfl⟩⟩;refine ⟨_,rfl,?_⟩)|((with_reducible refine gate_dst (N:=15) rfl ?_);refine Kd.R_make (Kd.int .i64) _ 2 rfl (N:=15) rfl 23 _ _ rfl (l0.length : Int) rfl rfl Try.underlying23 (.int .i64 0) 8 info2 rfl (by decide) (by omega) 0 (ok:=fun _ => True) (okp:=fun _ => True) rfl (fun _ hk => hk) trivial (of_decide_eq_true (by first|(with_reducible assumption)|assumption)) (Nat.le_trans (Nat.mul_le_mul_right _ (of_decide_eq_true (by first|(with_reducible assumption)|assumption) : (l0.length : Int).toNat ≤ 35184372088832)) (by omega)) (Below.refl _ _) (Nat.le_refl _) ?_;intro v165 w7 ho8 hb hg_ hnew_;clear hg_ hnew_;(first|rw [← Ny164.out] at ho8|(simp only [Int.reduceToNat] at ho8;rw [← Ny164.out] at ho8));have n0_:=ak_ (Kd.R_lower ho8 (below_size (by repeat (first|(with_reducible first|exact HB.out|apply ba_|apply bb_|apply bc_)|exact HB.out))));have n1_:=ak_ (below_step (by repeat (first|(with_reducible first|exact HB.out|apply ba_|apply bb_|apply bc_)|exact HB.out)) hb);clear HB;have HO166:=n0_;have HB:=n1_;clear n0_ n1_;clear hb ho8))
    go_loopg [18] k (fun kq v18 w' => ∃ (x5_1 : List Int) (x18_1 : Int),v18 = .int .i64 x18_1 ∧ Aside0 (lpc_Chirp.l0 kq t163 x5_1 l0 (l0.length : Int) x18_1 = some r) ∧ Aside0 (kq ≤ k) ∧ Aside0 (Kd.R (Kd.int .i64) 2 w' w.heap.size (fun _ => True) v165 x5_1) ∧ Aside0 (Below w.heap.size w w'))
    case atStart => exact ⟨(y164),(0),(by first|rfl|(simp;done)|(simp [*];done)),H',⟨Nat.le_refl _⟩,⟨by (with_reducible repeat (first|apply ra_|apply rb_|apply rc_));exact HO166.out⟩,⟨by repeat (first|(with_reducible first|exact HB.out|apply ba_|apply bb_|apply bc_)|exact HB.out)⟩⟩
    case round =>
     clear H'
     try clear c2
     try clear p2
     try clear c3
     try clear c3b0
     try clear c3b1
     try clear c4
     try clear c5
     try clear c5b0
     try clear c5b1
     try clear c6
     try clear c6b0
     try clear c6b1
     obtain ⟨x5_1,x18_1,rfl,HA,HK1,HO_5,HB⟩:=hrel
     (try simp only [i64_w,i32_w])
     cases gk with
     | zero => exact absurd HA.out (by simp [lpc_Chirp.l0])
     | succ k1 =>
      have H:=HA.out
      clear HA
      simp only [lpc_Chirp.l0] at H
      by_cases c9 : x18_1 < (l0.length : Int)
      ·rw [if_pos c9] at H
       have c9b0:=decide_eq_true c9
       clear c9
       by_cases c10 : 0 ≤ x18_1
       ·rw [if_pos c10] at H
        have c10b0:=decide_eq_true c10
        clear c10
        by_cases c11 : x18_1 < (l0.length : Int)
        ·rw [if_pos c11] at H
         have c11b0:=decide_eq_true c11
         clear c11
         have H':=ak_ H
         clear H
         have p167 : 0 ≤ (x18_1 : Int):=of_decide_eq_true (by first|(with_reducible assumption)|assumption)
         have q167 : x18_1 < (l0.length : Int):=of_decide_eq_true (by first|(with_reducible assumption)|assumption)
         obtain ⟨ad167,e167,hx167_0⟩:=Kd.at_int HR0.out x18_1 p167 q167
         cases e167
         replace hx167_0:=(HB.out.cell (World.block_lt_of_cell? w _ hx167_0)).trans hx167_0
         replace p167:=eq_true p167
         replace q167:=eq_true q167
         go_wp2
         go_loopg [7,25] k1 (fun kq v7 v25 w' => ∃ (x7_2 : Int) (x25_2 : Int),v7 = .int .i64 x7_2 ∧ v25 = .int .i64 x25_2 ∧ Aside0 (lpc_Chirp.l1 kq t163 x5_1 x18_1 x7_2 l0 (l0.length : Int) x18_1 (wrap64 (x18_1 + 1)) x25_2 = some r) ∧ Aside0 (kq ≤ k1) ∧ Aside0 (Kd.R (Kd.int .i64) 2 w' w.heap.size (fun _ => True) v165 x5_1) ∧ Aside0 (Below w.heap.size w w'))
         case atStart => exact ⟨(rd l0 x18_1),(0),(by first|rfl|(simp;done)|(simp [*];done)),(by first|rfl|(simp;done)|(simp [*];done)),H',⟨Nat.le_refl _⟩,⟨by (with_reducible repeat (first|apply ra_|apply rb_|apply rc_));exact HO_5.out⟩,⟨by repeat (first|(with_reducible first|exact HB.out|apply ba_|apply bb_|apply bc_)|exact HB.out)⟩⟩
         case round =>
          clear H'
          try clear c1
          try clear p1
          try clear q1
          try clear hx1
          try clear c2
          try clear p2
          try clear c3
          try clear c3b0
          try clear c3b1
          try clear c4
          try clear c5
          try clear c5b0
          try clear c5b1
          try clear c6
          try clear c6b0
          try clear c6b1
          try clear p6
          try clear c9
          try clear c9b0
          try clear c10
          try clear c10b0
          try clear c11
          try clear c11b0
          try clear hx167_0
          try clear p167
          try clear p2
          try clear q167
          obtain ⟨x7_2,x25_2,rfl,rfl,HA,HK2,HO_5,HB⟩:=hrel
          (try simp only [i64_w,i32_w])
          cases gk with
          | zero => exact absurd HA.out (by simp [lpc_Chirp.l1])
          | succ k2 =>
           have H:=HA.out
           clear HA
           simp only [lpc_Chirp.l1] at H
           by_cases c12 : x25_2 < (wrap64 (x18_1 + 1))
           ·rw [if_pos c12] at H
            have c12b0:=decide_eq_true c12
            clear c12
            replace H:=Option.bind_eq_some_iff.mp H
            obtain ⟨t168,A130,H⟩:=H
            (try dsimp only at H)
            have A13:=ak_ A130
            clear A130
            have H':=ak_ H
            clear H
            go_wp2_with (first|((with_reducible refine gate_callee (f:=25) rfl ?_);refine goesL_ (some 29) rfl rfl Try.func25 (by kernel_rfl) rfl #[.int .i64 x7_2,.int .i64 t163,.int .i64 16] rfl (by (try simp only [List.map_toArray,List.map_cons,List.map_nil]);first|done|rfl|(simp only [List.length_drop,List.length_take];rfl)) ?_;(with_reducible refine (fix_Mul.calls k2 x7_2 t163 16 t168 _ A13.out).mono ?_);rintro e w' ⟨rfl,⟨nd,rfl⟩⟩;refine ⟨_,rfl,?_⟩))
            go_roundg k2
            case measure => have:=HK1.out;have:=HK2.out;omega
            case rel => exact ⟨(t168),(wrap64 (x25_2 + 1)),(by first|rfl|(simp;done)|(simp [*];done)),(by first|rfl|(simp;done)|(simp [*];done)),H',⟨by have:=HK1.out;have:=HK2.out;omega⟩,⟨by (with_reducible repeat (first|apply ra_|apply rb_|apply rc_));exact HO_5.out⟩,⟨by repeat (first|(with_reducible first|exact HB.out|apply ba_|apply bb_|apply bc_)|exact HB.out)⟩⟩
           ·rw [if_neg c12] at H
            have c12b0:=decide_eq_false c12
            clear c12
            by_cases c14 : 0 ≤ x18_1
            ·rw [if_pos c14] at H
             have c14b0:=decide_eq_true c14
             clear c14
             by_cases c15 : x18_1 < (x5_1.length : Int)
             ·rw [if_pos c15] at H
              have c15b0:=decide_eq_true c15
              clear c15
              obtain ⟨y169,hy169⟩ : ∃ y_ : List Int,y_ = (x5_1.set (x18_1 : Int).toNat x7_2):=⟨_,rfl⟩
              replace H : (lpc_Chirp.l0 k2 t163 y169 l0 (l0.length : Int) (wrap64 (x18_1 + 1))) = some r:=by first|(rw [hy169];with_reducible exact H)|(have H2_:=(Option.bind_some _ _).symm.trans H;rw [hy169];with_reducible exact H2_)|(have H2_:=(Option.bind_some _ _).symm.trans H;with_reducible exact H2_)|with_reducible exact H|(rw [hy169];exact H)|exact H
              have Ny169:=ak_ hy169
              clear hy169
              have H':=ak_ H
              clear H
              have p16 : 0 ≤ (x18_1 : Int):=of_decide_eq_true (by first|(with_reducible assumption)|assumption)
              have q16 : (x18_1 : Int) < ((x5_1.length : Int) : Int):=of_decide_eq_true (by first|(with_reducible assumption)|assumption)
              obtain ⟨go16,co16,eo16,gb16,gl16,cl16,HG16⟩:=Kd.R_form HO_5.out (by omega)
              (first|cases eo16|(injection eo16 with ea_ en_ ec_;(first|subst ea_|(injection ea_ with ea_;subst ea_));subst ec_;clear en_))
              have GB16:=ak_ gb16
              have GG16:=ak_ HG16
              clear gb16 gl16 HG16
              obtain ⟨hx16_0,hf16_0⟩:=Kd.R_celln 0 HO_5.out (x18_1 : Int) p16 q16
              replace p16:=eq_true p16
              replace q16:=eq_true q16
              have HP17:=Kd.R_putg HO_5.out (x18_1 : Int) x7_2
              go_wp2_with (first|((with_reducible refine gate_store (t:=2) (p:=34) rfl ?_);refine store_event (t:=2) (p:=34) (v:=?vo_w18) (w1:=(wr.setCell ⟨go16,(x18_1 : Int).toNat,none⟩ (.int .i64 x7_2))) ?hg ?ho ?hn ?hr ?_;(case ho => rfl);(case hg => rfl);(case hn => rfl);(case hr => first|(go_simp;done)|(go_simp;rfl));intro w18 hw;have hg : wr.grownBy w18 (some go16):=(by rw [hw];exact HP17.2);have hp_ : Kd.R (Kd.int .i64) 2 w18 w.heap.size (fun _ => True) (.slice (some ⟨go16,0,none⟩) x5_1.length co16) y169:=(by rw [hw,Ny169.out];exact HP17.1);clear HP17;have n0_:=ak_ (hp_);have n1_:=ak_ ((by rw [hw];exact below_set (HB.out) GB16.out : Below w.heap.size w w18));clear HO_5;clear HB;have HO_5:=n0_;have HB:=n1_;clear n0_ n1_;clear hg hw hp_))
              go_roundg k2
              case measure => have:=HK1.out;have:=HK2.out;omega
              case rel => exact ⟨(y169),(wrap64 (x18_1 + 1)),(by first|rfl|(simp;done)|(simp [*];done)),H',⟨by have:=HK1.out;have:=HK2.out;omega⟩,⟨by (with_reducible repeat (first|apply ra_|apply rb_|apply rc_));exact HO_5.out⟩,⟨by repeat (first|(with_reducible first|exact HB.out|apply ba_|apply bb_|apply bc_)|exact HB.out)⟩⟩
             ·rw [if_neg c15] at H
              exact absurd H (by simp)
            ·rw [if_neg c14] at H
             exact absurd H (by simp)
        ·rw [if_neg c11] at H
         exact absurd H (by simp)
       ·rw [if_neg c10] at H
        exact absurd H (by simp)
      ·rw [if_neg c9] at H
       have c9b0:=decide_eq_false c9
       clear c9
       obtain rfl:=Option.some.inj H
       go_wp2
       go_ret
       exact ⟨_,by first|rfl|(simp [errW_none,errW_some] <;> rfl)|(simp [*,errW_none,errW_some] <;> rfl),by (with_reducible repeat (first|apply ra_|apply rb_|apply rc_));exact HO_5.out,by repeat (first|(with_reducible first|exact HB.out|apply ba_|apply bb_|apply bc_)|exact HB.out)⟩
   ·rw [if_neg c6] at H
    exact absurd H (by simp)
  ·rw [if_neg c5] at H
   exact absurd H (by simp)

end Go.Proofs.Ytllglpcpjeggcaa.P
