/- The machine side of the laws of one chapter, without conditions: each call of a Go function comes to what the Lean function of its name answers. Written for this claim by a program of the prover. -/
import Derived.Test.YtllglpcpjeggcaaPx0
import Derived.Test.YtllglpcpjeggcaaPx1
import Derived.Test.YtllglpcpjeggcaaPx5
import Derived.Test.YtllglpcpjeggcaaPx9
import Derived.Test.YtllglpcpjeggcaaPx20
import Derived.Test.YtllglpcpjeggcaaPx21
namespace Go.Proofs.Ytllglpcpjeggcaa.P
open Go.RowKit Go.Proofs.YtllglpcpjeggcaaW.PrintWords Go.Proofs.YtllglpcpjeggcaaW.PrintLast Go.Proofs.YtllglpcpjeggcaaW.PrintMore
attribute [local go_sem] max2_int min2_int max_two min_two max_three min_three max_four min_four   -- for this text's walks alone
set_option linter.unusedVariables false
set_option linter.unusedSimpArgs false

/-! ### lpc_From: function 30 -/
mutual
def lpc_From.j0 : Nat → List Int → Bool → Option (List Int × Int)
 | 0,_,_ => none
 | k + 1,x0,x22 => if x22 = true then (some (([] : List Int),1)) else (lpc_From.l0 k x0 ([] : List Int) ([] : List Int) x0 (x0.length : Int) 0)
def lpc_From.l0 : Nat → List Int → List Int → List Int → List Int → Int → Int → Option (List Int × Int)
 | 0,_,_,_,_,_,_ => none
 | k + 1,x0,x4,x5,x23,x24,x25 => if x25 < x24 then (if 0 ≤ x25 then (if x25 < (x23.length : Int) then ((fix_Clamp.f k (rd x23 x25) 0 32768).bind fun t317 => ((fix_Cos.f k t317).bind fun t318 => (if (Int.tmod x25 2) = 0 then (if x4.length < 17592186044416 then (lpc_From.l0 k x0 (x4 ++ [wrap64 (4 * t318)]) x5 x23 x24 (wrap64 (x25 + 1))) else (none)) else (if x5.length < 17592186044416 then (lpc_From.l0 k x0 x4 (x5 ++ [wrap64 (4 * t318)]) x23 x24 (wrap64 (x25 + 1))) else (none))))) else (none)) else (none)) else ((lpc_poly.f k x4).bind fun t325 => ((lpc_poly.f k x5).bind fun t328 => (if 0 ≤ (x0.length : Int) then (if ((x0.length : Int) : Int).toNat ≤ 35184372088832 then (lpc_From.l1 k t325 t328 (List.replicate ((x0.length : Int) : Int).toNat 0) (x4.length : Int) 0) else (none)) else (none))))
def lpc_From.l1 : Nat → List Int → List Int → List Int → Int → Int → Option (List Int × Int)
 | 0,_,_,_,_,_ => none
 | k + 1,x9,x10,x11,x54,x55 => if x55 < x54 then (if 0 ≤ (wrap64 (x55 + 1)) then (if (wrap64 (x55 + 1)) < (x9.length : Int) then (if 0 ≤ x55 then (if x55 < (x9.length : Int) then (if (wrap64 (x55 + 1)) < (x10.length : Int) then (if x55 < (x10.length : Int) then ((fix_Mul.f k (wrap64 ((wrap64 (-(wrap64 ((rd x10 (wrap64 (x55 + 1))) - (rd x10 x55))))) - (wrap64 ((rd x9 (wrap64 (x55 + 1))) + (rd x9 x55))))) 1 5).bind fun t338 => (if x55 < (x11.length : Int) then ((fix_Mul.f k (wrap64 ((wrap64 ((rd x10 (wrap64 (x55 + 1))) - (rd x10 x55))) - (wrap64 ((rd x9 (wrap64 (x55 + 1))) + (rd x9 x55))))) 1 5).bind fun t340 => (if 0 ≤ (wrap64 ((wrap64 ((x11.length : Int) - 1)) - x55)) then (if (wrap64 ((wrap64 ((x11.length : Int) - 1)) - x55)) < (x11.length : Int) then (lpc_From.l1 k x9 x10 ((x11.set (x55 : Int).toNat t338).set ((wrap64 ((wrap64 ((x11.length : Int) - 1)) - x55)) : Int).toNat t340) x54 (wrap64 (x55 + 1))) else (none)) else (none))) else (none))) else (none)) else (none)) else (none)) else (none)) else (none)) else (none)) else ((lpc_Fit.f k x11).bind fun t342 => (some (t342,0)))
end
def lpc_From.f (k : Nat) (l0 : List Int) : Option (List Int × Int):=if (l0.length : Int) = 10 then (lpc_From.j0 k l0 false) else (lpc_From.j0 k l0 ((l0.length : Int) != 16))
theorem lpc_From.mono_l : ∀ k,(∀ y0 y1,LeO (lpc_From.j0 k y0 y1) (lpc_From.j0 (k + 1) y0 y1)) ∧ (∀ y0 y1 y2 y3 y4 y5,LeO (lpc_From.l0 k y0 y1 y2 y3 y4 y5) (lpc_From.l0 (k + 1) y0 y1 y2 y3 y4 y5)) ∧ (∀ y0 y1 y2 y3 y4,LeO (lpc_From.l1 k y0 y1 y2 y3 y4) (lpc_From.l1 (k + 1) y0 y1 y2 y3 y4))
 | 0 => ⟨fun _ _ r h => by simp [lpc_From.j0] at h,fun _ _ _ _ _ _ r h => by simp [lpc_From.l0] at h,fun _ _ _ _ _ r h => by simp [lpc_From.l1] at h⟩
 | k + 1 => by
  obtain ⟨ih0,ih1,ih2⟩:=lpc_From.mono_l k
  refine ⟨?_,?_,?_⟩
  all_goals (intros;first|unfold lpc_From.j0|unfold lpc_From.l0|unfold lpc_From.l1)
  all_goals (repeat' first|(with_reducible first|exact ih0 _ _|exact ih1 _ _ _ _ _ _|exact ih2 _ _ _ _ _|exact fix_Clamp.mono _ _ _ _|exact fix_Cos.mono _ _|exact fix_Mul.mono _ _ _ _|exact lpc_Fit.mono _ _|exact lpc_poly.mono _ _|exact LeO.refl _|exact LeO.none _|refine LeO.ite ?_ ?_|refine LeO.bind ?_ (fun _ => ?_))|exact ih0 _ _|exact ih1 _ _ _ _ _ _|exact ih2 _ _ _ _ _|exact fix_Clamp.mono _ _ _ _|exact fix_Cos.mono _ _|exact fix_Mul.mono _ _ _ _|exact lpc_Fit.mono _ _|exact lpc_poly.mono _ _|exact LeO.none _|refine LeO.ite ?_ ?_|refine LeO.bind ?_ (fun _ => ?_))
theorem lpc_From.mono : ∀ a0 k,LeO (lpc_From.f k a0) (lpc_From.f (k + 1) a0):=by
 intro a0 k
 obtain ⟨ih0,ih1,ih2⟩:=lpc_From.mono_l k
 unfold lpc_From.f
 repeat' first|(with_reducible first|exact ih0 _ _|exact ih1 _ _ _ _ _ _|exact ih2 _ _ _ _ _|exact fix_Clamp.mono _ _ _ _|exact fix_Cos.mono _ _|exact fix_Mul.mono _ _ _ _|exact lpc_Fit.mono _ _|exact lpc_poly.mono _ _|exact LeO.refl _|exact LeO.none _|refine LeO.ite ?_ ?_|refine LeO.bind ?_ (fun _ => ?_))|exact ih0 _ _|exact ih1 _ _ _ _ _ _|exact ih2 _ _ _ _ _|exact fix_Clamp.mono _ _ _ _|exact fix_Cos.mono _ _|exact fix_Mul.mono _ _ _ _|exact lpc_Fit.mono _ _|exact lpc_poly.mono _ _|exact LeO.none _|refine LeO.ite ?_ ?_|refine LeO.bind ?_ (fun _ => ?_)
set_option maxHeartbeats 8000000 in
set_option maxRecDepth 100000 in
theorem lpc_From.calls (k : Nat) (A0 : Option Addr) (c0 : Nat) (l0 : List Int) (r1 : List Int) (r2 : Int) (w : World) (hr0 : Kd.C (Kd.int .i64) w A0 l0.length l0) (hc0 : l0.length ≤ c0) (h : lpc_From.f k l0 = some (r1,r2)) :
  Calls Try.prog 30 #[.slice A0 l0.length c0] w fun e w' => ∃ v0_ : Value,e = .returned (.tuple #[v0_,.int .i64 r2]) ∧ Kd.R (Kd.int .i64) 2 w' w.heap.size (fun _ => True) v0_ r1 ∧ Below w.heap.size w w':=by
 have HR0:=ak_ hr0
 have HC0:=ak_ hc0
 clear hr0 hc0
 have HB:=ak_ (Below.refl w.heap.size w)
 have H : (if (l0.length : Int) = 10 then (lpc_From.j0 k l0 false) else (lpc_From.j0 k l0 ((l0.length : Int) != 16))) = some (r1,r2):=h
 clear h
 have HC2:=ak_ H
 clear H
 go_enter Try.func30,Try.ntmps30
 go_upto_region 1 with (fail)
 repeat (go_quiet (fail);go_upto_region 1 with (fail))
 go_cut [22] (fun v22 wc => ∃ (kq : Nat) (x22_1 : Bool),v22 = .bool x22_1 ∧ Aside0 (lpc_From.j0 kq l0 x22_1 = some (r1,r2)) ∧ Aside0 (kq ≤ k) ∧ Aside0 (Below w.heap.size w wc))
 case first =>
  have H:=HC2.out
  clear HC2
  by_cases c3 : (l0.length : Int) = 10
  ·rw [if_pos c3] at H
   have c3b0 : ((l0.length : Int) == 10) = true:=beq_iff_eq.mpr c3
   have c3b1 : ((l0.length : Int) != 10) = false:=bne_eq_false_iff_eq.mpr c3
   clear c3
   (first|rw [c3b0]|(simp only [i64_w,i32_w];rw [c3b0])|skip)
   have H':=ak_ H
   clear H
   go_wp2
   repeat (go_quiet (fail);try go_wp2)
   go_meet
   case rel => exact ⟨_,(false),(by first|rfl|(simp;done)|(simp [*];done)),H',⟨by first|omega|exact Nat.le_refl _⟩,⟨by repeat (first|(with_reducible first|exact HB.out|apply ba_|apply bb_|apply bc_)|exact HB.out)⟩⟩
  ·rw [if_neg c3] at H
   have c3b0 : ((l0.length : Int) == 10) = false:=beq_eq_false_iff_ne.mpr c3
   have c3b1 : ((l0.length : Int) != 10) = true:=bne_iff_ne.mpr c3
   (first|rw [c3b0]|(simp only [i64_w,i32_w];rw [c3b0])|skip)
   have H':=ak_ H
   clear H
   go_wp2
   repeat (go_quiet (fail);try go_wp2)
   go_meet
   case rel => exact ⟨_,(((l0.length : Int) != 16)),(by first|rfl|(simp;done)|(simp [*];done)),H',⟨by first|omega|exact Nat.le_refl _⟩,⟨by repeat (first|(with_reducible first|exact HB.out|apply ba_|apply bb_|apply bc_)|exact HB.out)⟩⟩
 case rest =>
  clear HC2
  try clear p2
  try clear c3
  try clear c3b0
  try clear c3b1
  obtain ⟨kq,x22_1,rfl,HA,HJ1,HB⟩:=hcut
  (try simp only [i64_w,i32_w])
  cases kq with
  | zero => exact absurd HA.out (by simp [lpc_From.j0])
  | succ kj1 =>
   have H:=HA.out
   clear HA
   simp only [lpc_From.j0] at H
   by_cases c4 : x22_1 = true
   ·subst c4
    have H1 : (some (([] : List Int),1)) = some (r1,r2):=by rw [if_pos rfl] at H;exact H
    clear H
    have H:=H1
    clear H1
    simp only [Option.some.injEq,Prod.mk.injEq] at H
    obtain ⟨rfl,rfl⟩:=H
    go_wp2
    repeat (go_quiet (fail);try go_wp2)
    go_ret2
    exact ⟨_,by first|rfl|(simp [errW_none,errW_some] <;> rfl)|(simp [*,errW_none,errW_some] <;> rfl),by first|exact Kd.R_nil _ _ _ _ _|exact Kd.N_nil _ _ _ _ _|exact Kd.V_nil _ _ _ _ _|exact Kd.Q_nil _ _ _ _ _|exact Kd.S_nil _ _ _ _ _,by repeat (first|(with_reducible first|exact HB.out|apply ba_|apply bb_|apply bc_)|exact HB.out)⟩
   ·replace c4:=Bool.eq_false_iff.mpr c4
    subst c4
    have H1 : (lpc_From.l0 kj1 l0 ([] : List Int) ([] : List Int) l0 (l0.length : Int) 0) = some (r1,r2):=by rw [if_neg (show ¬ (false = true) by decide)] at H;exact H
    clear H
    have H:=H1
    clear H1
    have H':=ak_ H
    clear H
    go_wp2
    repeat (go_quiet (fail);try go_wp2)
    go_loopg [4,5,25] kj1 (fun kq v4 v5 v25 w' => ∃ (x4_2 : List Int) (x5_2 : List Int) (x25_2 : Int),v25 = .int .i64 x25_2 ∧ Aside0 (lpc_From.l0 kq l0 x4_2 x5_2 l0 (l0.length : Int) x25_2 = some (r1,r2)) ∧ Aside0 (kq ≤ kj1) ∧ Aside0 (Kd.R (Kd.int .i64) 2 w' w.heap.size (fun k_ => some k_ ≠ (v5 : Value).ownBlock) v4 x4_2) ∧ Aside0 (Kd.R (Kd.int .i64) 2 w' w.heap.size (fun k_ => some k_ ≠ (v4 : Value).ownBlock) v5 x5_2) ∧ Aside0 (Below w.heap.size w w'))
    case atStart => exact ⟨(([] : List Int)),(([] : List Int)),(0),(by first|rfl|(simp;done)|(simp [*];done)),H',⟨Nat.le_refl _⟩,⟨by first|exact Kd.R_nil _ _ _ _ _|exact Kd.N_nil _ _ _ _ _|exact Kd.V_nil _ _ _ _ _|exact Kd.Q_nil _ _ _ _ _|exact Kd.S_nil _ _ _ _ _⟩,⟨by first|exact Kd.R_nil _ _ _ _ _|exact Kd.N_nil _ _ _ _ _|exact Kd.V_nil _ _ _ _ _|exact Kd.Q_nil _ _ _ _ _|exact Kd.S_nil _ _ _ _ _⟩,⟨by repeat (first|(with_reducible first|exact HB.out|apply ba_|apply bb_|apply bc_)|exact HB.out)⟩⟩
    case round =>
     clear H'
     try clear p2
     try clear c3
     try clear c3b0
     try clear c3b1
     try clear c4
     try clear p2
     obtain ⟨x4_2,x5_2,x25_2,rfl,HA,HK2,HO_4,HO_5,HB⟩:=hrel
     (try simp only [i64_w,i32_w])
     cases gk with
     | zero => exact absurd HA.out (by simp [lpc_From.l0])
     | succ k2 =>
      have H:=HA.out
      clear HA
      simp only [lpc_From.l0] at H
      by_cases c5 : x25_2 < (l0.length : Int)
      ·rw [if_pos c5] at H
       have c5b0:=decide_eq_true c5
       clear c5
       by_cases c6 : 0 ≤ x25_2
       ·rw [if_pos c6] at H
        have c6b0:=decide_eq_true c6
        clear c6
        by_cases c7 : x25_2 < (l0.length : Int)
        ·rw [if_pos c7] at H
         have c7b0:=decide_eq_true c7
         clear c7
         replace H:=Option.bind_eq_some_iff.mp H
         obtain ⟨t317,A80,H⟩:=H
         (try dsimp only at H)
         have A8:=ak_ A80
         clear A80
         replace H:=Option.bind_eq_some_iff.mp H
         obtain ⟨t318,A90,H⟩:=H
         (try dsimp only at H)
         have A9:=ak_ A90
         clear A90
         by_cases c10 : (Int.tmod x25_2 2) = 0
         ·rw [if_pos c10] at H
          have c10b0 : ((Int.tmod x25_2 2) == 0) = true:=beq_iff_eq.mpr c10
          have c10b1 : ((Int.tmod x25_2 2) != 0) = false:=bne_eq_false_iff_eq.mpr c10
          clear c10
          by_cases c11 : x4_2.length < 17592186044416
          ·rw [if_pos c11] at H
           have LMc11:=ak_ c11
           clear c11
           obtain ⟨y319,hy319⟩ : ∃ y_ : List Int,y_ = (x4_2 ++ [wrap64 (4 * t318)]):=⟨_,rfl⟩
           replace H : (lpc_From.l0 k2 l0 y319 x5_2 l0 (l0.length : Int) (wrap64 (x25_2 + 1))) = some (r1,r2):=by first|(rw [hy319];with_reducible exact H)|(have H2_:=(Option.bind_some _ _).symm.trans H;rw [hy319];with_reducible exact H2_)|(have H2_:=(Option.bind_some _ _).symm.trans H;with_reducible exact H2_)|with_reducible exact H|(rw [hy319];exact H)|exact H
           have Ny319:=ak_ hy319
           clear hy319
           have H':=ak_ H
           clear H
           have p316 : 0 ≤ (x25_2 : Int):=of_decide_eq_true (by first|(with_reducible assumption)|assumption)
           have q316 : x25_2 < (l0.length : Int):=of_decide_eq_true (by first|(with_reducible assumption)|assumption)
           obtain ⟨ad316,e316,hx316_0⟩:=Kd.at_int HR0.out x25_2 p316 q316
           cases e316
           replace hx316_0:=(HB.out.cell (World.block_lt_of_cell? w _ hx316_0)).trans hx316_0
           replace p316:=eq_true p316
           replace q316:=eq_true q316
           go_wp2_with (first|(go_at_call 26;(with_reducible refine (fix_Clamp.calls k2 (rd l0 x25_2) 0 32768 t317 _ A8.out).mono ?_);rintro e w' ⟨rfl,⟨nd,rfl⟩⟩;(try first|exact ⟨rfl,_,World.drewN_drewN _ _ _⟩|exact ⟨rfl,_,Eq.trans (World.drewN_drewN _ _ _) (congrArg (World.drewN _) (Nat.add_assoc _ _ _))⟩))|(go_at_call 46;(with_reducible refine (fix_Cos.calls k2 t317 t318 _ A9.out).mono ?_);rintro e w12 ⟨rfl,hb⟩;have n0_:=ak_ (Kd.R_below (by (with_reducible repeat (first|apply ra_|apply rb_|apply rc_));exact HO_4.out) hb);have n1_:=ak_ (Kd.R_below (by (with_reducible repeat (first|apply ra_|apply rb_|apply rc_));exact HO_5.out) hb);have n2_:=ak_ (below_step (by repeat (first|(with_reducible first|exact HB.out|apply ba_|apply bb_|apply bc_)|exact HB.out)) hb);clear HO_4;clear HO_5;clear HB;have HO_4:=n0_;have HO_5:=n1_;have HB:=n2_;clear n0_ n1_ n2_;(try clear hb))|((with_reducible refine gate_builtin (b:=.append) (xs:=#[.tmp 37,.tmp 39]) rfl ?_);(try (refine gate_guard (by rfl) ?_;dsimp only));at_builtin;refine Kd.R_append (Kd.int .i64) (w0:=w) w.heap.size rfl (.tmp 37) (.tmp 39) 23 2 (.int .i64 0) 8 rfl Try.underlying23 info2 rfl (by decide) (by omega) u4 x4_2 (wrap64 (4 * t318)) [.int .i64 (wrap64 (4 * t318))] (fun k_ => some k_ ≠ (u5 : Value).ownBlock) (fun _ => False) rfl rfl ?aP (fun _ hk => hk.elim) ?aF ?aO ?aB ?aS ?aL ?_;(case aP => exact rfl);(case aB => exact (by repeat (first|(with_reducible first|exact HB.out|apply ba_|apply bb_|apply bc_)|exact HB.out)));(case aF => exact (fun k_ hk => Kd.fresh' (Kd.R_lt (by (with_reducible repeat (first|apply ra_|apply rb_|apply rc_));exact HO_5.out)) k_ hk));(case aO => exact (by (with_reducible repeat (first|apply ra_|apply rb_|apply rc_));exact HO_4.out));(case aS => exact (below_size (by repeat (first|(with_reducible first|exact HB.out|apply ba_|apply bb_|apply bc_)|exact HB.out))));(case aL => have:=LMc11.out;omega);intro v320 w13 ho hb hg hat;rw [← Ny319.out] at ho;have n0_:=ak_ (Kd.R_after (ok:=(fun _ => True)) (by (with_reducible repeat (first|apply ra_|apply rb_|apply rc_));exact Kd.R_mono HO_5.out (fun _ hk => ⟨trivial,hk⟩)) hg hat);have n1_:=ak_ (hb);have n2_:=ak_ (ho);clear HO_5;clear HB;clear HO_4;have HO_5:=n0_;have HB:=n1_;have HO321:=n2_;clear n0_ n1_ n2_;clear ho hb hg hat))
           repeat (go_quiet (first|(go_at_call 26;(with_reducible refine (fix_Clamp.calls k2 (rd l0 x25_2) 0 32768 t317 _ A8.out).mono ?_);rintro e w' ⟨rfl,⟨nd,rfl⟩⟩;(try first|exact ⟨rfl,_,World.drewN_drewN _ _ _⟩|exact ⟨rfl,_,Eq.trans (World.drewN_drewN _ _ _) (congrArg (World.drewN _) (Nat.add_assoc _ _ _))⟩))|(go_at_call 46;(with_reducible refine (fix_Cos.calls k2 t317 t318 _ A9.out).mono ?_);rintro e w12 ⟨rfl,hb⟩;have n0_:=ak_ (Kd.R_below (by (with_reducible repeat (first|apply ra_|apply rb_|apply rc_));exact HO_4.out) hb);have n1_:=ak_ (Kd.R_below (by (with_reducible repeat (first|apply ra_|apply rb_|apply rc_));exact HO_5.out) hb);have n2_:=ak_ (below_step (by repeat (first|(with_reducible first|exact HB.out|apply ba_|apply bb_|apply bc_)|exact HB.out)) hb);clear HO_4;clear HO_5;clear HB;have HO_4:=n0_;have HO_5:=n1_;have HB:=n2_;clear n0_ n1_ n2_;(try clear hb))|((with_reducible refine gate_builtin (b:=.append) (xs:=#[.tmp 37,.tmp 39]) rfl ?_);(try (refine gate_guard (by rfl) ?_;dsimp only));at_builtin;refine Kd.R_append (Kd.int .i64) (w0:=w) w.heap.size rfl (.tmp 37) (.tmp 39) 23 2 (.int .i64 0) 8 rfl Try.underlying23 info2 rfl (by decide) (by omega) u4 x4_2 (wrap64 (4 * t318)) [.int .i64 (wrap64 (4 * t318))] (fun k_ => some k_ ≠ (u5 : Value).ownBlock) (fun _ => False) rfl rfl ?aP (fun _ hk => hk.elim) ?aF ?aO ?aB ?aS ?aL ?_;(case aP => exact rfl);(case aB => exact (by repeat (first|(with_reducible first|exact HB.out|apply ba_|apply bb_|apply bc_)|exact HB.out)));(case aF => exact (fun k_ hk => Kd.fresh' (Kd.R_lt (by (with_reducible repeat (first|apply ra_|apply rb_|apply rc_));exact HO_5.out)) k_ hk));(case aO => exact (by (with_reducible repeat (first|apply ra_|apply rb_|apply rc_));exact HO_4.out));(case aS => exact (below_size (by repeat (first|(with_reducible first|exact HB.out|apply ba_|apply bb_|apply bc_)|exact HB.out))));(case aL => have:=LMc11.out;omega);intro v320 w13 ho hb hg hat;rw [← Ny319.out] at ho;have n0_:=ak_ (Kd.R_after (ok:=(fun _ => True)) (by (with_reducible repeat (first|apply ra_|apply rb_|apply rc_));exact Kd.R_mono HO_5.out (fun _ hk => ⟨trivial,hk⟩)) hg hat);have n1_:=ak_ (hb);have n2_:=ak_ (ho);clear HO_5;clear HB;clear HO_4;have HO_5:=n0_;have HB:=n1_;have HO321:=n2_;clear n0_ n1_ n2_;clear ho hb hg hat));try go_wp2_with (first|(go_at_call 26;(with_reducible refine (fix_Clamp.calls k2 (rd l0 x25_2) 0 32768 t317 _ A8.out).mono ?_);rintro e w' ⟨rfl,⟨nd,rfl⟩⟩;(try first|exact ⟨rfl,_,World.drewN_drewN _ _ _⟩|exact ⟨rfl,_,Eq.trans (World.drewN_drewN _ _ _) (congrArg (World.drewN _) (Nat.add_assoc _ _ _))⟩))|(go_at_call 46;(with_reducible refine (fix_Cos.calls k2 t317 t318 _ A9.out).mono ?_);rintro e w12 ⟨rfl,hb⟩;have n0_:=ak_ (Kd.R_below (by (with_reducible repeat (first|apply ra_|apply rb_|apply rc_));exact HO_4.out) hb);have n1_:=ak_ (Kd.R_below (by (with_reducible repeat (first|apply ra_|apply rb_|apply rc_));exact HO_5.out) hb);have n2_:=ak_ (below_step (by repeat (first|(with_reducible first|exact HB.out|apply ba_|apply bb_|apply bc_)|exact HB.out)) hb);clear HO_4;clear HO_5;clear HB;have HO_4:=n0_;have HO_5:=n1_;have HB:=n2_;clear n0_ n1_ n2_;(try clear hb))|((with_reducible refine gate_builtin (b:=.append) (xs:=#[.tmp 37,.tmp 39]) rfl ?_);(try (refine gate_guard (by rfl) ?_;dsimp only));at_builtin;refine Kd.R_append (Kd.int .i64) (w0:=w) w.heap.size rfl (.tmp 37) (.tmp 39) 23 2 (.int .i64 0) 8 rfl Try.underlying23 info2 rfl (by decide) (by omega) u4 x4_2 (wrap64 (4 * t318)) [.int .i64 (wrap64 (4 * t318))] (fun k_ => some k_ ≠ (u5 : Value).ownBlock) (fun _ => False) rfl rfl ?aP (fun _ hk => hk.elim) ?aF ?aO ?aB ?aS ?aL ?_;(case aP => exact rfl);(case aB => exact (by repeat (first|(with_reducible first|exact HB.out|apply ba_|apply bb_|apply bc_)|exact HB.out)));(case aF => exact (fun k_ hk => Kd.fresh' (Kd.R_lt (by (with_reducible repeat (first|apply ra_|apply rb_|apply rc_));exact HO_5.out)) k_ hk));(case aO => exact (by (with_reducible repeat (first|apply ra_|apply rb_|apply rc_));exact HO_4.out));(case aS => exact (below_size (by repeat (first|(with_reducible first|exact HB.out|apply ba_|apply bb_|apply bc_)|exact HB.out))));(case aL => have:=LMc11.out;omega);intro v320 w13 ho hb hg hat;rw [← Ny319.out] at ho;have n0_:=ak_ (Kd.R_after (ok:=(fun _ => True)) (by (with_reducible repeat (first|apply ra_|apply rb_|apply rc_));exact Kd.R_mono HO_5.out (fun _ hk => ⟨trivial,hk⟩)) hg hat);have n1_:=ak_ (hb);have n2_:=ak_ (ho);clear HO_5;clear HB;clear HO_4;have HO_5:=n0_;have HB:=n1_;have HO321:=n2_;clear n0_ n1_ n2_;clear ho hb hg hat)))
           go_roundg k2
           case measure => have:=HJ1.out;have:=HK2.out;omega
           case rel => exact ⟨(y319),(x5_2),(wrap64 (x25_2 + 1)),(by first|rfl|(simp;done)|(simp [*];done)),H',⟨by have:=HJ1.out;have:=HK2.out;omega⟩,⟨by (with_reducible repeat (first|apply ra_|apply rb_|apply rc_));exact HO321.out⟩,⟨by (with_reducible repeat (first|apply ra_|apply rb_|apply rc_));exact Kd.R_mono HO_5.out (fun _ hk => hk.2)⟩,⟨by repeat (first|(with_reducible first|exact HB.out|apply ba_|apply bb_|apply bc_)|exact HB.out)⟩⟩
          ·rw [if_neg c11] at H
           exact absurd H (by simp)
         ·rw [if_neg c10] at H
          have c10b0 : ((Int.tmod x25_2 2) == 0) = false:=beq_eq_false_iff_ne.mpr c10
          have c10b1 : ((Int.tmod x25_2 2) != 0) = true:=bne_iff_ne.mpr c10
          by_cases c14 : x5_2.length < 17592186044416
          ·rw [if_pos c14] at H
           have LMc14:=ak_ c14
           clear c14
           obtain ⟨y322,hy322⟩ : ∃ y_ : List Int,y_ = (x5_2 ++ [wrap64 (4 * t318)]):=⟨_,rfl⟩
           replace H : (lpc_From.l0 k2 l0 x4_2 y322 l0 (l0.length : Int) (wrap64 (x25_2 + 1))) = some (r1,r2):=by first|(rw [hy322];with_reducible exact H)|(have H2_:=(Option.bind_some _ _).symm.trans H;rw [hy322];with_reducible exact H2_)|(have H2_:=(Option.bind_some _ _).symm.trans H;with_reducible exact H2_)|with_reducible exact H|(rw [hy322];exact H)|exact H
           have Ny322:=ak_ hy322
           clear hy322
           have H':=ak_ H
           clear H
           have p316 : 0 ≤ (x25_2 : Int):=of_decide_eq_true (by first|(with_reducible assumption)|assumption)
           have q316 : x25_2 < (l0.length : Int):=of_decide_eq_true (by first|(with_reducible assumption)|assumption)
           obtain ⟨ad316,e316,hx316_0⟩:=Kd.at_int HR0.out x25_2 p316 q316
           cases e316
           replace hx316_0:=(HB.out.cell (World.block_lt_of_cell? w _ hx316_0)).trans hx316_0
           replace p316:=eq_true p316
           replace q316:=eq_true q316
           go_wp2_with (first|(go_at_call 26;(with_reducible refine (fix_Clamp.calls k2 (rd l0 x25_2) 0 32768 t317 _ A8.out).mono ?_);rintro e w' ⟨rfl,⟨nd,rfl⟩⟩;(try first|exact ⟨rfl,_,World.drewN_drewN _ _ _⟩|exact ⟨rfl,_,Eq.trans (World.drewN_drewN _ _ _) (congrArg (World.drewN _) (Nat.add_assoc _ _ _))⟩))|(go_at_call 46;(with_reducible refine (fix_Cos.calls k2 t317 t318 _ A9.out).mono ?_);rintro e w15 ⟨rfl,hb⟩;have n0_:=ak_ (Kd.R_below (by (with_reducible repeat (first|apply ra_|apply rb_|apply rc_));exact HO_4.out) hb);have n1_:=ak_ (Kd.R_below (by (with_reducible repeat (first|apply ra_|apply rb_|apply rc_));exact HO_5.out) hb);have n2_:=ak_ (below_step (by repeat (first|(with_reducible first|exact HB.out|apply ba_|apply bb_|apply bc_)|exact HB.out)) hb);clear HO_4;clear HO_5;clear HB;have HO_4:=n0_;have HO_5:=n1_;have HB:=n2_;clear n0_ n1_ n2_;(try clear hb))|((with_reducible refine gate_builtin (b:=.append) (xs:=#[.tmp 41,.tmp 43]) rfl ?_);(try (refine gate_guard (by rfl) ?_;dsimp only));at_builtin;refine Kd.R_append (Kd.int .i64) (w0:=w) w.heap.size rfl (.tmp 41) (.tmp 43) 23 2 (.int .i64 0) 8 rfl Try.underlying23 info2 rfl (by decide) (by omega) u5 x5_2 (wrap64 (4 * t318)) [.int .i64 (wrap64 (4 * t318))] (fun k_ => some k_ ≠ (u4 : Value).ownBlock) (fun _ => False) rfl rfl ?aP (fun _ hk => hk.elim) ?aF ?aO ?aB ?aS ?aL ?_;(case aP => exact rfl);(case aB => exact (by repeat (first|(with_reducible first|exact HB.out|apply ba_|apply bb_|apply bc_)|exact HB.out)));(case aF => exact (fun k_ hk => Kd.fresh' (Kd.R_lt (by (with_reducible repeat (first|apply ra_|apply rb_|apply rc_));exact HO_4.out)) k_ hk));(case aO => exact (by (with_reducible repeat (first|apply ra_|apply rb_|apply rc_));exact HO_5.out));(case aS => exact (below_size (by repeat (first|(with_reducible first|exact HB.out|apply ba_|apply bb_|apply bc_)|exact HB.out))));(case aL => have:=LMc14.out;omega);intro v323 w16 ho hb hg hat;rw [← Ny322.out] at ho;have n0_:=ak_ (Kd.R_after (ok:=(fun _ => True)) (by (with_reducible repeat (first|apply ra_|apply rb_|apply rc_));exact Kd.R_mono HO_4.out (fun _ hk => ⟨trivial,hk⟩)) hg hat);have n1_:=ak_ (hb);have n2_:=ak_ (ho);clear HO_4;clear HB;clear HO_5;have HO_4:=n0_;have HB:=n1_;have HO324:=n2_;clear n0_ n1_ n2_;clear ho hb hg hat))
           repeat (go_quiet (first|(go_at_call 26;(with_reducible refine (fix_Clamp.calls k2 (rd l0 x25_2) 0 32768 t317 _ A8.out).mono ?_);rintro e w' ⟨rfl,⟨nd,rfl⟩⟩;(try first|exact ⟨rfl,_,World.drewN_drewN _ _ _⟩|exact ⟨rfl,_,Eq.trans (World.drewN_drewN _ _ _) (congrArg (World.drewN _) (Nat.add_assoc _ _ _))⟩))|(go_at_call 46;(with_reducible refine (fix_Cos.calls k2 t317 t318 _ A9.out).mono ?_);rintro e w15 ⟨rfl,hb⟩;have n0_:=ak_ (Kd.R_below (by (with_reducible repeat (first|apply ra_|apply rb_|apply rc_));exact HO_4.out) hb);have n1_:=ak_ (Kd.R_below (by (with_reducible repeat (first|apply ra_|apply rb_|apply rc_));exact HO_5.out) hb);have n2_:=ak_ (below_step (by repeat (first|(with_reducible first|exact HB.out|apply ba_|apply bb_|apply bc_)|exact HB.out)) hb);clear HO_4;clear HO_5;clear HB;have HO_4:=n0_;have HO_5:=n1_;have HB:=n2_;clear n0_ n1_ n2_;(try clear hb))|((with_reducible refine gate_builtin (b:=.append) (xs:=#[.tmp 41,.tmp 43]) rfl ?_);(try (refine gate_guard (by rfl) ?_;dsimp only));at_builtin;refine Kd.R_append (Kd.int .i64) (w0:=w) w.heap.size rfl (.tmp 41) (.tmp 43) 23 2 (.int .i64 0) 8 rfl Try.underlying23 info2 rfl (by decide) (by omega) u5 x5_2 (wrap64 (4 * t318)) [.int .i64 (wrap64 (4 * t318))] (fun k_ => some k_ ≠ (u4 : Value).ownBlock) (fun _ => False) rfl rfl ?aP (fun _ hk => hk.elim) ?aF ?aO ?aB ?aS ?aL ?_;(case aP => exact rfl);(case aB => exact (by repeat (first|(with_reducible first|exact HB.out|apply ba_|apply bb_|apply bc_)|exact HB.out)));(case aF => exact (fun k_ hk => Kd.fresh' (Kd.R_lt (by (with_reducible repeat (first|apply ra_|apply rb_|apply rc_));exact HO_4.out)) k_ hk));(case aO => exact (by (with_reducible repeat (first|apply ra_|apply rb_|apply rc_));exact HO_5.out));(case aS => exact (below_size (by repeat (first|(with_reducible first|exact HB.out|apply ba_|apply bb_|apply bc_)|exact HB.out))));(case aL => have:=LMc14.out;omega);intro v323 w16 ho hb hg hat;rw [← Ny322.out] at ho;have n0_:=ak_ (Kd.R_after (ok:=(fun _ => True)) (by (with_reducible repeat (first|apply ra_|apply rb_|apply rc_));exact Kd.R_mono HO_4.out (fun _ hk => ⟨trivial,hk⟩)) hg hat);have n1_:=ak_ (hb);have n2_:=ak_ (ho);clear HO_4;clear HB;clear HO_5;have HO_4:=n0_;have HB:=n1_;have HO324:=n2_;clear n0_ n1_ n2_;clear ho hb hg hat));try go_wp2_with (first|(go_at_call 26;(with_reducible refine (fix_Clamp.calls k2 (rd l0 x25_2) 0 32768 t317 _ A8.out).mono ?_);rintro e w' ⟨rfl,⟨nd,rfl⟩⟩;(try first|exact ⟨rfl,_,World.drewN_drewN _ _ _⟩|exact ⟨rfl,_,Eq.trans (World.drewN_drewN _ _ _) (congrArg (World.drewN _) (Nat.add_assoc _ _ _))⟩))|(go_at_call 46;(with_reducible refine (fix_Cos.calls k2 t317 t318 _ A9.out).mono ?_);rintro e w15 ⟨rfl,hb⟩;have n0_:=ak_ (Kd.R_below (by (with_reducible repeat (first|apply ra_|apply rb_|apply rc_));exact HO_4.out) hb);have n1_:=ak_ (Kd.R_below (by (with_reducible repeat (first|apply ra_|apply rb_|apply rc_));exact HO_5.out) hb);have n2_:=ak_ (below_step (by repeat (first|(with_reducible first|exact HB.out|apply ba_|apply bb_|apply bc_)|exact HB.out)) hb);clear HO_4;clear HO_5;clear HB;have HO_4:=n0_;have HO_5:=n1_;have HB:=n2_;clear n0_ n1_ n2_;(try clear hb))|((with_reducible refine gate_builtin (b:=.append) (xs:=#[.tmp 41,.tmp 43]) rfl ?_);(try (refine gate_guard (by rfl) ?_;dsimp only));at_builtin;refine Kd.R_append (Kd.int .i64) (w0:=w) w.heap.size rfl (.tmp 41) (.tmp 43) 23 2 (.int .i64 0) 8 rfl Try.underlying23 info2 rfl (by decide) (by omega) u5 x5_2 (wrap64 (4 * t318)) [.int .i64 (wrap64 (4 * t318))] (fun k_ => some k_ ≠ (u4 : Value).ownBlock) (fun _ => False) rfl rfl ?aP (fun _ hk => hk.elim) ?aF ?aO ?aB ?aS ?aL ?_;(case aP => exact rfl);(case aB => exact (by repeat (first|(with_reducible first|exact HB.out|apply ba_|apply bb_|apply bc_)|exact HB.out)));(case aF => exact (fun k_ hk => Kd.fresh' (Kd.R_lt (by (with_reducible repeat (first|apply ra_|apply rb_|apply rc_));exact HO_4.out)) k_ hk));(case aO => exact (by (with_reducible repeat (first|apply ra_|apply rb_|apply rc_));exact HO_5.out));(case aS => exact (below_size (by repeat (first|(with_reducible first|exact HB.out|apply ba_|apply bb_|apply bc_)|exact HB.out))));(case aL => have:=LMc14.out;omega);intro v323 w16 ho hb hg hat;rw [← Ny322.out] at ho;have n0_:=ak_ (Kd.R_after (ok:=(fun _ => True)) (by (with_reducible repeat (first|apply ra_|apply rb_|apply rc_));exact Kd.R_mono HO_4.out (fun _ hk => ⟨trivial,hk⟩)) hg hat);have n1_:=ak_ (hb);have n2_:=ak_ (ho);clear HO_4;clear HB;clear HO_5;have HO_4:=n0_;have HB:=n1_;have HO324:=n2_;clear n0_ n1_ n2_;clear ho hb hg hat)))
           go_roundg k2
           case measure => have:=HJ1.out;have:=HK2.out;omega
           case rel => exact ⟨(x4_2),(y322),(wrap64 (x25_2 + 1)),(by first|rfl|(simp;done)|(simp [*];done)),H',⟨by have:=HJ1.out;have:=HK2.out;omega⟩,⟨by (with_reducible repeat (first|apply ra_|apply rb_|apply rc_));exact Kd.R_mono HO_4.out (fun _ hk => hk.2)⟩,⟨by (with_reducible repeat (first|apply ra_|apply rb_|apply rc_));exact HO324.out⟩,⟨by repeat (first|(with_reducible first|exact HB.out|apply ba_|apply bb_|apply bc_)|exact HB.out)⟩⟩
          ·rw [if_neg c14] at H
           exact absurd H (by simp)
        ·rw [if_neg c7] at H
         exact absurd H (by simp)
       ·rw [if_neg c6] at H
        exact absurd H (by simp)
      ·rw [if_neg c5] at H
       have c5b0:=decide_eq_false c5
       clear c5
       replace H:=Option.bind_eq_some_iff.mp H
       obtain ⟨t325,A170,H⟩:=H
       (try dsimp only at H)
       have A17:=ak_ A170
       clear A170
       replace H:=Option.bind_eq_some_iff.mp H
       obtain ⟨t328,A180,H⟩:=H
       (try dsimp only at H)
       have A18:=ak_ A180
       clear A180
       by_cases c19 : 0 ≤ (l0.length : Int)
       ·rw [if_pos c19] at H
        have c19b0:=eq_true c19
        have c19b1 : decide (0 ≤ (l0.length : Int)) = true:=decide_eq_true c19
        clear c19
        by_cases c20 : ((l0.length : Int) : Int).toNat ≤ 35184372088832
        ·rw [if_pos c20] at H
         have c20b0:=eq_true c20
         have c20b1 : decide (((l0.length : Int) : Int).toNat ≤ 35184372088832) = true:=decide_eq_true c20
         clear c20
         obtain ⟨y331,hy331⟩ : ∃ y_ : List Int,y_ = (List.replicate ((l0.length : Int) : Int).toNat 0):=⟨_,rfl⟩
         replace H : (lpc_From.l1 k2 t325 t328 y331 (x4_2.length : Int) 0) = some (r1,r2):=by first|(rw [hy331];with_reducible exact H)|(have H2_:=(Option.bind_some _ _).symm.trans H;rw [hy331];with_reducible exact H2_)|(have H2_:=(Option.bind_some _ _).symm.trans H;with_reducible exact H2_)|with_reducible exact H|(rw [hy331];exact H)|exact H
         have Ny331:=ak_ hy331
         clear hy331
         have H':=ak_ H
         clear H
         obtain ⟨Ao21,co21,eo21⟩:=Kd.R_slice HO_4.out
         subst eo21
         go_wp2_with (first|(go_at_call 47;(with_reducible refine (lpc_poly.calls k2 _ _ x4_2 t325 _ ?side1 ?side2 A17.out).mono ?_);(case side1 => repeat (first|exact (Kd.R_reads' HO_4.out).2.2|(with_reducible refine Kd.C_alloc ?_ _)|(with_reducible refine Kd.C_drewN ?_ _)|(with_reducible refine Kd.C_drew ?_)));(case side2 => exact (Kd.R_reads' HO_4.out).2.1);rintro e w22 ⟨v326,rfl,ho0,hb⟩;have n0_:=ak_ (Kd.R_elder' (by (with_reducible repeat (first|apply ra_|apply rb_|apply rc_));exact HO_4.out) (Kd.R_base ho0) hb);have n1_:=ak_ (Kd.R_elder' (by (with_reducible repeat (first|apply ra_|apply rb_|apply rc_));exact HO_5.out) (Kd.R_base ho0) hb);have n2_:=ak_ (Kd.R_lower (Kd.R_new' (Kd.R_new' ho0 (Kd.R_lt (by (with_reducible repeat (first|apply ra_|apply rb_|apply rc_));exact HO_4.out))) (Kd.R_lt (by (with_reducible repeat (first|apply ra_|apply rb_|apply rc_));exact HO_5.out))) (below_size (by repeat (first|(with_reducible first|exact HB.out|apply ba_|apply bb_|apply bc_)|exact HB.out))));have n3_:=ak_ (below_step (by repeat (first|(with_reducible first|exact HB.out|apply ba_|apply bb_|apply bc_)|exact HB.out)) hb);clear HO_4;clear HO_5;clear HB;have HO_4:=n0_;have HO_5:=n1_;have HO327:=n2_;have HB:=n3_;clear n0_ n1_ n2_ n3_;(try clear hb);(try clear ho0);obtain ⟨Ao23,co23,eo23⟩:=Kd.R_slice HO_5.out;subst eo23)|(go_at_call 47;(with_reducible refine (lpc_poly.calls k2 _ _ x5_2 t328 _ ?side1 ?side2 A18.out).mono ?_);(case side1 => repeat (first|exact (Kd.R_reads' HO_5.out).2.2|(with_reducible refine Kd.C_alloc ?_ _)|(with_reducible refine Kd.C_drewN ?_ _)|(with_reducible refine Kd.C_drew ?_)));(case side2 => exact (Kd.R_reads' HO_5.out).2.1);rintro e w24 ⟨v329,rfl,ho0,hb⟩;have n0_:=ak_ (Kd.R_elder' (by (with_reducible repeat (first|apply ra_|apply rb_|apply rc_));exact HO_4.out) (Kd.R_base ho0) hb);have n1_:=ak_ (Kd.R_elder' (by (with_reducible repeat (first|apply ra_|apply rb_|apply rc_));exact HO_5.out) (Kd.R_base ho0) hb);have n2_:=ak_ (Kd.R_elder' (by (with_reducible repeat (first|apply ra_|apply rb_|apply rc_));exact HO327.out) (Kd.R_base ho0) hb);have n3_:=ak_ (Kd.R_lower (Kd.R_new' (Kd.R_new' (Kd.R_new' ho0 (Kd.R_lt (by (with_reducible repeat (first|apply ra_|apply rb_|apply rc_));exact HO_4.out))) (Kd.R_lt (by (with_reducible repeat (first|apply ra_|apply rb_|apply rc_));exact HO_5.out))) (Kd.R_lt (by (with_reducible repeat (first|apply ra_|apply rb_|apply rc_));exact HO327.out))) (below_size (by repeat (first|(with_reducible first|exact HB.out|apply ba_|apply bb_|apply bc_)|exact HB.out))));have n4_:=ak_ (below_step (by repeat (first|(with_reducible first|exact HB.out|apply ba_|apply bb_|apply bc_)|exact HB.out)) hb);clear HO_4;clear HO_5;clear HO327;clear HB;have HO_4:=n0_;have HO_5:=n1_;have HO327:=n2_;have HO330:=n3_;have HB:=n4_;clear n0_ n1_ n2_ n3_ n4_;(try clear hb);(try clear ho0))|((with_reducible refine gate_dst (N:=52) rfl ?_);(try (refine gate_guard (by rfl) ?_;dsimp only));refine Kd.R_make (Kd.int .i64) _ 2 rfl (N:=52) rfl 23 _ _ rfl (l0.length : Int) rfl rfl Try.underlying23 (.int .i64 0) 8 info2 rfl (by decide) (by omega) 0 (ok:=fun _ => True) (okp:=fun _ => True) rfl (fun _ hk => hk) trivial (of_decide_eq_true (by first|(with_reducible assumption)|assumption)) (Nat.le_trans (Nat.mul_le_mul_right _ (of_decide_eq_true (by first|(with_reducible assumption)|assumption) : (l0.length : Int).toNat ≤ 35184372088832)) (by omega)) (Below.refl _ _) (Nat.le_refl _) ?_;intro v332 w25 ho26 hb hg_ hnew_;clear hg_ hnew_;(first|rw [← Ny331.out] at ho26|(simp only [Int.reduceToNat] at ho26;rw [← Ny331.out] at ho26));have n0_:=ak_ (Kd.R_elder' (by (with_reducible repeat (first|apply ra_|apply rb_|apply rc_));exact HO_4.out) (Kd.R_base ho26) hb);have n1_:=ak_ (Kd.R_elder' (by (with_reducible repeat (first|apply ra_|apply rb_|apply rc_));exact HO_5.out) (Kd.R_base ho26) hb);have n2_:=ak_ (Kd.R_elder' (by (with_reducible repeat (first|apply ra_|apply rb_|apply rc_));exact HO327.out) (Kd.R_base ho26) hb);have n3_:=ak_ (Kd.R_elder' (by (with_reducible repeat (first|apply ra_|apply rb_|apply rc_));exact HO330.out) (Kd.R_base ho26) hb);have n4_:=ak_ (Kd.R_lower (Kd.R_new' (Kd.R_new' (Kd.R_new' (Kd.R_new' ho26 (Kd.R_lt (by (with_reducible repeat (first|apply ra_|apply rb_|apply rc_));exact HO_4.out))) (Kd.R_lt (by (with_reducible repeat (first|apply ra_|apply rb_|apply rc_));exact HO_5.out))) (Kd.R_lt (by (with_reducible repeat (first|apply ra_|apply rb_|apply rc_));exact HO327.out))) (Kd.R_lt (by (with_reducible repeat (first|apply ra_|apply rb_|apply rc_));exact HO330.out))) (below_size (by repeat (first|(with_reducible first|exact HB.out|apply ba_|apply bb_|apply bc_)|exact HB.out))));have n5_:=ak_ (below_step (by repeat (first|(with_reducible first|exact HB.out|apply ba_|apply bb_|apply bc_)|exact HB.out)) hb);clear HO_4;clear HO_5;clear HO327;clear HO330;clear HB;have HO_4:=n0_;have HO_5:=n1_;have HO327:=n2_;have HO330:=n3_;have HO333:=n4_;have HB:=n5_;clear n0_ n1_ n2_ n3_ n4_ n5_;clear hb ho26))
         repeat (go_quiet (first|(go_at_call 47;(with_reducible refine (lpc_poly.calls k2 _ _ x4_2 t325 _ ?side1 ?side2 A17.out).mono ?_);(case side1 => repeat (first|exact (Kd.R_reads' HO_4.out).2.2|(with_reducible refine Kd.C_alloc ?_ _)|(with_reducible refine Kd.C_drewN ?_ _)|(with_reducible refine Kd.C_drew ?_)));(case side2 => exact (Kd.R_reads' HO_4.out).2.1);rintro e w22 ⟨v326,rfl,ho0,hb⟩;have n0_:=ak_ (Kd.R_elder' (by (with_reducible repeat (first|apply ra_|apply rb_|apply rc_));exact HO_4.out) (Kd.R_base ho0) hb);have n1_:=ak_ (Kd.R_elder' (by (with_reducible repeat (first|apply ra_|apply rb_|apply rc_));exact HO_5.out) (Kd.R_base ho0) hb);have n2_:=ak_ (Kd.R_lower (Kd.R_new' (Kd.R_new' ho0 (Kd.R_lt (by (with_reducible repeat (first|apply ra_|apply rb_|apply rc_));exact HO_4.out))) (Kd.R_lt (by (with_reducible repeat (first|apply ra_|apply rb_|apply rc_));exact HO_5.out))) (below_size (by repeat (first|(with_reducible first|exact HB.out|apply ba_|apply bb_|apply bc_)|exact HB.out))));have n3_:=ak_ (below_step (by repeat (first|(with_reducible first|exact HB.out|apply ba_|apply bb_|apply bc_)|exact HB.out)) hb);clear HO_4;clear HO_5;clear HB;have HO_4:=n0_;have HO_5:=n1_;have HO327:=n2_;have HB:=n3_;clear n0_ n1_ n2_ n3_;(try clear hb);(try clear ho0);obtain ⟨Ao23,co23,eo23⟩:=Kd.R_slice HO_5.out;subst eo23)|(go_at_call 47;(with_reducible refine (lpc_poly.calls k2 _ _ x5_2 t328 _ ?side1 ?side2 A18.out).mono ?_);(case side1 => repeat (first|exact (Kd.R_reads' HO_5.out).2.2|(with_reducible refine Kd.C_alloc ?_ _)|(with_reducible refine Kd.C_drewN ?_ _)|(with_reducible refine Kd.C_drew ?_)));(case side2 => exact (Kd.R_reads' HO_5.out).2.1);rintro e w24 ⟨v329,rfl,ho0,hb⟩;have n0_:=ak_ (Kd.R_elder' (by (with_reducible repeat (first|apply ra_|apply rb_|apply rc_));exact HO_4.out) (Kd.R_base ho0) hb);have n1_:=ak_ (Kd.R_elder' (by (with_reducible repeat (first|apply ra_|apply rb_|apply rc_));exact HO_5.out) (Kd.R_base ho0) hb);have n2_:=ak_ (Kd.R_elder' (by (with_reducible repeat (first|apply ra_|apply rb_|apply rc_));exact HO327.out) (Kd.R_base ho0) hb);have n3_:=ak_ (Kd.R_lower (Kd.R_new' (Kd.R_new' (Kd.R_new' ho0 (Kd.R_lt (by (with_reducible repeat (first|apply ra_|apply rb_|apply rc_));exact HO_4.out))) (Kd.R_lt (by (with_reducible repeat (first|apply ra_|apply rb_|apply rc_));exact HO_5.out))) (Kd.R_lt (by (with_reducible repeat (first|apply ra_|apply rb_|apply rc_));exact HO327.out))) (below_size (by repeat (first|(with_reducible first|exact HB.out|apply ba_|apply bb_|apply bc_)|exact HB.out))));have n4_:=ak_ (below_step (by repeat (first|(with_reducible first|exact HB.out|apply ba_|apply bb_|apply bc_)|exact HB.out)) hb);clear HO_4;clear HO_5;clear HO327;clear HB;have HO_4:=n0_;have HO_5:=n1_;have HO327:=n2_;have HO330:=n3_;have HB:=n4_;clear n0_ n1_ n2_ n3_ n4_;(try clear hb);(try clear ho0))|((with_reducible refine gate_dst (N:=52) rfl ?_);(try (refine gate_guard (by rfl) ?_;dsimp only));refine Kd.R_make (Kd.int .i64) _ 2 rfl (N:=52) rfl 23 _ _ rfl (l0.length : Int) rfl rfl Try.underlying23 (.int .i64 0) 8 info2 rfl (by decide) (by omega) 0 (ok:=fun _ => True) (okp:=fun _ => True) rfl (fun _ hk => hk) trivial (of_decide_eq_true (by first|(with_reducible assumption)|assumption)) (Nat.le_trans (Nat.mul_le_mul_right _ (of_decide_eq_true (by first|(with_reducible assumption)|assumption) : (l0.length : Int).toNat ≤ 35184372088832)) (by omega)) (Below.refl _ _) (Nat.le_refl _) ?_;intro v332 w25 ho26 hb hg_ hnew_;clear hg_ hnew_;(first|rw [← Ny331.out] at ho26|(simp only [Int.reduceToNat] at ho26;rw [← Ny331.out] at ho26));have n0_:=ak_ (Kd.R_elder' (by (with_reducible repeat (first|apply ra_|apply rb_|apply rc_));exact HO_4.out) (Kd.R_base ho26) hb);have n1_:=ak_ (Kd.R_elder' (by (with_reducible repeat (first|apply ra_|apply rb_|apply rc_));exact HO_5.out) (Kd.R_base ho26) hb);have n2_:=ak_ (Kd.R_elder' (by (with_reducible repeat (first|apply ra_|apply rb_|apply rc_));exact HO327.out) (Kd.R_base ho26) hb);have n3_:=ak_ (Kd.R_elder' (by (with_reducible repeat (first|apply ra_|apply rb_|apply rc_));exact HO330.out) (Kd.R_base ho26) hb);have n4_:=ak_ (Kd.R_lower (Kd.R_new' (Kd.R_new' (Kd.R_new' (Kd.R_new' ho26 (Kd.R_lt (by (with_reducible repeat (first|apply ra_|apply rb_|apply rc_));exact HO_4.out))) (Kd.R_lt (by (with_reducible repeat (first|apply ra_|apply rb_|apply rc_));exact HO_5.out))) (Kd.R_lt (by (with_reducible repeat (first|apply ra_|apply rb_|apply rc_));exact HO327.out))) (Kd.R_lt (by (with_reducible repeat (first|apply ra_|apply rb_|apply rc_));exact HO330.out))) (below_size (by repeat (first|(with_reducible first|exact HB.out|apply ba_|apply bb_|apply bc_)|exact HB.out))));have n5_:=ak_ (below_step (by repeat (first|(with_reducible first|exact HB.out|apply ba_|apply bb_|apply bc_)|exact HB.out)) hb);clear HO_4;clear HO_5;clear HO327;clear HO330;clear HB;have HO_4:=n0_;have HO_5:=n1_;have HO327:=n2_;have HO330:=n3_;have HO333:=n4_;have HB:=n5_;clear n0_ n1_ n2_ n3_ n4_ n5_;clear hb ho26));try go_wp2_with (first|(go_at_call 47;(with_reducible refine (lpc_poly.calls k2 _ _ x4_2 t325 _ ?side1 ?side2 A17.out).mono ?_);(case side1 => repeat (first|exact (Kd.R_reads' HO_4.out).2.2|(with_reducible refine Kd.C_alloc ?_ _)|(with_reducible refine Kd.C_drewN ?_ _)|(with_reducible refine Kd.C_drew ?_)));(case side2 => exact (Kd.R_reads' HO_4.out).2.1);rintro e w22 ⟨v326,rfl,ho0,hb⟩;have n0_:=ak_ (Kd.R_elder' (by (with_reducible repeat (first|apply ra_|apply rb_|apply rc_));exact HO_4.out) (Kd.R_base ho0) hb);have n1_:=ak_ (Kd.R_elder' (by (with_reducible repeat (first|apply ra_|apply rb_|apply rc_));exact HO_5.out) (Kd.R_base ho0) hb);have n2_:=ak_ (Kd.R_lower (Kd.R_new' (Kd.R_new' ho0 (Kd.R_lt (by (with_reducible repeat (first|apply ra_|apply rb_|apply rc_));exact HO_4.out))) (Kd.R_lt (by (with_reducible repeat (first|apply ra_|apply rb_|apply rc_));exact HO_5.out))) (below_size (by repeat (first|(with_reducible first|exact HB.out|apply ba_|apply bb_|apply bc_)|exact HB.out))));have n3_:=ak_ (below_step (by repeat (first|(with_reducible first|exact HB.out|apply ba_|apply bb_|apply bc_)|exact HB.out)) hb);clear HO_4;clear HO_5;clear HB;have HO_4:=n0_;have HO_5:=n1_;have HO327:=n2_;have HB:=n3_;clear n0_ n1_ n2_ n3_;(try clear hb);(try clear ho0);obtain ⟨Ao23,co23,eo23⟩:=Kd.R_slice HO_5.out;subst eo23)|(go_at_call 47;(with_reducible refine (lpc_poly.calls k2 _ _ x5_2 t328 _ ?side1 ?side2 A18.out).mono ?_);(case side1 => repeat (first|exact (Kd.R_reads' HO_5.out).2.2|(with_reducible refine Kd.C_alloc ?_ _)|(with_reducible refine Kd.C_drewN ?_ _)|(with_reducible refine Kd.C_drew ?_)));(case side2 => exact (Kd.R_reads' HO_5.out).2.1);rintro e w24 ⟨v329,rfl,ho0,hb⟩;have n0_:=ak_ (Kd.R_elder' (by (with_reducible repeat (first|apply ra_|apply rb_|apply rc_));exact HO_4.out) (Kd.R_base ho0) hb);have n1_:=ak_ (Kd.R_elder' (by (with_reducible repeat (first|apply ra_|apply rb_|apply rc_));exact HO_5.out) (Kd.R_base ho0) hb);have n2_:=ak_ (Kd.R_elder' (by (with_reducible repeat (first|apply ra_|apply rb_|apply rc_));exact HO327.out) (Kd.R_base ho0) hb);have n3_:=ak_ (Kd.R_lower (Kd.R_new' (Kd.R_new' (Kd.R_new' ho0 (Kd.R_lt (by (with_reducible repeat (first|apply ra_|apply rb_|apply rc_));exact HO_4.out))) (Kd.R_lt (by (with_reducible repeat (first|apply ra_|apply rb_|apply rc_));exact HO_5.out))) (Kd.R_lt (by (with_reducible repeat (first|apply ra_|apply rb_|apply rc_));exact HO327.out))) (below_size (by repeat (first|(with_reducible first|exact HB.out|apply ba_|apply bb_|apply bc_)|exact HB.out))));have n4_:=ak_ (below_step (by repeat (first|(with_reducible first|exact HB.out|apply ba_|apply bb_|apply bc_)|exact HB.out)) hb);clear HO_4;clear HO_5;clear HO327;clear HB;have HO_4:=n0_;have HO_5:=n1_;have HO327:=n2_;have HO330:=n3_;have HB:=n4_;clear n0_ n1_ n2_ n3_ n4_;(try clear hb);(try clear ho0))|((with_reducible refine gate_dst (N:=52) rfl ?_);(try (refine gate_guard (by rfl) ?_;dsimp only));refine Kd.R_make (Kd.int .i64) _ 2 rfl (N:=52) rfl 23 _ _ rfl (l0.length : Int) rfl rfl Try.underlying23 (.int .i64 0) 8 info2 rfl (by decide) (by omega) 0 (ok:=fun _ => True) (okp:=fun _ => True) rfl (fun _ hk => hk) trivial (of_decide_eq_true (by first|(with_reducible assumption)|assumption)) (Nat.le_trans (Nat.mul_le_mul_right _ (of_decide_eq_true (by first|(with_reducible assumption)|assumption) : (l0.length : Int).toNat ≤ 35184372088832)) (by omega)) (Below.refl _ _) (Nat.le_refl _) ?_;intro v332 w25 ho26 hb hg_ hnew_;clear hg_ hnew_;(first|rw [← Ny331.out] at ho26|(simp only [Int.reduceToNat] at ho26;rw [← Ny331.out] at ho26));have n0_:=ak_ (Kd.R_elder' (by (with_reducible repeat (first|apply ra_|apply rb_|apply rc_));exact HO_4.out) (Kd.R_base ho26) hb);have n1_:=ak_ (Kd.R_elder' (by (with_reducible repeat (first|apply ra_|apply rb_|apply rc_));exact HO_5.out) (Kd.R_base ho26) hb);have n2_:=ak_ (Kd.R_elder' (by (with_reducible repeat (first|apply ra_|apply rb_|apply rc_));exact HO327.out) (Kd.R_base ho26) hb);have n3_:=ak_ (Kd.R_elder' (by (with_reducible repeat (first|apply ra_|apply rb_|apply rc_));exact HO330.out) (Kd.R_base ho26) hb);have n4_:=ak_ (Kd.R_lower (Kd.R_new' (Kd.R_new' (Kd.R_new' (Kd.R_new' ho26 (Kd.R_lt (by (with_reducible repeat (first|apply ra_|apply rb_|apply rc_));exact HO_4.out))) (Kd.R_lt (by (with_reducible repeat (first|apply ra_|apply rb_|apply rc_));exact HO_5.out))) (Kd.R_lt (by (with_reducible repeat (first|apply ra_|apply rb_|apply rc_));exact HO327.out))) (Kd.R_lt (by (with_reducible repeat (first|apply ra_|apply rb_|apply rc_));exact HO330.out))) (below_size (by repeat (first|(with_reducible first|exact HB.out|apply ba_|apply bb_|apply bc_)|exact HB.out))));have n5_:=ak_ (below_step (by repeat (first|(with_reducible first|exact HB.out|apply ba_|apply bb_|apply bc_)|exact HB.out)) hb);clear HO_4;clear HO_5;clear HO327;clear HO330;clear HB;have HO_4:=n0_;have HO_5:=n1_;have HO327:=n2_;have HO330:=n3_;have HO333:=n4_;have HB:=n5_;clear n0_ n1_ n2_ n3_ n4_ n5_;clear hb ho26)))
         go_loopg [55] k2 (fun kq v55 w' => ∃ (x11_3 : List Int) (x55_3 : Int),v55 = .int .i64 x55_3 ∧ Aside0 (lpc_From.l1 kq t325 t328 x11_3 (x4_2.length : Int) x55_3 = some (r1,r2)) ∧ Aside0 (kq ≤ k2) ∧ Aside0 (Kd.R (Kd.int .i64) 2 w' w.heap.size (fun k_ => some k_ ≠ (v329 : Value).ownBlock ∧ some k_ ≠ (v332 : Value).ownBlock) v326 t325) ∧ Aside0 (Kd.R (Kd.int .i64) 2 w' w.heap.size (fun k_ => some k_ ≠ (v326 : Value).ownBlock ∧ some k_ ≠ (v332 : Value).ownBlock) v329 t328) ∧ Aside0 (Kd.R (Kd.int .i64) 2 w' w.heap.size (fun k_ => some k_ ≠ (v326 : Value).ownBlock ∧ some k_ ≠ (v329 : Value).ownBlock) v332 x11_3) ∧ Aside0 (Below w.heap.size w w'))
         case atStart => exact ⟨(y331),(0),(by first|rfl|(simp;done)|(simp [*];done)),H',⟨Nat.le_refl _⟩,⟨by (with_reducible repeat (first|apply ra_|apply rb_|apply rc_));exact Kd.R_mono HO327.out (fun _ hk => ⟨hk.1.2,hk.2⟩)⟩,⟨by (with_reducible repeat (first|apply ra_|apply rb_|apply rc_));exact Kd.R_mono HO330.out (fun _ hk => ⟨hk.1.2,hk.2⟩)⟩,⟨by (with_reducible repeat (first|apply ra_|apply rb_|apply rc_));exact Kd.R_mono HO333.out (fun _ hk => ⟨hk.1.2,hk.2⟩)⟩,⟨by repeat (first|(with_reducible first|exact HB.out|apply ba_|apply bb_|apply bc_)|exact HB.out)⟩⟩
         case round =>
          clear H'
          try clear c1
          try clear c2
          try clear p2
          try clear c3
          try clear c3b0
          try clear c3b1
          try clear p3
          try clear q3
          try clear hx3
          try clear c4
          try clear c5
          try clear c5b0
          try clear c6
          try clear c6b0
          try clear p6
          try clear c7
          try clear c7b0
          try clear c10
          try clear c10b0
          try clear c10b1
          try clear c11
          try clear c14
          try clear c19
          try clear c19b0
          try clear c19b1
          try clear c20
          try clear c20b0
          try clear c20b1
          try clear hx316_0
          try clear p2
          try clear p316
          try clear q316
          obtain ⟨x11_3,x55_3,rfl,HA,HK3,HO_9,HO_10,HO_11,HB⟩:=hrel
          (try simp only [i64_w,i32_w])
          cases gk with
          | zero => exact absurd HA.out (by simp [lpc_From.l1])
          | succ k3 =>
           have H:=HA.out
           clear HA
           simp only [lpc_From.l1] at H
           by_cases c27 : x55_3 < (x4_2.length : Int)
           ·rw [if_pos c27] at H
            have c27b0:=decide_eq_true c27
            clear c27
            obtain ⟨ji28,hji28⟩ : ∃ j_ : Int,(wrap64 (x55_3 + 1)) = j_:=⟨_,rfl⟩
            replace H : (if 0 ≤ (ji28) then (if (ji28) < (t325.length : Int) then (if 0 ≤ x55_3 then (if x55_3 < (t325.length : Int) then (if (ji28) < (t328.length : Int) then (if x55_3 < (t328.length : Int) then ((fix_Mul.f k3 (wrap64 ((wrap64 (-(wrap64 ((rd t328 (ji28)) - (rd t328 x55_3))))) - (wrap64 ((rd t325 (ji28)) + (rd t325 x55_3))))) 1 5).bind fun t338 => (if x55_3 < (x11_3.length : Int) then ((fix_Mul.f k3 (wrap64 ((wrap64 ((rd t328 (ji28)) - (rd t328 x55_3))) - (wrap64 ((rd t325 (ji28)) + (rd t325 x55_3))))) 1 5).bind fun t340 => (if 0 ≤ (wrap64 ((wrap64 ((x11_3.length : Int) - 1)) - x55_3)) then (if (wrap64 ((wrap64 ((x11_3.length : Int) - 1)) - x55_3)) < (x11_3.length : Int) then (lpc_From.l1 k3 t325 t328 ((x11_3.set (x55_3 : Int).toNat t338).set ((wrap64 ((wrap64 ((x11_3.length : Int) - 1)) - x55_3)) : Int).toNat t340) (x4_2.length : Int) ji28) else (none)) else (none))) else (none))) else (none)) else (none)) else (none)) else (none)) else (none)) else (none)) = some (r1,r2):=by first|(rw [hji28] at H;exact H)|(simp only [hji28] at H ⊢;exact H)
            have hji28w : (IntKind.i64.wrap (x55_3 + 1)) = ji28:=(i64_w _).trans hji28
            by_cases c29 : 0 ≤ (ji28)
            ·rw [if_pos c29] at H
             have c29b0:=decide_eq_true c29
             clear c29
             by_cases c30 : (ji28) < (t325.length : Int)
             ·rw [if_pos c30] at H
              have c30b0:=decide_eq_true c30
              clear c30
              by_cases c31 : 0 ≤ x55_3
              ·rw [if_pos c31] at H
               have c31b0:=decide_eq_true c31
               clear c31
               by_cases c32 : x55_3 < (t325.length : Int)
               ·rw [if_pos c32] at H
                have c32b0:=decide_eq_true c32
                clear c32
                by_cases c33 : (ji28) < (t328.length : Int)
                ·rw [if_pos c33] at H
                 have c33b0:=decide_eq_true c33
                 clear c33
                 by_cases c34 : x55_3 < (t328.length : Int)
                 ·rw [if_pos c34] at H
                  have c34b0:=decide_eq_true c34
                  clear c34
                  replace H:=Option.bind_eq_some_iff.mp H
                  obtain ⟨t338,A350,H⟩:=H
                  (try dsimp only at H)
                  have A35:=ak_ A350
                  clear A350
                  by_cases c36 : x55_3 < (x11_3.length : Int)
                  ·rw [if_pos c36] at H
                   have c36b0:=decide_eq_true c36
                   clear c36
                   obtain ⟨y339,hy339⟩ : ∃ y_ : List Int,y_ = (x11_3.set (x55_3 : Int).toNat t338):=⟨_,rfl⟩
                   replace H : ((fix_Mul.f k3 (wrap64 ((wrap64 ((rd t328 (ji28)) - (rd t328 x55_3))) - (wrap64 ((rd t325 (ji28)) + (rd t325 x55_3))))) 1 5).bind fun t340 => (if 0 ≤ (wrap64 ((wrap64 ((x11_3.length : Int) - 1)) - x55_3)) then (if (wrap64 ((wrap64 ((x11_3.length : Int) - 1)) - x55_3)) < (x11_3.length : Int) then (lpc_From.l1 k3 t325 t328 (y339.set ((wrap64 ((wrap64 ((x11_3.length : Int) - 1)) - x55_3)) : Int).toNat t340) (x4_2.length : Int) ji28) else (none)) else (none))) = some (r1,r2):=by first|(rw [hy339];with_reducible exact H)|(have H2_:=(Option.bind_some _ _).symm.trans H;rw [hy339];with_reducible exact H2_)|(have H2_:=(Option.bind_some _ _).symm.trans H;with_reducible exact H2_)|with_reducible exact H|(rw [hy339];exact H)|exact H
                   have Ny339:=ak_ hy339
                   clear hy339
                   replace H:=Option.bind_eq_some_iff.mp H
                   obtain ⟨t340,A380,H⟩:=H
                   (try dsimp only at H)
                   have A38:=ak_ A380
                   clear A380
                   obtain ⟨ji39,hji39⟩ : ∃ j_ : Int,(wrap64 ((wrap64 ((x11_3.length : Int) - 1)) - x55_3)) = j_:=⟨_,rfl⟩
                   replace H : (if 0 ≤ (ji39) then (if (ji39) < (x11_3.length : Int) then (lpc_From.l1 k3 t325 t328 (y339.set ((ji39) : Int).toNat t340) (x4_2.length : Int) ji28) else (none)) else (none)) = some (r1,r2):=by first|(rw [hji39] at H;exact H)|(simp only [hji39] at H ⊢;exact H)
                   (try rw [hji39] at A35)
                   (try rw [hji39] at A38)
                   have hji39w : (IntKind.i64.wrap ((wrap64 ((x11_3.length : Int) - 1)) - x55_3)) = ji39:=(i64_w _).trans hji39
                   by_cases c40 : 0 ≤ (ji39)
                   ·rw [if_pos c40] at H
                    have c40b0:=decide_eq_true c40
                    clear c40
                    by_cases c41 : (ji39) < (x11_3.length : Int)
                    ·rw [if_pos c41] at H
                     have c41b0:=decide_eq_true c41
                     clear c41
                     obtain ⟨y341,hy341⟩ : ∃ y_ : List Int,y_ = (y339.set ((ji39) : Int).toNat t340):=⟨_,rfl⟩
                     replace H : (lpc_From.l1 k3 t325 t328 y341 (x4_2.length : Int) ji28) = some (r1,r2):=by first|(rw [hy341];with_reducible exact H)|(have H2_:=(Option.bind_some _ _).symm.trans H;rw [hy341];with_reducible exact H2_)|(have H2_:=(Option.bind_some _ _).symm.trans H;with_reducible exact H2_)|with_reducible exact H|(rw [hy341];exact H)|exact H
                     have Ny341:=ak_ hy341
                     clear hy341
                     have H':=ak_ H
                     clear H
                     obtain ⟨Ao43,co43,eo43⟩:=Kd.R_slice HO_9.out
                     subst eo43
                     have p334 : 0 ≤ ((ji28) : Int):=of_decide_eq_true (by first|(with_reducible assumption)|assumption)
                     have q334 : (ji28) < (t325.length : Int):=of_decide_eq_true (by first|(with_reducible assumption)|assumption)
                     obtain ⟨ad334,e334,hx334_0⟩:=Kd.at_int (Kd.R_reads' HO_9.out).2.2 (ji28) p334 q334
                     cases e334
                     replace p334:=eq_true p334
                     replace q334:=eq_true q334
                     have p335 : 0 ≤ (x55_3 : Int):=of_decide_eq_true (by first|(with_reducible assumption)|assumption)
                     have q335 : x55_3 < (t325.length : Int):=of_decide_eq_true (by first|(with_reducible assumption)|assumption)
                     obtain ⟨ad335,e335,hx335_0⟩:=Kd.at_int (Kd.R_reads' HO_9.out).2.2 x55_3 p335 q335
                     obtain rfl : ad334 = ad335:=(by injection e335)
                     replace p335:=eq_true p335
                     replace q335:=eq_true q335
                     obtain ⟨Ao44,co44,eo44⟩:=Kd.R_slice HO_10.out
                     subst eo44
                     have p336 : 0 ≤ ((ji28) : Int):=of_decide_eq_true (by first|(with_reducible assumption)|assumption)
                     have q336 : (ji28) < (t328.length : Int):=of_decide_eq_true (by first|(with_reducible assumption)|assumption)
                     obtain ⟨ad336,e336,hx336_0⟩:=Kd.at_int (Kd.R_reads' HO_10.out).2.2 (ji28) p336 q336
                     cases e336
                     replace p336:=eq_true p336
                     replace q336:=eq_true q336
                     have p337 : 0 ≤ (x55_3 : Int):=of_decide_eq_true (by first|(with_reducible assumption)|assumption)
                     have q337 : x55_3 < (t328.length : Int):=of_decide_eq_true (by first|(with_reducible assumption)|assumption)
                     obtain ⟨ad337,e337,hx337_0⟩:=Kd.at_int (Kd.R_reads' HO_10.out).2.2 x55_3 p337 q337
                     obtain rfl : ad336 = ad337:=(by injection e337)
                     replace p337:=eq_true p337
                     replace q337:=eq_true q337
                     go_wp2_with (first|(go_at_call 25;(with_reducible refine (fix_Mul.calls k3 (wrap64 ((wrap64 (-(wrap64 ((rd t328 (ji28)) - (rd t328 x55_3))))) - (wrap64 ((rd t325 (ji28)) + (rd t325 x55_3))))) 1 5 t338 _ A35.out).mono ?_);rintro e w' ⟨rfl,⟨nd,rfl⟩⟩;(try first|exact ⟨rfl,_,World.drewN_drewN _ _ _⟩|exact ⟨rfl,_,Eq.trans (World.drewN_drewN _ _ _) (congrArg (World.drewN _) (Nat.add_assoc _ _ _))⟩);have p37 : 0 ≤ (x55_3 : Int):=of_decide_eq_true (by first|(with_reducible assumption)|assumption);have q37 : (x55_3 : Int) < ((x11_3.length : Int) : Int):=of_decide_eq_true (by first|(with_reducible assumption)|assumption);obtain ⟨go37,co37,eo37,gb37,gl37,cl37,HG37⟩:=Kd.R_form HO_11.out (by omega);(first|cases eo37|(injection eo37 with ea_ en_ ec_;(first|subst ea_|(injection ea_ with ea_;subst ea_));subst ec_;clear en_));have GB37:=ak_ gb37;have GG37:=ak_ HG37;clear gb37 gl37 HG37;obtain ⟨hx37_0,hf37_0⟩:=Kd.R_celln 0 HO_11.out (x55_3 : Int) p37 q37;replace p37:=eq_true p37;replace q37:=eq_true q37;obtain ⟨hy45_,hz45_⟩:=Kd.R_celln 0 HO_11.out (x55_3 : Int) (of_decide_eq_true (by first|(with_reducible assumption)|assumption)) (of_decide_eq_true (by first|(with_reducible assumption)|assumption));have HP45:=Kd.R_putg HO_11.out (x55_3 : Int) t338)|((with_reducible refine gate_store (t:=2) (p:=85) rfl ?_);(try (rw [drewN_self wr];generalize hq_ : World.drewN wr _ = wr;have n0_:=ak_ (Kd.R_at hq_ HO_9.out);have n1_:=ak_ (Kd.R_at hq_ HO_10.out);have n2_:=ak_ (Kd.R_at hq_ HO_11.out);have n3_:=ak_ (below_at hq_ HB.out);clear hq_ HO_9 HO_10 HO_11 HB;have HO_9:=n0_;have HO_10:=n1_;have HO_11:=n2_;have HB:=n3_;clear n0_ n1_ n2_ n3_;(try (obtain ⟨hy45_,hz45_⟩:=Kd.R_celln 0 HO_11.out (x55_3 : Int) (of_decide_eq_true (by first|(with_reducible assumption)|assumption)) (of_decide_eq_true (by first|(with_reducible assumption)|assumption))));(try (have HP45:=Kd.R_putg HO_11.out (x55_3 : Int) t338))));refine store_event (t:=2) (p:=85) (v:=?vo_w46) (w1:=(wr.setCell ⟨go37,(x55_3 : Int).toNat,none⟩ (.int .i64 t338))) ?hg ?ho ?hn ?hr ?_;(case ho => rfl);(case hg => rfl);(case hn => rfl);(case hr => first|(go_simp;done)|(go_simp;rfl));intro w46 hw;have hg : wr.grownBy w46 (some go37):=(by rw [hw];exact HP45.2);have hp_ : Kd.R (Kd.int .i64) 2 w46 w.heap.size (fun k_ => some k_ ≠ (.slice (some ad334) t325.length co43 : Value).ownBlock ∧ some k_ ≠ (.slice (some ad336) t328.length co44 : Value).ownBlock) (.slice (some ⟨go37,0,none⟩) x11_3.length co37) y339:=(by rw [hw,Ny339.out];exact HP45.1);clear HP45;have n0_:=ak_ (Kd.R_after (v:=(.slice (some ⟨go37,0,none⟩) x11_3.length co37)) (v1:=(.slice (some ⟨go37,0,none⟩) x11_3.length co37)) (ok:=(fun k_ => some k_ ≠ (.slice (some ad336) t328.length co44 : Value).ownBlock)) (by (with_reducible repeat (first|apply ra_|apply rb_|apply rc_));exact HO_9.out) hg (.inl rfl));have n1_:=ak_ (Kd.R_after (v:=(.slice (some ⟨go37,0,none⟩) x11_3.length co37)) (v1:=(.slice (some ⟨go37,0,none⟩) x11_3.length co37)) (ok:=(fun k_ => some k_ ≠ (.slice (some ad334) t325.length co43 : Value).ownBlock)) (by (with_reducible repeat (first|apply ra_|apply rb_|apply rc_));exact HO_10.out) hg (.inl rfl));have n2_:=ak_ (hp_);have n3_:=ak_ ((by rw [hw];exact below_set (HB.out) GB37.out : Below w.heap.size w w46));clear HO_9;clear HO_10;clear HO_11;clear HB;have HO_9:=n0_;have HO_10:=n1_;have HO_11:=n2_;have HB:=n3_;clear n0_ n1_ n2_ n3_;clear hg hw hp_)|(go_at_call 25;(with_reducible refine (fix_Mul.calls k3 (wrap64 ((wrap64 ((rd t328 (ji28)) - (rd t328 x55_3))) - (wrap64 ((rd t325 (ji28)) + (rd t325 x55_3))))) 1 5 t340 _ A38.out).mono ?_);rintro e w' ⟨rfl,⟨nd,rfl⟩⟩;(try first|exact ⟨rfl,_,World.drewN_drewN _ _ _⟩|exact ⟨rfl,_,Eq.trans (World.drewN_drewN _ _ _) (congrArg (World.drewN _) (Nat.add_assoc _ _ _))⟩);have p42 : 0 ≤ ((ji39) : Int):=of_decide_eq_true (by first|(with_reducible assumption)|assumption);have q42 : ((ji39) : Int) < ((x11_3.length : Int) : Int):=of_decide_eq_true (by first|(with_reducible assumption)|assumption);obtain ⟨hx42_0,hf42_0⟩:=Kd.R_celln 0 HO_11.out ((ji39) : Int) p42 q42;replace p42:=eq_true p42;replace q42:=eq_true q42;obtain ⟨hy47_,hz47_⟩:=Kd.R_celln 0 HO_11.out ((ji39) : Int) (of_decide_eq_true (by first|(with_reducible assumption)|assumption)) (of_decide_eq_true (by first|(with_reducible assumption)|assumption));have HP47:=Kd.R_putg HO_11.out ((ji39) : Int) t340)|((with_reducible refine gate_store (t:=2) (p:=96) rfl ?_);(try (rw [drewN_self w46];generalize hq_ : World.drewN w46 _ = w46;have n0_:=ak_ (Kd.R_at hq_ HO_9.out);have n1_:=ak_ (Kd.R_at hq_ HO_10.out);have n2_:=ak_ (Kd.R_at hq_ HO_11.out);have n3_:=ak_ (below_at hq_ HB.out);clear hq_ HO_9 HO_10 HO_11 HB;have HO_9:=n0_;have HO_10:=n1_;have HO_11:=n2_;have HB:=n3_;clear n0_ n1_ n2_ n3_;(try (obtain ⟨hy47_,hz47_⟩:=Kd.R_celln 0 HO_11.out ((ji39) : Int) (of_decide_eq_true (by first|(with_reducible assumption)|assumption)) (of_decide_eq_true (by first|(with_reducible assumption)|assumption))));(try (have HP47:=Kd.R_putg HO_11.out ((ji39) : Int) t340))));refine store_event (t:=2) (p:=96) (v:=?vo_w48) (w1:=(w46.setCell ⟨go37,((ji39) : Int).toNat,none⟩ (.int .i64 t340))) ?hg ?ho ?hn ?hr ?_;(case ho => rfl);(case hg => rfl);(case hn => rfl);(case hr => first|(go_simp;done)|(go_simp;rfl));intro w48 hw;have hg : w46.grownBy w48 (some go37):=(by rw [hw];exact HP47.2);have hp_ : Kd.R (Kd.int .i64) 2 w48 w.heap.size (fun k_ => some k_ ≠ (.slice (some ad334) t325.length co43 : Value).ownBlock ∧ some k_ ≠ (.slice (some ad336) t328.length co44 : Value).ownBlock) (.slice (some ⟨go37,0,none⟩) x11_3.length co37) y341:=(by rw [hw,Ny341.out];exact HP47.1);clear HP47;have n0_:=ak_ (Kd.R_after (v:=(.slice (some ⟨go37,0,none⟩) x11_3.length co37)) (v1:=(.slice (some ⟨go37,0,none⟩) x11_3.length co37)) (ok:=(fun k_ => some k_ ≠ (.slice (some ad336) t328.length co44 : Value).ownBlock)) (by (with_reducible repeat (first|apply ra_|apply rb_|apply rc_));exact HO_9.out) hg (.inl rfl));have n1_:=ak_ (Kd.R_after (v:=(.slice (some ⟨go37,0,none⟩) x11_3.length co37)) (v1:=(.slice (some ⟨go37,0,none⟩) x11_3.length co37)) (ok:=(fun k_ => some k_ ≠ (.slice (some ad334) t325.length co43 : Value).ownBlock)) (by (with_reducible repeat (first|apply ra_|apply rb_|apply rc_));exact HO_10.out) hg (.inl rfl));have n2_:=ak_ (hp_);have n3_:=ak_ ((by rw [hw];exact below_set (HB.out) GB37.out : Below w.heap.size w w48));clear HO_9;clear HO_10;clear HO_11;clear HB;have HO_9:=n0_;have HO_10:=n1_;have HO_11:=n2_;have HB:=n3_;clear n0_ n1_ n2_ n3_;clear hg hw hp_))
                     repeat (go_quiet (first|(go_at_call 25;(with_reducible refine (fix_Mul.calls k3 (wrap64 ((wrap64 (-(wrap64 ((rd t328 (ji28)) - (rd t328 x55_3))))) - (wrap64 ((rd t325 (ji28)) + (rd t325 x55_3))))) 1 5 t338 _ A35.out).mono ?_);rintro e w' ⟨rfl,⟨nd,rfl⟩⟩;(try first|exact ⟨rfl,_,World.drewN_drewN _ _ _⟩|exact ⟨rfl,_,Eq.trans (World.drewN_drewN _ _ _) (congrArg (World.drewN _) (Nat.add_assoc _ _ _))⟩);have p37 : 0 ≤ (x55_3 : Int):=of_decide_eq_true (by first|(with_reducible assumption)|assumption);have q37 : (x55_3 : Int) < ((x11_3.length : Int) : Int):=of_decide_eq_true (by first|(with_reducible assumption)|assumption);obtain ⟨go37,co37,eo37,gb37,gl37,cl37,HG37⟩:=Kd.R_form HO_11.out (by omega);(first|cases eo37|(injection eo37 with ea_ en_ ec_;(first|subst ea_|(injection ea_ with ea_;subst ea_));subst ec_;clear en_));have GB37:=ak_ gb37;have GG37:=ak_ HG37;clear gb37 gl37 HG37;obtain ⟨hx37_0,hf37_0⟩:=Kd.R_celln 0 HO_11.out (x55_3 : Int) p37 q37;replace p37:=eq_true p37;replace q37:=eq_true q37;obtain ⟨hy45_,hz45_⟩:=Kd.R_celln 0 HO_11.out (x55_3 : Int) (of_decide_eq_true (by first|(with_reducible assumption)|assumption)) (of_decide_eq_true (by first|(with_reducible assumption)|assumption));have HP45:=Kd.R_putg HO_11.out (x55_3 : Int) t338)|((with_reducible refine gate_store (t:=2) (p:=85) rfl ?_);(try (rw [drewN_self wr];generalize hq_ : World.drewN wr _ = wr;have n0_:=ak_ (Kd.R_at hq_ HO_9.out);have n1_:=ak_ (Kd.R_at hq_ HO_10.out);have n2_:=ak_ (Kd.R_at hq_ HO_11.out);have n3_:=ak_ (below_at hq_ HB.out);clear hq_ HO_9 HO_10 HO_11 HB;have HO_9:=n0_;have HO_10:=n1_;have HO_11:=n2_;have HB:=n3_;clear n0_ n1_ n2_ n3_;(try (obtain ⟨hy45_,hz45_⟩:=Kd.R_celln 0 HO_11.out (x55_3 : Int) (of_decide_eq_true (by first|(with_reducible assumption)|assumption)) (of_decide_eq_true (by first|(with_reducible assumption)|assumption))));(try (have HP45:=Kd.R_putg HO_11.out (x55_3 : Int) t338))));refine store_event (t:=2) (p:=85) (v:=?vo_w46) (w1:=(wr.setCell ⟨go37,(x55_3 : Int).toNat,none⟩ (.int .i64 t338))) ?hg ?ho ?hn ?hr ?_;(case ho => rfl);(case hg => rfl);(case hn => rfl);(case hr => first|(go_simp;done)|(go_simp;rfl));intro w46 hw;have hg : wr.grownBy w46 (some go37):=(by rw [hw];exact HP45.2);have hp_ : Kd.R (Kd.int .i64) 2 w46 w.heap.size (fun k_ => some k_ ≠ (.slice (some ad334) t325.length co43 : Value).ownBlock ∧ some k_ ≠ (.slice (some ad336) t328.length co44 : Value).ownBlock) (.slice (some ⟨go37,0,none⟩) x11_3.length co37) y339:=(by rw [hw,Ny339.out];exact HP45.1);clear HP45;have n0_:=ak_ (Kd.R_after (v:=(.slice (some ⟨go37,0,none⟩) x11_3.length co37)) (v1:=(.slice (some ⟨go37,0,none⟩) x11_3.length co37)) (ok:=(fun k_ => some k_ ≠ (.slice (some ad336) t328.length co44 : Value).ownBlock)) (by (with_reducible repeat (first|apply ra_|apply rb_|apply rc_));exact HO_9.out) hg (.inl rfl));have n1_:=ak_ (Kd.R_after (v:=(.slice (some ⟨go37,0,none⟩) x11_3.length co37)) (v1:=(.slice (some ⟨go37,0,none⟩) x11_3.length co37)) (ok:=(fun k_ => some k_ ≠ (.slice (some ad334) t325.length co43 : Value).ownBlock)) (by (with_reducible repeat (first|apply ra_|apply rb_|apply rc_));exact HO_10.out) hg (.inl rfl));have n2_:=ak_ (hp_);have n3_:=ak_ ((by rw [hw];exact below_set (HB.out) GB37.out : Below w.heap.size w w46));clear HO_9;clear HO_10;clear HO_11;clear HB;have HO_9:=n0_;have HO_10:=n1_;have HO_11:=n2_;have HB:=n3_;clear n0_ n1_ n2_ n3_;clear hg hw hp_)|(go_at_call 25;(with_reducible refine (fix_Mul.calls k3 (wrap64 ((wrap64 ((rd t328 (ji28)) - (rd t328 x55_3))) - (wrap64 ((rd t325 (ji28)) + (rd t325 x55_3))))) 1 5 t340 _ A38.out).mono ?_);rintro e w' ⟨rfl,⟨nd,rfl⟩⟩;(try first|exact ⟨rfl,_,World.drewN_drewN _ _ _⟩|exact ⟨rfl,_,Eq.trans (World.drewN_drewN _ _ _) (congrArg (World.drewN _) (Nat.add_assoc _ _ _))⟩);have p42 : 0 ≤ ((ji39) : Int):=of_decide_eq_true (by first|(with_reducible assumption)|assumption);have q42 : ((ji39) : Int) < ((x11_3.length : Int) : Int):=of_decide_eq_true (by first|(with_reducible assumption)|assumption);obtain ⟨hx42_0,hf42_0⟩:=Kd.R_celln 0 HO_11.out ((ji39) : Int) p42 q42;replace p42:=eq_true p42;replace q42:=eq_true q42;obtain ⟨hy47_,hz47_⟩:=Kd.R_celln 0 HO_11.out ((ji39) : Int) (of_decide_eq_true (by first|(with_reducible assumption)|assumption)) (of_decide_eq_true (by first|(with_reducible assumption)|assumption));have HP47:=Kd.R_putg HO_11.out ((ji39) : Int) t340)|((with_reducible refine gate_store (t:=2) (p:=96) rfl ?_);(try (rw [drewN_self w46];generalize hq_ : World.drewN w46 _ = w46;have n0_:=ak_ (Kd.R_at hq_ HO_9.out);have n1_:=ak_ (Kd.R_at hq_ HO_10.out);have n2_:=ak_ (Kd.R_at hq_ HO_11.out);have n3_:=ak_ (below_at hq_ HB.out);clear hq_ HO_9 HO_10 HO_11 HB;have HO_9:=n0_;have HO_10:=n1_;have HO_11:=n2_;have HB:=n3_;clear n0_ n1_ n2_ n3_;(try (obtain ⟨hy47_,hz47_⟩:=Kd.R_celln 0 HO_11.out ((ji39) : Int) (of_decide_eq_true (by first|(with_reducible assumption)|assumption)) (of_decide_eq_true (by first|(with_reducible assumption)|assumption))));(try (have HP47:=Kd.R_putg HO_11.out ((ji39) : Int) t340))));refine store_event (t:=2) (p:=96) (v:=?vo_w48) (w1:=(w46.setCell ⟨go37,((ji39) : Int).toNat,none⟩ (.int .i64 t340))) ?hg ?ho ?hn ?hr ?_;(case ho => rfl);(case hg => rfl);(case hn => rfl);(case hr => first|(go_simp;done)|(go_simp;rfl));intro w48 hw;have hg : w46.grownBy w48 (some go37):=(by rw [hw];exact HP47.2);have hp_ : Kd.R (Kd.int .i64) 2 w48 w.heap.size (fun k_ => some k_ ≠ (.slice (some ad334) t325.length co43 : Value).ownBlock ∧ some k_ ≠ (.slice (some ad336) t328.length co44 : Value).ownBlock) (.slice (some ⟨go37,0,none⟩) x11_3.length co37) y341:=(by rw [hw,Ny341.out];exact HP47.1);clear HP47;have n0_:=ak_ (Kd.R_after (v:=(.slice (some ⟨go37,0,none⟩) x11_3.length co37)) (v1:=(.slice (some ⟨go37,0,none⟩) x11_3.length co37)) (ok:=(fun k_ => some k_ ≠ (.slice (some ad336) t328.length co44 : Value).ownBlock)) (by (with_reducible repeat (first|apply ra_|apply rb_|apply rc_));exact HO_9.out) hg (.inl rfl));have n1_:=ak_ (Kd.R_after (v:=(.slice (some ⟨go37,0,none⟩) x11_3.length co37)) (v1:=(.slice (some ⟨go37,0,none⟩) x11_3.length co37)) (ok:=(fun k_ => some k_ ≠ (.slice (some ad334) t325.length co43 : Value).ownBlock)) (by (with_reducible repeat (first|apply ra_|apply rb_|apply rc_));exact HO_10.out) hg (.inl rfl));have n2_:=ak_ (hp_);have n3_:=ak_ ((by rw [hw];exact below_set (HB.out) GB37.out : Below w.heap.size w w48));clear HO_9;clear HO_10;clear HO_11;clear HB;have HO_9:=n0_;have HO_10:=n1_;have HO_11:=n2_;have HB:=n3_;clear n0_ n1_ n2_ n3_;clear hg hw hp_));try go_wp2_with (first|(go_at_call 25;(with_reducible refine (fix_Mul.calls k3 (wrap64 ((wrap64 (-(wrap64 ((rd t328 (ji28)) - (rd t328 x55_3))))) - (wrap64 ((rd t325 (ji28)) + (rd t325 x55_3))))) 1 5 t338 _ A35.out).mono ?_);rintro e w' ⟨rfl,⟨nd,rfl⟩⟩;(try first|exact ⟨rfl,_,World.drewN_drewN _ _ _⟩|exact ⟨rfl,_,Eq.trans (World.drewN_drewN _ _ _) (congrArg (World.drewN _) (Nat.add_assoc _ _ _))⟩);have p37 : 0 ≤ (x55_3 : Int):=of_decide_eq_true (by first|(with_reducible assumption)|assumption);have q37 : (x55_3 : Int) < ((x11_3.length : Int) : Int):=of_decide_eq_true (by first|(with_reducible assumption)|assumption);obtain ⟨go37,co37,eo37,gb37,gl37,cl37,HG37⟩:=Kd.R_form HO_11.out (by omega);(first|cases eo37|(injection eo37 with ea_ en_ ec_;(first|subst ea_|(injection ea_ with ea_;subst ea_));subst ec_;clear en_));have GB37:=ak_ gb37;have GG37:=ak_ HG37;clear gb37 gl37 HG37;obtain ⟨hx37_0,hf37_0⟩:=Kd.R_celln 0 HO_11.out (x55_3 : Int) p37 q37;replace p37:=eq_true p37;replace q37:=eq_true q37;obtain ⟨hy45_,hz45_⟩:=Kd.R_celln 0 HO_11.out (x55_3 : Int) (of_decide_eq_true (by first|(with_reducible assumption)|assumption)) (of_decide_eq_true (by first|(with_reducible assumption)|assumption));have HP45:=Kd.R_putg HO_11.out (x55_3 : Int) t338)|((with_reducible refine gate_store (t:=2) (p:=85) rfl ?_);(try (rw [drewN_self wr];generalize hq_ : World.drewN wr _ = wr;have n0_:=ak_ (Kd.R_at hq_ HO_9.out);have n1_:=ak_ (Kd.R_at hq_ HO_10.out);have n2_:=ak_ (Kd.R_at hq_ HO_11.out);have n3_:=ak_ (below_at hq_ HB.out);clear hq_ HO_9 HO_10 HO_11 HB;have HO_9:=n0_;have HO_10:=n1_;have HO_11:=n2_;have HB:=n3_;clear n0_ n1_ n2_ n3_;(try (obtain ⟨hy45_,hz45_⟩:=Kd.R_celln 0 HO_11.out (x55_3 : Int) (of_decide_eq_true (by first|(with_reducible assumption)|assumption)) (of_decide_eq_true (by first|(with_reducible assumption)|assumption))));(try (have HP45:=Kd.R_putg HO_11.out (x55_3 : Int) t338))));refine store_event (t:=2) (p:=85) (v:=?vo_w46) (w1:=(wr.setCell ⟨go37,(x55_3 : Int).toNat,none⟩ (.int .i64 t338))) ?hg ?ho ?hn ?hr ?_;(case ho => rfl);(case hg => rfl);(case hn => rfl);(case hr => first|(go_simp;done)|(go_simp;rfl));intro w46 hw;have hg : wr.grownBy w46 (some go37):=(by rw [hw];exact HP45.2);have hp_ : Kd.R (Kd.int .i64) 2 w46 w.heap.size (fun k_ => some k_ ≠ (.slice (some ad334) t325.length co43 : Value).ownBlock ∧ some k_ ≠ (.slice (some ad336) t328.length co44 : Value).ownBlock) (.slice (some ⟨go37,0,none⟩) x11_3.length co37) y339:=(by rw [hw,Ny339.out];exact HP45.1);clear HP45;have n0_:=ak_ (Kd.R_after (v:=(.slice (some ⟨go37,0,none⟩) x11_3.length co37)) (v1:=(.slice (some ⟨go37,0,none⟩) x11_3.length co37)) (ok:=(fun k_ => some k_ ≠ (.slice (some ad336) t328.length co44 : Value).ownBlock)) (by (with_reducible repeat (first|apply ra_|apply rb_|apply rc_));exact HO_9.out) hg (.inl rfl));have n1_:=ak_ (Kd.R_after (v:=(.slice (some ⟨go37,0,none⟩) x11_3.length co37)) (v1:=(.slice (some ⟨go37,0,none⟩) x11_3.length co37)) (ok:=(fun k_ => some k_ ≠ (.slice (some ad334) t325.length co43 : Value).ownBlock)) (by (with_reducible repeat (first|apply ra_|apply rb_|apply rc_));exact HO_10.out) hg (.inl rfl));have n2_:=ak_ (hp_);have n3_:=ak_ ((by rw [hw];exact below_set (HB.out) GB37.out : Below w.heap.size w w46));clear HO_9;clear HO_10;clear HO_11;clear HB;have HO_9:=n0_;have HO_10:=n1_;have HO_11:=n2_;have HB:=n3_;clear n0_ n1_ n2_ n3_;clear hg hw hp_)|(go_at_call 25;(with_reducible refine (fix_Mul.calls k3 (wrap64 ((wrap64 ((rd t328 (ji28)) - (rd t328 x55_3))) - (wrap64 ((rd t325 (ji28)) + (rd t325 x55_3))))) 1 5 t340 _ A38.out).mono ?_);rintro e w' ⟨rfl,⟨nd,rfl⟩⟩;(try first|exact ⟨rfl,_,World.drewN_drewN _ _ _⟩|exact ⟨rfl,_,Eq.trans (World.drewN_drewN _ _ _) (congrArg (World.drewN _) (Nat.add_assoc _ _ _))⟩);have p42 : 0 ≤ ((ji39) : Int):=of_decide_eq_true (by first|(with_reducible assumption)|assumption);have q42 : ((ji39) : Int) < ((x11_3.length : Int) : Int):=of_decide_eq_true (by first|(with_reducible assumption)|assumption);obtain ⟨hx42_0,hf42_0⟩:=Kd.R_celln 0 HO_11.out ((ji39) : Int) p42 q42;replace p42:=eq_true p42;replace q42:=eq_true q42;obtain ⟨hy47_,hz47_⟩:=Kd.R_celln 0 HO_11.out ((ji39) : Int) (of_decide_eq_true (by first|(with_reducible assumption)|assumption)) (of_decide_eq_true (by first|(with_reducible assumption)|assumption));have HP47:=Kd.R_putg HO_11.out ((ji39) : Int) t340)|((with_reducible refine gate_store (t:=2) (p:=96) rfl ?_);(try (rw [drewN_self w46];generalize hq_ : World.drewN w46 _ = w46;have n0_:=ak_ (Kd.R_at hq_ HO_9.out);have n1_:=ak_ (Kd.R_at hq_ HO_10.out);have n2_:=ak_ (Kd.R_at hq_ HO_11.out);have n3_:=ak_ (below_at hq_ HB.out);clear hq_ HO_9 HO_10 HO_11 HB;have HO_9:=n0_;have HO_10:=n1_;have HO_11:=n2_;have HB:=n3_;clear n0_ n1_ n2_ n3_;(try (obtain ⟨hy47_,hz47_⟩:=Kd.R_celln 0 HO_11.out ((ji39) : Int) (of_decide_eq_true (by first|(with_reducible assumption)|assumption)) (of_decide_eq_true (by first|(with_reducible assumption)|assumption))));(try (have HP47:=Kd.R_putg HO_11.out ((ji39) : Int) t340))));refine store_event (t:=2) (p:=96) (v:=?vo_w48) (w1:=(w46.setCell ⟨go37,((ji39) : Int).toNat,none⟩ (.int .i64 t340))) ?hg ?ho ?hn ?hr ?_;(case ho => rfl);(case hg => rfl);(case hn => rfl);(case hr => first|(go_simp;done)|(go_simp;rfl));intro w48 hw;have hg : w46.grownBy w48 (some go37):=(by rw [hw];exact HP47.2);have hp_ : Kd.R (Kd.int .i64) 2 w48 w.heap.size (fun k_ => some k_ ≠ (.slice (some ad334) t325.length co43 : Value).ownBlock ∧ some k_ ≠ (.slice (some ad336) t328.length co44 : Value).ownBlock) (.slice (some ⟨go37,0,none⟩) x11_3.length co37) y341:=(by rw [hw,Ny341.out];exact HP47.1);clear HP47;have n0_:=ak_ (Kd.R_after (v:=(.slice (some ⟨go37,0,none⟩) x11_3.length co37)) (v1:=(.slice (some ⟨go37,0,none⟩) x11_3.length co37)) (ok:=(fun k_ => some k_ ≠ (.slice (some ad336) t328.length co44 : Value).ownBlock)) (by (with_reducible repeat (first|apply ra_|apply rb_|apply rc_));exact HO_9.out) hg (.inl rfl));have n1_:=ak_ (Kd.R_after (v:=(.slice (some ⟨go37,0,none⟩) x11_3.length co37)) (v1:=(.slice (some ⟨go37,0,none⟩) x11_3.length co37)) (ok:=(fun k_ => some k_ ≠ (.slice (some ad334) t325.length co43 : Value).ownBlock)) (by (with_reducible repeat (first|apply ra_|apply rb_|apply rc_));exact HO_10.out) hg (.inl rfl));have n2_:=ak_ (hp_);have n3_:=ak_ ((by rw [hw];exact below_set (HB.out) GB37.out : Below w.heap.size w w48));clear HO_9;clear HO_10;clear HO_11;clear HB;have HO_9:=n0_;have HO_10:=n1_;have HO_11:=n2_;have HB:=n3_;clear n0_ n1_ n2_ n3_;clear hg hw hp_)))
                     go_roundg k3
                     case measure => have:=HJ1.out;have:=HK2.out;have:=HK3.out;omega
                     case rel => exact ⟨(y341),(ji28),(by first|rfl|(simp;done)|(simp only [← hji28] <;> (first|rfl|simp))|(simp [*];done)),H',⟨by have:=HJ1.out;have:=HK2.out;have:=HK3.out;omega⟩,⟨by (with_reducible repeat (first|apply ra_|apply rb_|apply rc_));exact HO_9.out⟩,⟨by (with_reducible repeat (first|apply ra_|apply rb_|apply rc_));exact HO_10.out⟩,⟨by (with_reducible repeat (first|apply ra_|apply rb_|apply rc_));exact HO_11.out⟩,⟨by repeat (first|(with_reducible first|exact HB.out|apply ba_|apply bb_|apply bc_)|exact HB.out)⟩⟩
                    ·rw [if_neg c41] at H
                     exact absurd H (by simp)
                   ·rw [if_neg c40] at H
                    exact absurd H (by simp)
                  ·rw [if_neg c36] at H
                   exact absurd H (by simp)
                 ·rw [if_neg c34] at H
                  exact absurd H (by simp)
                ·rw [if_neg c33] at H
                 exact absurd H (by simp)
               ·rw [if_neg c32] at H
                exact absurd H (by simp)
              ·rw [if_neg c31] at H
               exact absurd H (by simp)
             ·rw [if_neg c30] at H
              exact absurd H (by simp)
            ·rw [if_neg c29] at H
             exact absurd H (by simp)
           ·rw [if_neg c27] at H
            have c27b0:=decide_eq_false c27
            clear c27
            replace H:=Option.bind_eq_some_iff.mp H
            obtain ⟨t342,A490,H⟩:=H
            (try dsimp only at H)
            have A49:=ak_ A490
            clear A490
            simp only [Option.some.injEq,Prod.mk.injEq] at H
            obtain ⟨rfl,rfl⟩:=H
            obtain ⟨Ao50,co50,eo50⟩:=Kd.R_slice HO_11.out
            subst eo50
            go_wp2_with (first|(go_at_call 28;(with_reducible refine (lpc_Fit.calls k3 _ _ x11_3 t342 _ ?side1 ?side2 A49.out).mono ?_);(case side1 => repeat (first|exact (Kd.R_reads' HO_11.out).2.2|(with_reducible refine Kd.C_alloc ?_ _)|(with_reducible refine Kd.C_drewN ?_ _)|(with_reducible refine Kd.C_drew ?_)));(case side2 => exact (Kd.R_reads' HO_11.out).2.1);rintro e w51 ⟨v343,rfl,ho0,hb⟩;have n0_:=ak_ (Kd.R_elder' (by (with_reducible repeat (first|apply ra_|apply rb_|apply rc_));exact HO_9.out) (Kd.R_base ho0) hb);have n1_:=ak_ (Kd.R_elder' (by (with_reducible repeat (first|apply ra_|apply rb_|apply rc_));exact HO_10.out) (Kd.R_base ho0) hb);have n2_:=ak_ (Kd.R_elder' (by (with_reducible repeat (first|apply ra_|apply rb_|apply rc_));exact HO_11.out) (Kd.R_base ho0) hb);have n3_:=ak_ (Kd.R_lower (Kd.R_new' (Kd.R_new' (Kd.R_new' ho0 (Kd.R_lt (by (with_reducible repeat (first|apply ra_|apply rb_|apply rc_));exact HO_9.out))) (Kd.R_lt (by (with_reducible repeat (first|apply ra_|apply rb_|apply rc_));exact HO_10.out))) (Kd.R_lt (by (with_reducible repeat (first|apply ra_|apply rb_|apply rc_));exact HO_11.out))) (below_size (by repeat (first|(with_reducible first|exact HB.out|apply ba_|apply bb_|apply bc_)|exact HB.out))));have n4_:=ak_ (below_step (by repeat (first|(with_reducible first|exact HB.out|apply ba_|apply bb_|apply bc_)|exact HB.out)) hb);clear HO_9;clear HO_10;clear HO_11;clear HB;have HO_9:=n0_;have HO_10:=n1_;have HO_11:=n2_;have HO344:=n3_;have HB:=n4_;clear n0_ n1_ n2_ n3_ n4_;(try clear hb);(try clear ho0)))
            repeat (go_quiet (first|(go_at_call 28;(with_reducible refine (lpc_Fit.calls k3 _ _ x11_3 t342 _ ?side1 ?side2 A49.out).mono ?_);(case side1 => repeat (first|exact (Kd.R_reads' HO_11.out).2.2|(with_reducible refine Kd.C_alloc ?_ _)|(with_reducible refine Kd.C_drewN ?_ _)|(with_reducible refine Kd.C_drew ?_)));(case side2 => exact (Kd.R_reads' HO_11.out).2.1);rintro e w51 ⟨v343,rfl,ho0,hb⟩;have n0_:=ak_ (Kd.R_elder' (by (with_reducible repeat (first|apply ra_|apply rb_|apply rc_));exact HO_9.out) (Kd.R_base ho0) hb);have n1_:=ak_ (Kd.R_elder' (by (with_reducible repeat (first|apply ra_|apply rb_|apply rc_));exact HO_10.out) (Kd.R_base ho0) hb);have n2_:=ak_ (Kd.R_elder' (by (with_reducible repeat (first|apply ra_|apply rb_|apply rc_));exact HO_11.out) (Kd.R_base ho0) hb);have n3_:=ak_ (Kd.R_lower (Kd.R_new' (Kd.R_new' (Kd.R_new' ho0 (Kd.R_lt (by (with_reducible repeat (first|apply ra_|apply rb_|apply rc_));exact HO_9.out))) (Kd.R_lt (by (with_reducible repeat (first|apply ra_|apply rb_|apply rc_));exact HO_10.out))) (Kd.R_lt (by (with_reducible repeat (first|apply ra_|apply rb_|apply rc_));exact HO_11.out))) (below_size (by repeat (first|(with_reducible first|exact HB.out|apply ba_|apply bb_|apply bc_)|exact HB.out))));have n4_:=ak_ (below_step (by repeat (first|(with_reducible first|exact HB.out|apply ba_|apply bb_|apply bc_)|exact HB.out)) hb);clear HO_9;clear HO_10;clear HO_11;clear HB;have HO_9:=n0_;have HO_10:=n1_;have HO_11:=n2_;have HO344:=n3_;have HB:=n4_;clear n0_ n1_ n2_ n3_ n4_;(try clear hb);(try clear ho0)));try go_wp2_with (first|(go_at_call 28;(with_reducible refine (lpc_Fit.calls k3 _ _ x11_3 t342 _ ?side1 ?side2 A49.out).mono ?_);(case side1 => repeat (first|exact (Kd.R_reads' HO_11.out).2.2|(with_reducible refine Kd.C_alloc ?_ _)|(with_reducible refine Kd.C_drewN ?_ _)|(with_reducible refine Kd.C_drew ?_)));(case side2 => exact (Kd.R_reads' HO_11.out).2.1);rintro e w51 ⟨v343,rfl,ho0,hb⟩;have n0_:=ak_ (Kd.R_elder' (by (with_reducible repeat (first|apply ra_|apply rb_|apply rc_));exact HO_9.out) (Kd.R_base ho0) hb);have n1_:=ak_ (Kd.R_elder' (by (with_reducible repeat (first|apply ra_|apply rb_|apply rc_));exact HO_10.out) (Kd.R_base ho0) hb);have n2_:=ak_ (Kd.R_elder' (by (with_reducible repeat (first|apply ra_|apply rb_|apply rc_));exact HO_11.out) (Kd.R_base ho0) hb);have n3_:=ak_ (Kd.R_lower (Kd.R_new' (Kd.R_new' (Kd.R_new' ho0 (Kd.R_lt (by (with_reducible repeat (first|apply ra_|apply rb_|apply rc_));exact HO_9.out))) (Kd.R_lt (by (with_reducible repeat (first|apply ra_|apply rb_|apply rc_));exact HO_10.out))) (Kd.R_lt (by (with_reducible repeat (first|apply ra_|apply rb_|apply rc_));exact HO_11.out))) (below_size (by repeat (first|(with_reducible first|exact HB.out|apply ba_|apply bb_|apply bc_)|exact HB.out))));have n4_:=ak_ (below_step (by repeat (first|(with_reducible first|exact HB.out|apply ba_|apply bb_|apply bc_)|exact HB.out)) hb);clear HO_9;clear HO_10;clear HO_11;clear HB;have HO_9:=n0_;have HO_10:=n1_;have HO_11:=n2_;have HO344:=n3_;have HB:=n4_;clear n0_ n1_ n2_ n3_ n4_;(try clear hb);(try clear ho0))))
            go_ret2
            exact ⟨_,by first|rfl|(simp [errW_none,errW_some] <;> rfl)|(simp [*,errW_none,errW_some] <;> rfl),by (with_reducible repeat (first|apply ra_|apply rb_|apply rc_));exact Kd.R_mono HO344.out (fun _ hk => trivial),by repeat (first|(with_reducible first|exact HB.out|apply ba_|apply bb_|apply bc_)|exact HB.out)⟩
        ·rw [if_neg c20] at H
         exact absurd H (by simp)
       ·rw [if_neg c19] at H
        exact absurd H (by simp)

end Go.Proofs.Ytllglpcpjeggcaa.P
