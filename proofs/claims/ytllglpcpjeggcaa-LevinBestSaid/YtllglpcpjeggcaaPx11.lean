/- The machine side of the laws of one chapter, without conditions: each call of a Go function comes to what the Lean function of its name answers. Written for this claim by a program of the prover. -/
import Derived.Test.YtllglpcpjeggcaaPx0
import Derived.Test.YtllglpcpjeggcaaPx1
import Derived.Test.YtllglpcpjeggcaaPx2
import Derived.Test.YtllglpcpjeggcaaPx5
namespace Go.Proofs.Ytllglpcpjeggcaa.P
open Go.RowKit Go.Proofs.YtllglpcpjeggcaaW.PrintWords Go.Proofs.YtllglpcpjeggcaaW.PrintLast Go.Proofs.YtllglpcpjeggcaaW.PrintMore
attribute [local go_sem] max2_int min2_int max_two min_two max_three min_three max_four min_four   -- for this text's walks alone
set_option linter.unusedVariables false
set_option linter.unusedSimpArgs false

/-! ### levin_Rest: function 13 -/
mutual
def levin_Rest.j0 : Nat → List Int → List Int → Bool → Option (List Int × Int)
 | 0,_,_,_ => none
 | k + 1,x0,x1,x18 => if x18 = true then (some (([] : List Int),1)) else ((levin_sound.f k x0).bind fun t222 => (if 0 ≤ (t222.length : Int) then (if ((t222.length : Int) : Int).toNat ≤ 35184372088832 then (levin_Rest.l0 k t222 x1 (List.replicate ((t222.length : Int) : Int).toNat 0) (t222.length : Int) 0) else (none)) else (none)))
def levin_Rest.l0 : Nat → List Int → List Int → List Int → Int → Int → Option (List Int × Int)
 | 0,_,_,_,_,_ => none
 | k + 1,x0,x1,x6,x25,x26 => if x26 < x25 then (if 0 ≤ x26 then (if x26 < (x0.length : Int) then (levin_Rest.l1 k x0 x1 x6 x26 (rd x0 x26) x25 x26 x1 (x1.length : Int) 0) else (none)) else (none)) else (some (x6,0))
def levin_Rest.l1 : Nat → List Int → List Int → List Int → Int → Int → Int → Int → List Int → Int → Int → Option (List Int × Int)
 | 0,_,_,_,_,_,_,_,_,_,_ => none
 | k + 1,x0,x1,x6,x7,x8,x25,x26,x31,x32,x33 => if x33 < x32 then (if 0 ≤ x33 then (if x33 < (x31.length : Int) then (if (wrap64 ((wrap64 (x7 - 1)) - x33)) ≥ 0 then ((fix_Clamp.f k (rd x31 x33) (-131072) 131072).bind fun t231 => (if 0 ≤ (wrap64 ((wrap64 (x7 - 1)) - x33)) then (if (wrap64 ((wrap64 (x7 - 1)) - x33)) < (x0.length : Int) then ((fix_Mul.f k t231 (rd x0 (wrap64 ((wrap64 (x7 - 1)) - x33))) 12).bind fun t233 => (levin_Rest.l1 k x0 x1 x6 x7 (wrap64 (x8 - t233)) x25 x26 x31 x32 (wrap64 (x33 + 1)))) else (none)) else (none))) else (levin_Rest.l1 k x0 x1 x6 x7 x8 x25 x26 x31 x32 (wrap64 (x33 + 1)))) else (none)) else (none)) else (if 0 ≤ x7 then (if x7 < (x6.length : Int) then (levin_Rest.l0 k x0 x1 (x6.set (x7 : Int).toNat x8) x25 (wrap64 (x26 + 1))) else (none)) else (none))
end
def levin_Rest.f (k : Nat) (l0 : List Int) (l1 : List Int) : Option (List Int × Int):=if (l0.length : Int) > 960 then (levin_Rest.j0 k l0 l1 true) else (levin_Rest.j0 k l0 l1 (decide ((l1.length : Int) > 32)))
theorem levin_Rest.mono_l : ∀ k,(∀ y0 y1 y2,LeO (levin_Rest.j0 k y0 y1 y2) (levin_Rest.j0 (k + 1) y0 y1 y2)) ∧ (∀ y0 y1 y2 y3 y4,LeO (levin_Rest.l0 k y0 y1 y2 y3 y4) (levin_Rest.l0 (k + 1) y0 y1 y2 y3 y4)) ∧ (∀ y0 y1 y2 y3 y4 y5 y6 y7 y8 y9,LeO (levin_Rest.l1 k y0 y1 y2 y3 y4 y5 y6 y7 y8 y9) (levin_Rest.l1 (k + 1) y0 y1 y2 y3 y4 y5 y6 y7 y8 y9))
 | 0 => ⟨fun _ _ _ r h => by simp [levin_Rest.j0] at h,fun _ _ _ _ _ r h => by simp [levin_Rest.l0] at h,fun _ _ _ _ _ _ _ _ _ _ r h => by simp [levin_Rest.l1] at h⟩
 | k + 1 => by
  obtain ⟨ih0,ih1,ih2⟩:=levin_Rest.mono_l k
  refine ⟨?_,?_,?_⟩
  all_goals (intros;first|unfold levin_Rest.j0|unfold levin_Rest.l0|unfold levin_Rest.l1)
  all_goals (repeat' first|(with_reducible first|exact ih0 _ _ _|exact ih1 _ _ _ _ _|exact ih2 _ _ _ _ _ _ _ _ _ _|exact fix_Clamp.mono _ _ _ _|exact fix_Mul.mono _ _ _ _|exact levin_sound.mono _ _|exact LeO.refl _|exact LeO.none _|refine LeO.ite ?_ ?_|refine LeO.bind ?_ (fun _ => ?_))|exact ih0 _ _ _|exact ih1 _ _ _ _ _|exact ih2 _ _ _ _ _ _ _ _ _ _|exact fix_Clamp.mono _ _ _ _|exact fix_Mul.mono _ _ _ _|exact levin_sound.mono _ _|exact LeO.none _|refine LeO.ite ?_ ?_|refine LeO.bind ?_ (fun _ => ?_))
theorem levin_Rest.mono : ∀ a0 a1 k,LeO (levin_Rest.f k a0 a1) (levin_Rest.f (k + 1) a0 a1):=by
 intro a0 a1 k
 obtain ⟨ih0,ih1,ih2⟩:=levin_Rest.mono_l k
 unfold levin_Rest.f
 repeat' first|(with_reducible first|exact ih0 _ _ _|exact ih1 _ _ _ _ _|exact ih2 _ _ _ _ _ _ _ _ _ _|exact fix_Clamp.mono _ _ _ _|exact fix_Mul.mono _ _ _ _|exact levin_sound.mono _ _|exact LeO.refl _|exact LeO.none _|refine LeO.ite ?_ ?_|refine LeO.bind ?_ (fun _ => ?_))|exact ih0 _ _ _|exact ih1 _ _ _ _ _|exact ih2 _ _ _ _ _ _ _ _ _ _|exact fix_Clamp.mono _ _ _ _|exact fix_Mul.mono _ _ _ _|exact levin_sound.mono _ _|exact LeO.none _|refine LeO.ite ?_ ?_|refine LeO.bind ?_ (fun _ => ?_)
set_option maxHeartbeats 8000000 in
set_option maxRecDepth 100000 in
theorem levin_Rest.calls (k : Nat) (A0 : Option Addr) (c0 : Nat) (l0 : List Int) (A1 : Option Addr) (c1 : Nat) (l1 : List Int) (r1 : List Int) (r2 : Int) (w : World) (hr0 : Kd.C (Kd.int .i64) w A0 l0.length l0) (hc0 : l0.length ≤ c0) (hr1 : Kd.C (Kd.int .i64) w A1 l1.length l1) (hc1 : l1.length ≤ c1) (h : levin_Rest.f k l0 l1 = some (r1,r2)) :
  Calls Try.prog 13 #[.slice A0 l0.length c0,.slice A1 l1.length c1] w fun e w' => ∃ v0_ : Value,e = .returned (.tuple #[v0_,.int .i64 r2]) ∧ Kd.R (Kd.int .i64) 2 w' w.heap.size (fun _ => True) v0_ r1 ∧ Below w.heap.size w w':=by
 have HR0:=ak_ hr0
 have HC0:=ak_ hc0
 clear hr0 hc0
 have HR1:=ak_ hr1
 have HC1:=ak_ hc1
 clear hr1 hc1
 have HB:=ak_ (Below.refl w.heap.size w)
 have H : (if (l0.length : Int) > 960 then (levin_Rest.j0 k l0 l1 true) else (levin_Rest.j0 k l0 l1 (decide ((l1.length : Int) > 32)))) = some (r1,r2):=h
 clear h
 have HC3:=ak_ H
 clear H
 go_enter Try.func13,Try.ntmps13
 go_upto_region 1 with (fail)
 repeat (go_quiet (fail);go_upto_region 1 with (fail))
 go_cut [18] (fun v18 wc => ∃ (kq : Nat) (x18_2 : Bool),v18 = .bool x18_2 ∧ Aside0 (levin_Rest.j0 kq l0 l1 x18_2 = some (r1,r2)) ∧ Aside0 (kq ≤ k) ∧ Aside0 (Below w.heap.size w wc))
 case first =>
  have H:=HC3.out
  clear HC3
  by_cases c4 : (l0.length : Int) > 960
  ·rw [if_pos c4] at H
   have c4b0 : decide (960 < (l0.length : Int)) = true:=decide_eq_true c4
   have c4b1 : decide (960 < l0.length) = true:=decide_eq_true (by omega)
   clear c4
   (first|rw [c4b0]|(simp only [i64_w,i32_w];rw [c4b0])|skip)
   have H':=ak_ H
   clear H
   go_wp2
   repeat (go_quiet (fail);try go_wp2)
   refine Met.intro ?_
   go_step
   (repeat apply Exists.intro)
   first|refine ⟨?rel57,rfl⟩|(refine ⟨?rel57,?st57⟩;case' st57 => (first|rw [c4b0]|simp only [c4b0]))
   case rel57 => exact ⟨_,(true),(by first|rfl|(simp;done)|(simp [*];done)),H',⟨by first|omega|exact Nat.le_refl _⟩,⟨by repeat (first|(with_reducible first|exact HB.out|apply ba_|apply bb_|apply bc_)|exact HB.out)⟩⟩
  ·rw [if_neg c4] at H
   have c4b0 : decide (960 < (l0.length : Int)) = false:=decide_eq_false c4
   have c4b1 : decide (960 < l0.length) = false:=decide_eq_false (by omega)
   clear c4
   (first|rw [c4b0]|(simp only [i64_w,i32_w];rw [c4b0])|skip)
   have H':=ak_ H
   clear H
   go_wp2
   repeat (go_quiet (fail);try go_wp2)
   refine Met.intro ?_
   go_step
   (repeat apply Exists.intro)
   first|refine ⟨?rel68,rfl⟩|(refine ⟨?rel68,?st68⟩;case' st68 => (first|rw [c4b0]|simp only [c4b0]))
   case rel68 => exact ⟨_,(decide ((l1.length : Int) > 32)),(by first|rfl|(simp;done)|(simp [*];done)),H',⟨by first|omega|exact Nat.le_refl _⟩,⟨by repeat (first|(with_reducible first|exact HB.out|apply ba_|apply bb_|apply bc_)|exact HB.out)⟩⟩
 case rest =>
  clear HC3
  try clear c1
  try clear p2
  try clear c4
  try clear c4b0
  try clear c4b1
  obtain ⟨kq,x18_2,rfl,HA,HJ2,HB⟩:=hcut
  (try simp only [i64_w,i32_w])
  cases kq with
  | zero => exact absurd HA.out (by simp [levin_Rest.j0])
  | succ kj2 =>
   have H:=HA.out
   clear HA
   simp only [levin_Rest.j0] at H
   by_cases c5 : x18_2 = true
   ·subst c5
    have H1 : (some (([] : List Int),1)) = some (r1,r2):=by rw [if_pos rfl] at H;exact H
    clear H
    have H:=H1
    clear H1
    simp only [Option.some.injEq,Prod.mk.injEq] at H
    obtain ⟨rfl,rfl⟩:=H
    go_wp2
    repeat (go_quiet (fail);try go_wp2)
    go_ret2
    exact ⟨_,by first|rfl|(simp [errW_none,errW_some] <;> rfl)|(simp [*,errW_none,errW_some] <;> rfl),by first|exact Kd.R_nil _ _ _ _ _|exact Kd.N_nil _ _ _ _ _|exact Kd.V_nil _ _ _ _ _|exact Kd.Q_nil _ _ _ _ _|exact Kd.S_nil _ _ _ _ _,by repeat (first|(with_reducible first|exact HB.out|apply ba_|apply bb_|apply bc_)|exact HB.out)⟩
   ·replace c5:=Bool.eq_false_iff.mpr c5
    subst c5
    have H1 : ((levin_sound.f kj2 l0).bind fun t222 => (if 0 ≤ (t222.length : Int) then (if ((t222.length : Int) : Int).toNat ≤ 35184372088832 then (levin_Rest.l0 kj2 t222 l1 (List.replicate ((t222.length : Int) : Int).toNat 0) (t222.length : Int) 0) else (none)) else (none))) = some (r1,r2):=by rw [if_neg (show ¬ (false = true) by decide)] at H;exact H
    clear H
    have H:=H1
    clear H1
    replace H:=Option.bind_eq_some_iff.mp H
    obtain ⟨t222,A60,H⟩:=H
    (try dsimp only at H)
    have A6:=ak_ A60
    clear A60
    by_cases c7 : 0 ≤ (t222.length : Int)
    ·rw [if_pos c7] at H
     have c7b0:=eq_true c7
     have c7b1 : decide (0 ≤ (t222.length : Int)) = true:=decide_eq_true c7
     clear c7
     by_cases c8 : ((t222.length : Int) : Int).toNat ≤ 35184372088832
     ·rw [if_pos c8] at H
      have c8b0:=eq_true c8
      have c8b1 : decide (((t222.length : Int) : Int).toNat ≤ 35184372088832) = true:=decide_eq_true c8
      clear c8
      obtain ⟨y225,hy225⟩ : ∃ y_ : List Int,y_ = (List.replicate ((t222.length : Int) : Int).toNat 0):=⟨_,rfl⟩
      replace H : (levin_Rest.l0 kj2 t222 l1 y225 (t222.length : Int) 0) = some (r1,r2):=by first|(rw [hy225];with_reducible exact H)|(have H2_:=(Option.bind_some _ _).symm.trans H;rw [hy225];with_reducible exact H2_)|(have H2_:=(Option.bind_some _ _).symm.trans H;with_reducible exact H2_)|with_reducible exact H|(rw [hy225];exact H)|exact H
      have Ny225:=ak_ hy225
      clear hy225
      have H':=ak_ H
      clear H
      go_wp2_with (first|(go_at_call 23;(with_reducible refine (levin_sound.calls kj2 _ _ l0 t222 _ ?side1 ?side2 A6.out).mono ?_);(case side1 => repeat (first|exact (Kd.C_below HR0.out HB.out)|(with_reducible refine Kd.C_alloc ?_ _)|(with_reducible refine Kd.C_drewN ?_ _)|(with_reducible refine Kd.C_drew ?_)));(case side2 => exact HC0.out);rintro e w9 ⟨v223,rfl,ho0,hb⟩;have n0_:=ak_ (Kd.R_lower ho0 (below_size (by repeat (first|(with_reducible first|exact HB.out|apply ba_|apply bb_|apply bc_)|exact HB.out))));have n1_:=ak_ (below_step (by repeat (first|(with_reducible first|exact HB.out|apply ba_|apply bb_|apply bc_)|exact HB.out)) hb);clear HB;have HO224:=n0_;have HB:=n1_;clear n0_ n1_;(try clear hb);(try clear ho0);obtain ⟨Ao10,co10,eo10⟩:=Kd.R_slice HO224.out;subst eo10)|((with_reducible refine gate_dst (N:=23) rfl ?_);(try (refine gate_guard (by rfl) ?_;dsimp only));refine Kd.R_make (Kd.int .i64) _ 2 rfl (N:=23) rfl 23 _ _ rfl (t222.length : Int) rfl rfl Try.underlying23 (.int .i64 0) 8 info2 rfl (by decide) (by omega) 0 (ok:=fun _ => True) (okp:=fun _ => True) rfl (fun _ hk => hk) trivial (of_decide_eq_true (by first|(with_reducible assumption)|assumption)) (Nat.le_trans (Nat.mul_le_mul_right _ (of_decide_eq_true (by first|(with_reducible assumption)|assumption) : (t222.length : Int).toNat ≤ 35184372088832)) (by omega)) (Below.refl _ _) (Nat.le_refl _) ?_;intro v226 w11 ho12 hb hg_ hnew_;clear hg_ hnew_;(first|rw [← Ny225.out] at ho12|(simp only [Int.reduceToNat] at ho12;rw [← Ny225.out] at ho12));have n0_:=ak_ (Kd.R_elder' (by (with_reducible repeat (first|apply ra_|apply rb_|apply rc_));exact HO224.out) (Kd.R_base ho12) hb);have n1_:=ak_ (Kd.R_lower (Kd.R_new' ho12 (Kd.R_lt (by (with_reducible repeat (first|apply ra_|apply rb_|apply rc_));exact HO224.out))) (below_size (by repeat (first|(with_reducible first|exact HB.out|apply ba_|apply bb_|apply bc_)|exact HB.out))));have n2_:=ak_ (below_step (by repeat (first|(with_reducible first|exact HB.out|apply ba_|apply bb_|apply bc_)|exact HB.out)) hb);clear HO224;clear HB;have HO224:=n0_;have HO227:=n1_;have HB:=n2_;clear n0_ n1_ n2_;clear hb ho12))
      repeat (go_quiet (first|(go_at_call 23;(with_reducible refine (levin_sound.calls kj2 _ _ l0 t222 _ ?side1 ?side2 A6.out).mono ?_);(case side1 => repeat (first|exact (Kd.C_below HR0.out HB.out)|(with_reducible refine Kd.C_alloc ?_ _)|(with_reducible refine Kd.C_drewN ?_ _)|(with_reducible refine Kd.C_drew ?_)));(case side2 => exact HC0.out);rintro e w9 ⟨v223,rfl,ho0,hb⟩;have n0_:=ak_ (Kd.R_lower ho0 (below_size (by repeat (first|(with_reducible first|exact HB.out|apply ba_|apply bb_|apply bc_)|exact HB.out))));have n1_:=ak_ (below_step (by repeat (first|(with_reducible first|exact HB.out|apply ba_|apply bb_|apply bc_)|exact HB.out)) hb);clear HB;have HO224:=n0_;have HB:=n1_;clear n0_ n1_;(try clear hb);(try clear ho0);obtain ⟨Ao10,co10,eo10⟩:=Kd.R_slice HO224.out;subst eo10)|((with_reducible refine gate_dst (N:=23) rfl ?_);(try (refine gate_guard (by rfl) ?_;dsimp only));refine Kd.R_make (Kd.int .i64) _ 2 rfl (N:=23) rfl 23 _ _ rfl (t222.length : Int) rfl rfl Try.underlying23 (.int .i64 0) 8 info2 rfl (by decide) (by omega) 0 (ok:=fun _ => True) (okp:=fun _ => True) rfl (fun _ hk => hk) trivial (of_decide_eq_true (by first|(with_reducible assumption)|assumption)) (Nat.le_trans (Nat.mul_le_mul_right _ (of_decide_eq_true (by first|(with_reducible assumption)|assumption) : (t222.length : Int).toNat ≤ 35184372088832)) (by omega)) (Below.refl _ _) (Nat.le_refl _) ?_;intro v226 w11 ho12 hb hg_ hnew_;clear hg_ hnew_;(first|rw [← Ny225.out] at ho12|(simp only [Int.reduceToNat] at ho12;rw [← Ny225.out] at ho12));have n0_:=ak_ (Kd.R_elder' (by (with_reducible repeat (first|apply ra_|apply rb_|apply rc_));exact HO224.out) (Kd.R_base ho12) hb);have n1_:=ak_ (Kd.R_lower (Kd.R_new' ho12 (Kd.R_lt (by (with_reducible repeat (first|apply ra_|apply rb_|apply rc_));exact HO224.out))) (below_size (by repeat (first|(with_reducible first|exact HB.out|apply ba_|apply bb_|apply bc_)|exact HB.out))));have n2_:=ak_ (below_step (by repeat (first|(with_reducible first|exact HB.out|apply ba_|apply bb_|apply bc_)|exact HB.out)) hb);clear HO224;clear HB;have HO224:=n0_;have HO227:=n1_;have HB:=n2_;clear n0_ n1_ n2_;clear hb ho12));try go_wp2_with (first|(go_at_call 23;(with_reducible refine (levin_sound.calls kj2 _ _ l0 t222 _ ?side1 ?side2 A6.out).mono ?_);(case side1 => repeat (first|exact (Kd.C_below HR0.out HB.out)|(with_reducible refine Kd.C_alloc ?_ _)|(with_reducible refine Kd.C_drewN ?_ _)|(with_reducible refine Kd.C_drew ?_)));(case side2 => exact HC0.out);rintro e w9 ⟨v223,rfl,ho0,hb⟩;have n0_:=ak_ (Kd.R_lower ho0 (below_size (by repeat (first|(with_reducible first|exact HB.out|apply ba_|apply bb_|apply bc_)|exact HB.out))));have n1_:=ak_ (below_step (by repeat (first|(with_reducible first|exact HB.out|apply ba_|apply bb_|apply bc_)|exact HB.out)) hb);clear HB;have HO224:=n0_;have HB:=n1_;clear n0_ n1_;(try clear hb);(try clear ho0);obtain ⟨Ao10,co10,eo10⟩:=Kd.R_slice HO224.out;subst eo10)|((with_reducible refine gate_dst (N:=23) rfl ?_);(try (refine gate_guard (by rfl) ?_;dsimp only));refine Kd.R_make (Kd.int .i64) _ 2 rfl (N:=23) rfl 23 _ _ rfl (t222.length : Int) rfl rfl Try.underlying23 (.int .i64 0) 8 info2 rfl (by decide) (by omega) 0 (ok:=fun _ => True) (okp:=fun _ => True) rfl (fun _ hk => hk) trivial (of_decide_eq_true (by first|(with_reducible assumption)|assumption)) (Nat.le_trans (Nat.mul_le_mul_right _ (of_decide_eq_true (by first|(with_reducible assumption)|assumption) : (t222.length : Int).toNat ≤ 35184372088832)) (by omega)) (Below.refl _ _) (Nat.le_refl _) ?_;intro v226 w11 ho12 hb hg_ hnew_;clear hg_ hnew_;(first|rw [← Ny225.out] at ho12|(simp only [Int.reduceToNat] at ho12;rw [← Ny225.out] at ho12));have n0_:=ak_ (Kd.R_elder' (by (with_reducible repeat (first|apply ra_|apply rb_|apply rc_));exact HO224.out) (Kd.R_base ho12) hb);have n1_:=ak_ (Kd.R_lower (Kd.R_new' ho12 (Kd.R_lt (by (with_reducible repeat (first|apply ra_|apply rb_|apply rc_));exact HO224.out))) (below_size (by repeat (first|(with_reducible first|exact HB.out|apply ba_|apply bb_|apply bc_)|exact HB.out))));have n2_:=ak_ (below_step (by repeat (first|(with_reducible first|exact HB.out|apply ba_|apply bb_|apply bc_)|exact HB.out)) hb);clear HO224;clear HB;have HO224:=n0_;have HO227:=n1_;have HB:=n2_;clear n0_ n1_ n2_;clear hb ho12)))
      go_loopg [26] kj2 (fun kq v26 w' => ∃ (x6_2 : List Int) (x26_2 : Int),v26 = .int .i64 x26_2 ∧ Aside0 (levin_Rest.l0 kq t222 l1 x6_2 (t222.length : Int) x26_2 = some (r1,r2)) ∧ Aside0 (kq ≤ kj2) ∧ Aside0 (Kd.R (Kd.int .i64) 2 w' w.heap.size (fun k_ => some k_ ≠ (v226 : Value).ownBlock) (.slice Ao10 t222.length co10) t222) ∧ Aside0 (Kd.R (Kd.int .i64) 2 w' w.heap.size (fun k_ => some k_ ≠ ((.slice Ao10 t222.length co10) : Value).ownBlock) v226 x6_2) ∧ Aside0 (Below w.heap.size w w'))
      case atStart => exact ⟨(y225),(0),(by first|rfl|(simp;done)|(simp [*];done)),H',⟨Nat.le_refl _⟩,⟨by (with_reducible repeat (first|apply ra_|apply rb_|apply rc_));exact Kd.R_mono HO224.out (fun _ hk => hk.2)⟩,⟨by (with_reducible repeat (first|apply ra_|apply rb_|apply rc_));exact Kd.R_mono HO227.out (fun _ hk => hk.2)⟩,⟨by repeat (first|(with_reducible first|exact HB.out|apply ba_|apply bb_|apply bc_)|exact HB.out)⟩⟩
      case round =>
       clear H'
       try clear c1
       try clear p2
       try clear c4
       try clear c4b0
       try clear c4b1
       try clear c5
       try clear c7
       try clear c7b0
       try clear c7b1
       try clear c8
       try clear c8b0
       try clear c8b1
       try clear p2
       obtain ⟨x6_2,x26_2,rfl,HA,HK2,HO_0,HO_6,HB⟩:=hrel
       (try simp only [i64_w,i32_w])
       cases gk with
       | zero => exact absurd HA.out (by simp [levin_Rest.l0])
       | succ k2 =>
        have H:=HA.out
        clear HA
        simp only [levin_Rest.l0] at H
        by_cases c13 : x26_2 < (t222.length : Int)
        ·rw [if_pos c13] at H
         have c13b0:=decide_eq_true c13
         clear c13
         by_cases c14 : 0 ≤ x26_2
         ·rw [if_pos c14] at H
          have c14b0:=decide_eq_true c14
          clear c14
          by_cases c15 : x26_2 < (t222.length : Int)
          ·rw [if_pos c15] at H
           have c15b0:=decide_eq_true c15
           clear c15
           have H':=ak_ H
           clear H
           have p228 : 0 ≤ (x26_2 : Int):=of_decide_eq_true (by first|(with_reducible assumption)|assumption)
           have q228 : x26_2 < (t222.length : Int):=of_decide_eq_true (by first|(with_reducible assumption)|assumption)
           obtain ⟨ad228,e228,hx228_0⟩:=Kd.at_int (Kd.R_reads' HO_0.out).2.2 x26_2 p228 q228
           cases e228
           replace p228:=eq_true p228
           replace q228:=eq_true q228
           go_wp2
           repeat (go_quiet (fail);try go_wp2)
           go_loopg [8,33] k2 (fun kq v8 v33 w' => ∃ (x8_3 : Int) (x33_3 : Int),v8 = .int .i64 x8_3 ∧ v33 = .int .i64 x33_3 ∧ Aside0 (levin_Rest.l1 kq t222 l1 x6_2 x26_2 x8_3 (t222.length : Int) x26_2 l1 (l1.length : Int) x33_3 = some (r1,r2)) ∧ Aside0 (kq ≤ k2) ∧ Aside0 (Kd.R (Kd.int .i64) 2 w' w.heap.size (fun k_ => some k_ ≠ (v226 : Value).ownBlock) (.slice (some ad228) t222.length co10) t222) ∧ Aside0 (Kd.R (Kd.int .i64) 2 w' w.heap.size (fun k_ => some k_ ≠ ((.slice (some ad228) t222.length co10) : Value).ownBlock) v226 x6_2) ∧ Aside0 (Below w.heap.size w w'))
           case atStart => exact ⟨(rd t222 x26_2),(0),(by first|rfl|(simp;done)|(simp [*];done)),(by first|rfl|(simp;done)|(simp [*];done)),H',⟨Nat.le_refl _⟩,⟨by (with_reducible repeat (first|apply ra_|apply rb_|apply rc_));exact HO_0.out⟩,⟨by (with_reducible repeat (first|apply ra_|apply rb_|apply rc_));exact HO_6.out⟩,⟨by repeat (first|(with_reducible first|exact HB.out|apply ba_|apply bb_|apply bc_)|exact HB.out)⟩⟩
           case round =>
            clear H'
            try clear c1
            try clear p2
            try clear q2
            try clear hx2
            try clear c4
            try clear c4b0
            try clear c4b1
            try clear c5
            try clear c7
            try clear c7b0
            try clear c7b1
            try clear c8
            try clear c8b0
            try clear c8b1
            try clear c13
            try clear c13b0
            try clear c14
            try clear c14b0
            try clear c15
            try clear c15b0
            try clear hx228_0
            try clear p2
            try clear p228
            try clear q228
            obtain ⟨x8_3,x33_3,rfl,rfl,HA,HK3,HO_0,HO_6,HB⟩:=hrel
            (try simp only [i64_w,i32_w])
            cases gk with
            | zero => exact absurd HA.out (by simp [levin_Rest.l1])
            | succ k3 =>
             have H:=HA.out
             clear HA
             simp only [levin_Rest.l1] at H
             by_cases c16 : x33_3 < (l1.length : Int)
             ·rw [if_pos c16] at H
              have c16b0:=decide_eq_true c16
              clear c16
              by_cases c17 : 0 ≤ x33_3
              ·rw [if_pos c17] at H
               have c17b0:=decide_eq_true c17
               clear c17
               by_cases c18 : x33_3 < (l1.length : Int)
               ·rw [if_pos c18] at H
                have c18b0:=decide_eq_true c18
                clear c18
                by_cases c19 : (wrap64 ((wrap64 (x26_2 - 1)) - x33_3)) ≥ 0
                ·rw [if_pos c19] at H
                 have c19b0 : decide (0 ≤ (wrap64 ((wrap64 (x26_2 - 1)) - x33_3))) = true:=decide_eq_true c19
                 clear c19
                 replace H:=Option.bind_eq_some_iff.mp H
                 obtain ⟨t231,A200,H⟩:=H
                 (try dsimp only at H)
                 have A20:=ak_ A200
                 clear A200
                 obtain ⟨ji21,hji21⟩ : ∃ j_ : Int,(wrap64 ((wrap64 (x26_2 - 1)) - x33_3)) = j_:=⟨_,rfl⟩
                 replace H : (if 0 ≤ (ji21) then (if (ji21) < (t222.length : Int) then ((fix_Mul.f k3 t231 (rd t222 (ji21)) 12).bind fun t233 => (levin_Rest.l1 k3 t222 l1 x6_2 x26_2 (wrap64 (x8_3 - t233)) (t222.length : Int) x26_2 l1 (l1.length : Int) (wrap64 (x33_3 + 1)))) else (none)) else (none)) = some (r1,r2):=by first|(rw [hji21] at H;exact H)|(simp only [hji21] at H ⊢;exact H)
                 (try rw [hji21] at c19b0)
                 (try rw [hji21] at A20)
                 have hji21w : (IntKind.i64.wrap ((wrap64 (x26_2 - 1)) - x33_3)) = ji21:=(i64_w _).trans hji21
                 by_cases c22 : 0 ≤ (ji21)
                 ·rw [if_pos c22] at H
                  have c22b0:=decide_eq_true c22
                  clear c22
                  by_cases c23 : (ji21) < (t222.length : Int)
                  ·rw [if_pos c23] at H
                   have c23b0:=decide_eq_true c23
                   clear c23
                   replace H:=Option.bind_eq_some_iff.mp H
                   obtain ⟨t233,A240,H⟩:=H
                   (try dsimp only at H)
                   have A24:=ak_ A240
                   clear A240
                   have H':=ak_ H
                   clear H
                   have p230 : 0 ≤ (x33_3 : Int):=of_decide_eq_true (by first|(with_reducible assumption)|assumption)
                   have q230 : x33_3 < (l1.length : Int):=of_decide_eq_true (by first|(with_reducible assumption)|assumption)
                   obtain ⟨ad230,e230,hx230_0⟩:=Kd.at_int HR1.out x33_3 p230 q230
                   cases e230
                   replace hx230_0:=(HB.out.cell (World.block_lt_of_cell? w _ hx230_0)).trans hx230_0
                   replace p230:=eq_true p230
                   replace q230:=eq_true q230
                   have p232 : 0 ≤ ((ji21) : Int):=of_decide_eq_true (by first|(with_reducible assumption)|assumption)
                   have q232 : (ji21) < (t222.length : Int):=of_decide_eq_true (by first|(with_reducible assumption)|assumption)
                   obtain ⟨ad232,e232,hx232_0⟩:=Kd.at_int (Kd.R_reads' HO_0.out).2.2 (ji21) p232 q232
                   obtain rfl : ad228 = ad232:=(by injection e232)
                   replace p232:=eq_true p232
                   replace q232:=eq_true q232
                   go_wp2_with (first|(go_at_call 26;(with_reducible refine (fix_Clamp.calls k3 (rd l1 x33_3) (-131072) 131072 t231 _ A20.out).mono ?_);rintro e w' ⟨rfl,⟨nd,rfl⟩⟩;(try first|exact ⟨rfl,_,World.drewN_drewN _ _ _⟩|exact ⟨rfl,_,Eq.trans (World.drewN_drewN _ _ _) (congrArg (World.drewN _) (Nat.add_assoc _ _ _))⟩))|(go_at_call 25;(with_reducible refine (fix_Mul.calls k3 t231 (rd t222 (ji21)) 12 t233 _ A24.out).mono ?_);rintro e w' ⟨rfl,⟨nd,rfl⟩⟩;(try first|exact ⟨rfl,_,World.drewN_drewN _ _ _⟩|exact ⟨rfl,_,Eq.trans (World.drewN_drewN _ _ _) (congrArg (World.drewN _) (Nat.add_assoc _ _ _))⟩)))
                   repeat (go_quiet (first|(go_at_call 26;(with_reducible refine (fix_Clamp.calls k3 (rd l1 x33_3) (-131072) 131072 t231 _ A20.out).mono ?_);rintro e w' ⟨rfl,⟨nd,rfl⟩⟩;(try first|exact ⟨rfl,_,World.drewN_drewN _ _ _⟩|exact ⟨rfl,_,Eq.trans (World.drewN_drewN _ _ _) (congrArg (World.drewN _) (Nat.add_assoc _ _ _))⟩))|(go_at_call 25;(with_reducible refine (fix_Mul.calls k3 t231 (rd t222 (ji21)) 12 t233 _ A24.out).mono ?_);rintro e w' ⟨rfl,⟨nd,rfl⟩⟩;(try first|exact ⟨rfl,_,World.drewN_drewN _ _ _⟩|exact ⟨rfl,_,Eq.trans (World.drewN_drewN _ _ _) (congrArg (World.drewN _) (Nat.add_assoc _ _ _))⟩)));try go_wp2_with (first|(go_at_call 26;(with_reducible refine (fix_Clamp.calls k3 (rd l1 x33_3) (-131072) 131072 t231 _ A20.out).mono ?_);rintro e w' ⟨rfl,⟨nd,rfl⟩⟩;(try first|exact ⟨rfl,_,World.drewN_drewN _ _ _⟩|exact ⟨rfl,_,Eq.trans (World.drewN_drewN _ _ _) (congrArg (World.drewN _) (Nat.add_assoc _ _ _))⟩))|(go_at_call 25;(with_reducible refine (fix_Mul.calls k3 t231 (rd t222 (ji21)) 12 t233 _ A24.out).mono ?_);rintro e w' ⟨rfl,⟨nd,rfl⟩⟩;(try first|exact ⟨rfl,_,World.drewN_drewN _ _ _⟩|exact ⟨rfl,_,Eq.trans (World.drewN_drewN _ _ _) (congrArg (World.drewN _) (Nat.add_assoc _ _ _))⟩))))
                   go_roundg k3
                   case measure => have:=HJ2.out;have:=HK2.out;have:=HK3.out;omega
                   case rel => exact ⟨(wrap64 (x8_3 - t233)),(wrap64 (x33_3 + 1)),(by first|rfl|(simp;done)|(simp [*];done)),(by first|rfl|(simp;done)|(simp [*];done)),H',⟨by have:=HJ2.out;have:=HK2.out;have:=HK3.out;omega⟩,⟨by (with_reducible repeat (first|apply ra_|apply rb_|apply rc_));exact HO_0.out⟩,⟨by (with_reducible repeat (first|apply ra_|apply rb_|apply rc_));exact HO_6.out⟩,⟨by repeat (first|(with_reducible first|exact HB.out|apply ba_|apply bb_|apply bc_)|exact HB.out)⟩⟩
                  ·rw [if_neg c23] at H
                   exact absurd H (by simp)
                 ·rw [if_neg c22] at H
                  exact absurd H (by simp)
                ·rw [if_neg c19] at H
                 have c19b0 : decide (0 ≤ (wrap64 ((wrap64 (x26_2 - 1)) - x33_3))) = false:=decide_eq_false c19
                 clear c19
                 have H':=ak_ H
                 clear H
                 have p230 : 0 ≤ (x33_3 : Int):=of_decide_eq_true (by first|(with_reducible assumption)|assumption)
                 have q230 : x33_3 < (l1.length : Int):=of_decide_eq_true (by first|(with_reducible assumption)|assumption)
                 obtain ⟨ad230,e230,hx230_0⟩:=Kd.at_int HR1.out x33_3 p230 q230
                 cases e230
                 replace hx230_0:=(HB.out.cell (World.block_lt_of_cell? w _ hx230_0)).trans hx230_0
                 replace p230:=eq_true p230
                 replace q230:=eq_true q230
                 go_wp2
                 repeat (go_quiet (fail);try go_wp2)
                 go_roundg k3
                 case measure => have:=HJ2.out;have:=HK2.out;have:=HK3.out;omega
                 case rel => exact ⟨(x8_3),(wrap64 (x33_3 + 1)),(by first|rfl|(simp;done)|(simp [*];done)),(by first|rfl|(simp;done)|(simp [*];done)),H',⟨by have:=HJ2.out;have:=HK2.out;have:=HK3.out;omega⟩,⟨by (with_reducible repeat (first|apply ra_|apply rb_|apply rc_));exact HO_0.out⟩,⟨by (with_reducible repeat (first|apply ra_|apply rb_|apply rc_));exact HO_6.out⟩,⟨by repeat (first|(with_reducible first|exact HB.out|apply ba_|apply bb_|apply bc_)|exact HB.out)⟩⟩
               ·rw [if_neg c18] at H
                exact absurd H (by simp)
              ·rw [if_neg c17] at H
               exact absurd H (by simp)
             ·rw [if_neg c16] at H
              have c16b0:=decide_eq_false c16
              clear c16
              by_cases c25 : 0 ≤ x26_2
              ·rw [if_pos c25] at H
               have c25b0:=decide_eq_true c25
               clear c25
               by_cases c26 : x26_2 < (x6_2.length : Int)
               ·rw [if_pos c26] at H
                have c26b0:=decide_eq_true c26
                clear c26
                obtain ⟨y229,hy229⟩ : ∃ y_ : List Int,y_ = (x6_2.set (x26_2 : Int).toNat x8_3):=⟨_,rfl⟩
                replace H : (levin_Rest.l0 k3 t222 l1 y229 (t222.length : Int) (wrap64 (x26_2 + 1))) = some (r1,r2):=by first|(rw [hy229];with_reducible exact H)|(have H2_:=(Option.bind_some _ _).symm.trans H;rw [hy229];with_reducible exact H2_)|(have H2_:=(Option.bind_some _ _).symm.trans H;with_reducible exact H2_)|with_reducible exact H|(rw [hy229];exact H)|exact H
                have Ny229:=ak_ hy229
                clear hy229
                have H':=ak_ H
                clear H
                have p27 : 0 ≤ (x26_2 : Int):=of_decide_eq_true (by first|(with_reducible assumption)|assumption)
                have q27 : (x26_2 : Int) < ((x6_2.length : Int) : Int):=of_decide_eq_true (by first|(with_reducible assumption)|assumption)
                obtain ⟨go27,co27,eo27,gb27,gl27,cl27,HG27⟩:=Kd.R_form HO_6.out (by omega)
                (first|cases eo27|(injection eo27 with ea_ en_ ec_;(first|subst ea_|(injection ea_ with ea_;subst ea_));subst ec_;clear en_))
                have GB27:=ak_ gb27
                have GG27:=ak_ HG27
                clear gb27 gl27 HG27
                obtain ⟨hx27_0,hf27_0⟩:=Kd.R_celln 0 HO_6.out (x26_2 : Int) p27 q27
                replace p27:=eq_true p27
                replace q27:=eq_true q27
                have HP28:=Kd.R_putg HO_6.out (x26_2 : Int) x8_3
                go_wp2_with (first|((with_reducible refine gate_store (t:=2) (p:=59) rfl ?_);(try (rw [drewN_self wr];generalize hq_ : World.drewN wr _ = wr;have n0_:=ak_ (Kd.R_at hq_ HO_0.out);have n1_:=ak_ (Kd.R_at hq_ HO_6.out);have n2_:=ak_ (below_at hq_ HB.out);clear hq_ HO_0 HO_6 HB;have HO_0:=n0_;have HO_6:=n1_;have HB:=n2_;clear n0_ n1_ n2_;(try (have HP28:=Kd.R_putg HO_6.out (x26_2 : Int) x8_3))));refine store_event (t:=2) (p:=59) (v:=?vo_w29) (w1:=(wr.setCell ⟨go27,(x26_2 : Int).toNat,none⟩ (.int .i64 x8_3))) ?hg ?ho ?hn ?hr ?_;(case ho => rfl);(case hg => rfl);(case hn => rfl);(case hr => first|(go_simp;done)|(go_simp;rfl));intro w29 hw;have hg : wr.grownBy w29 (some go27):=(by rw [hw];exact HP28.2);have hp_ : Kd.R (Kd.int .i64) 2 w29 w.heap.size (fun k_ => some k_ ≠ (.slice (some ad228) t222.length co10 : Value).ownBlock) (.slice (some ⟨go27,0,none⟩) x6_2.length co27) y229:=(by rw [hw,Ny229.out];exact HP28.1);clear HP28;have n0_:=ak_ (Kd.R_after (v:=(.slice (some ⟨go27,0,none⟩) x6_2.length co27)) (v1:=(.slice (some ⟨go27,0,none⟩) x6_2.length co27)) (ok:=(fun _ => True)) (by (with_reducible repeat (first|apply ra_|apply rb_|apply rc_));exact Kd.R_mono HO_0.out (fun _ hk => ⟨trivial,hk⟩)) hg (.inl rfl));have n1_:=ak_ (hp_);have n2_:=ak_ ((by rw [hw];exact below_set (HB.out) GB27.out : Below w.heap.size w w29));clear HO_0;clear HO_6;clear HB;have HO_0:=n0_;have HO_6:=n1_;have HB:=n2_;clear n0_ n1_ n2_;clear hg hw hp_))
                repeat (go_quiet (first|((with_reducible refine gate_store (t:=2) (p:=59) rfl ?_);(try (rw [drewN_self wr];generalize hq_ : World.drewN wr _ = wr;have n0_:=ak_ (Kd.R_at hq_ HO_0.out);have n1_:=ak_ (Kd.R_at hq_ HO_6.out);have n2_:=ak_ (below_at hq_ HB.out);clear hq_ HO_0 HO_6 HB;have HO_0:=n0_;have HO_6:=n1_;have HB:=n2_;clear n0_ n1_ n2_;(try (have HP28:=Kd.R_putg HO_6.out (x26_2 : Int) x8_3))));refine store_event (t:=2) (p:=59) (v:=?vo_w29) (w1:=(wr.setCell ⟨go27,(x26_2 : Int).toNat,none⟩ (.int .i64 x8_3))) ?hg ?ho ?hn ?hr ?_;(case ho => rfl);(case hg => rfl);(case hn => rfl);(case hr => first|(go_simp;done)|(go_simp;rfl));intro w29 hw;have hg : wr.grownBy w29 (some go27):=(by rw [hw];exact HP28.2);have hp_ : Kd.R (Kd.int .i64) 2 w29 w.heap.size (fun k_ => some k_ ≠ (.slice (some ad228) t222.length co10 : Value).ownBlock) (.slice (some ⟨go27,0,none⟩) x6_2.length co27) y229:=(by rw [hw,Ny229.out];exact HP28.1);clear HP28;have n0_:=ak_ (Kd.R_after (v:=(.slice (some ⟨go27,0,none⟩) x6_2.length co27)) (v1:=(.slice (some ⟨go27,0,none⟩) x6_2.length co27)) (ok:=(fun _ => True)) (by (with_reducible repeat (first|apply ra_|apply rb_|apply rc_));exact Kd.R_mono HO_0.out (fun _ hk => ⟨trivial,hk⟩)) hg (.inl rfl));have n1_:=ak_ (hp_);have n2_:=ak_ ((by rw [hw];exact below_set (HB.out) GB27.out : Below w.heap.size w w29));clear HO_0;clear HO_6;clear HB;have HO_0:=n0_;have HO_6:=n1_;have HB:=n2_;clear n0_ n1_ n2_;clear hg hw hp_));try go_wp2_with (first|((with_reducible refine gate_store (t:=2) (p:=59) rfl ?_);(try (rw [drewN_self wr];generalize hq_ : World.drewN wr _ = wr;have n0_:=ak_ (Kd.R_at hq_ HO_0.out);have n1_:=ak_ (Kd.R_at hq_ HO_6.out);have n2_:=ak_ (below_at hq_ HB.out);clear hq_ HO_0 HO_6 HB;have HO_0:=n0_;have HO_6:=n1_;have HB:=n2_;clear n0_ n1_ n2_;(try (have HP28:=Kd.R_putg HO_6.out (x26_2 : Int) x8_3))));refine store_event (t:=2) (p:=59) (v:=?vo_w29) (w1:=(wr.setCell ⟨go27,(x26_2 : Int).toNat,none⟩ (.int .i64 x8_3))) ?hg ?ho ?hn ?hr ?_;(case ho => rfl);(case hg => rfl);(case hn => rfl);(case hr => first|(go_simp;done)|(go_simp;rfl));intro w29 hw;have hg : wr.grownBy w29 (some go27):=(by rw [hw];exact HP28.2);have hp_ : Kd.R (Kd.int .i64) 2 w29 w.heap.size (fun k_ => some k_ ≠ (.slice (some ad228) t222.length co10 : Value).ownBlock) (.slice (some ⟨go27,0,none⟩) x6_2.length co27) y229:=(by rw [hw,Ny229.out];exact HP28.1);clear HP28;have n0_:=ak_ (Kd.R_after (v:=(.slice (some ⟨go27,0,none⟩) x6_2.length co27)) (v1:=(.slice (some ⟨go27,0,none⟩) x6_2.length co27)) (ok:=(fun _ => True)) (by (with_reducible repeat (first|apply ra_|apply rb_|apply rc_));exact Kd.R_mono HO_0.out (fun _ hk => ⟨trivial,hk⟩)) hg (.inl rfl));have n1_:=ak_ (hp_);have n2_:=ak_ ((by rw [hw];exact below_set (HB.out) GB27.out : Below w.heap.size w w29));clear HO_0;clear HO_6;clear HB;have HO_0:=n0_;have HO_6:=n1_;have HB:=n2_;clear n0_ n1_ n2_;clear hg hw hp_)))
                go_roundg k3
                case measure => have:=HJ2.out;have:=HK2.out;have:=HK3.out;omega
                case rel => exact ⟨(y229),(wrap64 (x26_2 + 1)),(by first|rfl|(simp;done)|(simp [*];done)),H',⟨by have:=HJ2.out;have:=HK2.out;have:=HK3.out;omega⟩,⟨by (with_reducible repeat (first|apply ra_|apply rb_|apply rc_));exact Kd.R_mono HO_0.out (fun _ hk => hk.2)⟩,⟨by (with_reducible repeat (first|apply ra_|apply rb_|apply rc_));exact HO_6.out⟩,⟨by repeat (first|(with_reducible first|exact HB.out|apply ba_|apply bb_|apply bc_)|exact HB.out)⟩⟩
               ·rw [if_neg c26] at H
                exact absurd H (by simp)
              ·rw [if_neg c25] at H
               exact absurd H (by simp)
          ·rw [if_neg c15] at H
           exact absurd H (by simp)
         ·rw [if_neg c14] at H
          exact absurd H (by simp)
        ·rw [if_neg c13] at H
         have c13b0:=decide_eq_false c13
         clear c13
         simp only [Option.some.injEq,Prod.mk.injEq] at H
         obtain ⟨rfl,rfl⟩:=H
         go_wp2
         repeat (go_quiet (fail);try go_wp2)
         go_ret2
         exact ⟨_,by first|rfl|(simp [errW_none,errW_some] <;> rfl)|(simp [*,errW_none,errW_some] <;> rfl),by (with_reducible repeat (first|apply ra_|apply rb_|apply rc_));exact Kd.R_mono HO_6.out (fun _ hk => trivial),by repeat (first|(with_reducible first|exact HB.out|apply ba_|apply bb_|apply bc_)|exact HB.out)⟩
     ·rw [if_neg c8] at H
      exact absurd H (by simp)
    ·rw [if_neg c7] at H
     exact absurd H (by simp)

end Go.Proofs.Ytllglpcpjeggcaa.P
