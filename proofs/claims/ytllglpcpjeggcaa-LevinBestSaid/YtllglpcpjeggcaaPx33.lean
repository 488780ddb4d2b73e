/- The machine side of the laws of one chapter, without conditions: each call of a Go function comes to what the Lean function of its name answers. Written for this claim by a program of the prover. -/
import Derived.Test.YtllglpcpjeggcaaPx0
import Derived.Test.YtllglpcpjeggcaaPx27
import Derived.Test.YtllglpcpjeggcaaPx28
import Derived.Test.YtllglpcpjeggcaaPx31
import Derived.Test.YtllglpcpjeggcaaPx32
namespace Go.Proofs.Ytllglpcpjeggcaa.P
open Go.RowKit Go.Proofs.YtllglpcpjeggcaaW.PrintWords Go.Proofs.YtllglpcpjeggcaaW.PrintLast Go.Proofs.YtllglpcpjeggcaaW.PrintMore
attribute [local go_sem] max2_int min2_int max_two min_two max_three min_three max_four min_four   -- for this text's walks alone
set_option linter.unusedVariables false
set_option linter.unusedSimpArgs false

/-! ### madrigalref6_Stable: function 48 -/
mutual
def madrigalref6_Stable.l0 : Nat → List Int → Int → Option (Bool)
 | 0,_,_ => none
 | k + 1,x3,x4 => if x4 < (x3.length : Int) then (if 0 ≤ x4 then (madrigalref6_Stable.l0 k (x3.set (x4 : Int).toNat (wrap64 ((rd x3 x4) * 4096))) (wrap64 (x4 + 1))) else (none)) else (madrigalref6_Stable.l1 k x3 (wrap64 ((x3.length : Int) - 1)))
def madrigalref6_Stable.l1 : Nat → List Int → Int → Option (Bool)
 | 0,_,_ => none
 | k + 1,x3,x5 => if x5 ≥ 0 then (if 0 ≤ x5 then (if x5 < (x3.length : Int) then (if (rd x3 x5) > 16760438 then (madrigalref6_Stable.j2 k x3 x5 (rd x3 x5) true) else (madrigalref6_Stable.j2 k x3 x5 (rd x3 x5) (decide ((rd x3 x5) < (-16760438))))) else (none)) else (none)) else (some true)
def madrigalref6_Stable.j2 : Nat → List Int → Int → Int → Bool → Option (Bool)
 | 0,_,_,_,_ => none
 | k + 1,x3,x5,x6,x46 => if x46 = true then (some false) else ((madrigalref1_Mul.f k x6 x6 24).bind fun t466 => ((some (([] : List Int) : List Int)).bind fun y467 => (if y467.length + x3.length < 17592186044416 then (madrigalref6_Stable.l2 k x3 x5 x6 (wrap64 (16777216 - t466)) (y467 ++ x3) 0) else (none))))
def madrigalref6_Stable.l2 : Nat → List Int → Int → Int → Int → List Int → Int → Option (Bool)
 | 0,_,_,_,_,_,_ => none
 | k + 1,x3,x5,x6,x7,x8,x9 => if x9 < x5 then (if 0 ≤ x9 then (if x9 < (x8.length : Int) then (if 0 ≤ (wrap64 ((wrap64 (x5 - 1)) - x9)) then (if (wrap64 ((wrap64 (x5 - 1)) - x9)) < (x8.length : Int) then ((madrigalref1_Mul.f k x6 (rd x8 (wrap64 ((wrap64 (x5 - 1)) - x9))) 24).bind fun t475 => ((madrigalref1_Div.f k (wrap64 ((rd x8 x9) + t475)) x7 24).bind fun t476 => ((madrigalref1_Clamp.f k t476 (-2147483648) 2147483648).bind fun t477 => (if x9 < (x3.length : Int) then (madrigalref6_Stable.l2 k (x3.set (x9 : Int).toNat t477) x5 x6 x7 x8 (wrap64 (x9 + 1))) else (none))))) else (none)) else (none)) else (none)) else (none)) else (madrigalref6_Stable.l1 k x3 (wrap64 (x5 - 1)))
end
def madrigalref6_Stable.f (k : Nat) (l0 : List Int) : Option (Bool):=if (l0.length : Int) > 32 then (some false) else ((madrigalref6_clamped.f k l0 (-131072) 131072).bind fun t460 => (madrigalref6_Stable.l0 k t460 0))
theorem madrigalref6_Stable.mono_l : ∀ k,(∀ y0 y1,LeO (madrigalref6_Stable.l0 k y0 y1) (madrigalref6_Stable.l0 (k + 1) y0 y1)) ∧ (∀ y0 y1,LeO (madrigalref6_Stable.l1 k y0 y1) (madrigalref6_Stable.l1 (k + 1) y0 y1)) ∧ (∀ y0 y1 y2 y3,LeO (madrigalref6_Stable.j2 k y0 y1 y2 y3) (madrigalref6_Stable.j2 (k + 1) y0 y1 y2 y3)) ∧ (∀ y0 y1 y2 y3 y4 y5,LeO (madrigalref6_Stable.l2 k y0 y1 y2 y3 y4 y5) (madrigalref6_Stable.l2 (k + 1) y0 y1 y2 y3 y4 y5))
 | 0 => ⟨fun _ _ r h => by simp [madrigalref6_Stable.l0] at h,fun _ _ r h => by simp [madrigalref6_Stable.l1] at h,fun _ _ _ _ r h => by simp [madrigalref6_Stable.j2] at h,fun _ _ _ _ _ _ r h => by simp [madrigalref6_Stable.l2] at h⟩
 | k + 1 => by
  obtain ⟨ih0,ih1,ih2,ih3⟩:=madrigalref6_Stable.mono_l k
  refine ⟨?_,?_,?_,?_⟩
  all_goals (intros;first|unfold madrigalref6_Stable.l0|unfold madrigalref6_Stable.l1|unfold madrigalref6_Stable.j2|unfold madrigalref6_Stable.l2)
  all_goals (repeat' first|(with_reducible first|exact ih0 _ _|exact ih1 _ _|exact ih2 _ _ _ _|exact ih3 _ _ _ _ _ _|exact madrigalref1_Clamp.mono _ _ _ _|exact madrigalref1_Div.mono _ _ _ _|exact madrigalref1_Mul.mono _ _ _ _|exact madrigalref6_clamped.mono _ _ _ _|exact LeO.refl _|exact LeO.none _|refine LeO.ite ?_ ?_|refine LeO.bind ?_ (fun _ => ?_))|exact ih0 _ _|exact ih1 _ _|exact ih2 _ _ _ _|exact ih3 _ _ _ _ _ _|exact madrigalref1_Clamp.mono _ _ _ _|exact madrigalref1_Div.mono _ _ _ _|exact madrigalref1_Mul.mono _ _ _ _|exact madrigalref6_clamped.mono _ _ _ _|exact LeO.none _|refine LeO.ite ?_ ?_|refine LeO.bind ?_ (fun _ => ?_))
theorem madrigalref6_Stable.mono : ∀ a0 k,LeO (madrigalref6_Stable.f k a0) (madrigalref6_Stable.f (k + 1) a0):=by
 intro a0 k
 obtain ⟨ih0,ih1,ih2,ih3⟩:=madrigalref6_Stable.mono_l k
 unfold madrigalref6_Stable.f
 repeat' first|(with_reducible first|exact ih0 _ _|exact ih1 _ _|exact ih2 _ _ _ _|exact ih3 _ _ _ _ _ _|exact madrigalref1_Clamp.mono _ _ _ _|exact madrigalref1_Div.mono _ _ _ _|exact madrigalref1_Mul.mono _ _ _ _|exact madrigalref6_clamped.mono _ _ _ _|exact LeO.refl _|exact LeO.none _|refine LeO.ite ?_ ?_|refine LeO.bind ?_ (fun _ => ?_))|exact ih0 _ _|exact ih1 _ _|exact ih2 _ _ _ _|exact ih3 _ _ _ _ _ _|exact madrigalref1_Clamp.mono _ _ _ _|exact madrigalref1_Div.mono _ _ _ _|exact madrigalref1_Mul.mono _ _ _ _|exact madrigalref6_clamped.mono _ _ _ _|exact LeO.none _|refine LeO.ite ?_ ?_|refine LeO.bind ?_ (fun _ => ?_)
set_option maxHeartbeats 8000000 in
set_option maxRecDepth 100000 in
theorem madrigalref6_Stable.calls (k : Nat) (A0 : Option Addr) (c0 : Nat) (l0 : List Int) (r : Bool) (w : World) (hr0 : Kd.C (Kd.int .i64) w A0 l0.length l0) (hc0 : l0.length ≤ c0) (h : madrigalref6_Stable.f k l0 = some r) :
  Calls Try.prog 48 #[.slice A0 l0.length c0] w fun e w' => e = .returned (.bool r) ∧ Below w.heap.size w w':=by
 have HR0:=ak_ hr0
 have HC0:=ak_ hc0
 clear hr0 hc0
 have HB:=ak_ (Below.refl w.heap.size w)
 have H : (if (l0.length : Int) > 32 then (some false) else ((madrigalref6_clamped.f k l0 (-131072) 131072).bind fun t460 => (madrigalref6_Stable.l0 k t460 0))) = some r:=h
 clear h
 by_cases c2 : (l0.length : Int) > 32
 ·rw [if_pos c2] at H
  have c2b0 : decide (32 < (l0.length : Int)) = true:=decide_eq_true c2
  have c2b1 : decide (32 < l0.length) = true:=decide_eq_true (by omega)
  clear c2
  obtain rfl:=Option.some.inj H
  go_enter Try.func48,Try.ntmps48
  go_wp2
  repeat (go_quiet (fail);try go_wp2)
  go_ret
  exact ⟨by first|rfl|(simp [errW_none,errW_some] <;> rfl)|(simp [*,errW_none,errW_some] <;> rfl),by repeat (first|(with_reducible first|exact HB.out|apply ba_|apply bb_|apply bc_)|exact HB.out)⟩
 ·rw [if_neg c2] at H
  have c2b0 : decide (32 < (l0.length : Int)) = false:=decide_eq_false c2
  have c2b1 : decide (32 < l0.length) = false:=decide_eq_false (by omega)
  clear c2
  replace H:=Option.bind_eq_some_iff.mp H
  obtain ⟨t460,A30,H⟩:=H
  (try dsimp only at H)
  have A3:=ak_ A30
  clear A30
  have H':=ak_ H
  clear H
  go_enter Try.func48,Try.ntmps48
  go_wp2_with (first|(go_at_call 31;(with_reducible refine (madrigalref6_clamped.calls k _ _ l0 (-131072) 131072 t460 _ ?side1 ?side2 A3.out).mono ?_);(case side1 => repeat (first|exact HR0.out|(with_reducible refine Kd.C_alloc ?_ _)|(with_reducible refine Kd.C_drewN ?_ _)|(with_reducible refine Kd.C_drew ?_)));(case side2 => exact HC0.out);rintro e w4 ⟨v461,rfl,ho0,hb⟩;have n0_:=ak_ (Kd.R_lower ho0 (below_size (by repeat (first|(with_reducible first|exact HB.out|apply ba_|apply bb_|apply bc_)|exact HB.out))));have n1_:=ak_ (below_step (by repeat (first|(with_reducible first|exact HB.out|apply ba_|apply bb_|apply bc_)|exact HB.out)) hb);clear HB;have HO462:=n0_;have HB:=n1_;clear n0_ n1_;(try clear hb);(try clear ho0)))
  repeat (go_quiet (first|(go_at_call 31;(with_reducible refine (madrigalref6_clamped.calls k _ _ l0 (-131072) 131072 t460 _ ?side1 ?side2 A3.out).mono ?_);(case side1 => repeat (first|exact HR0.out|(with_reducible refine Kd.C_alloc ?_ _)|(with_reducible refine Kd.C_drewN ?_ _)|(with_reducible refine Kd.C_drew ?_)));(case side2 => exact HC0.out);rintro e w4 ⟨v461,rfl,ho0,hb⟩;have n0_:=ak_ (Kd.R_lower ho0 (below_size (by repeat (first|(with_reducible first|exact HB.out|apply ba_|apply bb_|apply bc_)|exact HB.out))));have n1_:=ak_ (below_step (by repeat (first|(with_reducible first|exact HB.out|apply ba_|apply bb_|apply bc_)|exact HB.out)) hb);clear HB;have HO462:=n0_;have HB:=n1_;clear n0_ n1_;(try clear hb);(try clear ho0)));try go_wp2_with (first|(go_at_call 31;(with_reducible refine (madrigalref6_clamped.calls k _ _ l0 (-131072) 131072 t460 _ ?side1 ?side2 A3.out).mono ?_);(case side1 => repeat (first|exact HR0.out|(with_reducible refine Kd.C_alloc ?_ _)|(with_reducible refine Kd.C_drewN ?_ _)|(with_reducible refine Kd.C_drew ?_)));(case side2 => exact HC0.out);rintro e w4 ⟨v461,rfl,ho0,hb⟩;have n0_:=ak_ (Kd.R_lower ho0 (below_size (by repeat (first|(with_reducible first|exact HB.out|apply ba_|apply bb_|apply bc_)|exact HB.out))));have n1_:=ak_ (below_step (by repeat (first|(with_reducible first|exact HB.out|apply ba_|apply bb_|apply bc_)|exact HB.out)) hb);clear HB;have HO462:=n0_;have HB:=n1_;clear n0_ n1_;(try clear hb);(try clear ho0))))
  go_loopg [4] k (fun kq v4 w' => ∃ (x3_1 : List Int) (x4_1 : Int),v4 = .int .i64 x4_1 ∧ Aside0 (madrigalref6_Stable.l0 kq x3_1 x4_1 = some r) ∧ Aside0 (kq ≤ k) ∧ Aside0 (Kd.R (Kd.int .i64) 2 w' w.heap.size (fun _ => True) v461 x3_1) ∧ Aside0 (Below w.heap.size w w'))
  case atStart => exact ⟨(t460),(0),(by first|rfl|(simp;done)|(simp [*];done)),H',⟨Nat.le_refl _⟩,⟨by (with_reducible repeat (first|apply ra_|apply rb_|apply rc_));exact HO462.out⟩,⟨by repeat (first|(with_reducible first|exact HB.out|apply ba_|apply bb_|apply bc_)|exact HB.out)⟩⟩
  case round =>
   clear H'
   try clear c2
   try clear c2b0
   try clear c2b1
   try clear p2
   try clear c4
   obtain ⟨x3_1,x4_1,rfl,HA,HK1,HO_3,HB⟩:=hrel
   (try simp only [i64_w,i32_w])
   cases gk with
   | zero => exact absurd HA.out (by simp [madrigalref6_Stable.l0])
   | succ k1 =>
    have H:=HA.out
    clear HA
    simp only [madrigalref6_Stable.l0] at H
    by_cases c5 : x4_1 < (x3_1.length : Int)
    ·rw [if_pos c5] at H
     have c5b0:=decide_eq_true c5
     clear c5
     by_cases c6 : 0 ≤ x4_1
     ·rw [if_pos c6] at H
      have c6b0:=decide_eq_true c6
      clear c6
      obtain ⟨y464,hy464⟩ : ∃ y_ : List Int,y_ = (x3_1.set (x4_1 : Int).toNat (wrap64 ((rd x3_1 x4_1) * 4096))):=⟨_,rfl⟩
      replace H : (madrigalref6_Stable.l0 k1 y464 (wrap64 (x4_1 + 1))) = some r:=by first|(rw [hy464];with_reducible exact H)|(have H2_:=(Option.bind_some _ _).symm.trans H;rw [hy464];with_reducible exact H2_)|(have H2_:=(Option.bind_some _ _).symm.trans H;with_reducible exact H2_)|with_reducible exact H|(rw [hy464];exact H)|exact H
      have Ny464:=ak_ hy464
      clear hy464
      have H':=ak_ H
      clear H
      obtain ⟨Ao8,co8,eo8⟩:=Kd.R_slice HO_3.out
      subst eo8
      have p463 : 0 ≤ (x4_1 : Int):=of_decide_eq_true (by first|(with_reducible assumption)|assumption)
      have q463 : x4_1 < (x3_1.length : Int):=of_decide_eq_true (by first|(with_reducible assumption)|assumption)
      obtain ⟨ad463,e463,hx463_0⟩:=Kd.at_int (Kd.R_reads' HO_3.out).2.2 x4_1 p463 q463
      cases e463
      replace p463:=eq_true p463
      replace q463:=eq_true q463
      have p7 : 0 ≤ (x4_1 : Int):=of_decide_eq_true (by first|(with_reducible assumption)|assumption)
      have q7 : (x4_1 : Int) < ((x3_1.length : Int) : Int):=of_decide_eq_true (by first|(with_reducible assumption)|assumption)
      obtain ⟨go7,co7,eo7,gb7,gl7,cl7,HG7⟩:=Kd.R_form HO_3.out (by omega)
      (first|cases eo7|(injection eo7 with ea_ en_ ec_;(first|subst ea_|(injection ea_ with ea_;subst ea_));subst ec_;clear en_))
      have GB7:=ak_ gb7
      have GG7:=ak_ HG7
      clear gb7 gl7 HG7
      (first|simp only [add_plain] at hx463_0|skip)
      obtain ⟨hx7_0,hf7_0⟩:=Kd.R_celln 0 HO_3.out (x4_1 : Int) p7 q7
      replace p7:=eq_true p7
      replace q7:=eq_true q7
      have HP9:=Kd.R_putg HO_3.out (x4_1 : Int) (wrap64 ((rd x3_1 x4_1) * 4096))
      go_wp2_with (first|((with_reducible refine gate_store (t:=2) (p:=29) rfl ?_);(try (rw [drewN_self wr];generalize hq_ : World.drewN wr _ = wr;have n0_:=ak_ (Kd.R_at hq_ HO_3.out);have n1_:=ak_ (below_at hq_ HB.out);clear hq_ HO_3 HB;have HO_3:=n0_;have HB:=n1_;clear n0_ n1_;(try (have HP9:=Kd.R_putg HO_3.out (x4_1 : Int) (wrap64 ((rd x3_1 x4_1) * 4096))))));refine store_event (t:=2) (p:=29) (v:=?vo_w10) (w1:=(wr.setCell ⟨go7,(x4_1 : Int).toNat,none⟩ (.int .i64 (wrap64 ((rd x3_1 x4_1) * 4096))))) ?hg ?ho ?hn ?hr ?_;(case ho => rfl);(case hg => rfl);(case hn => rfl);(case hr => first|(go_simp;done)|(go_simp;rfl));intro w10 hw;have hg : wr.grownBy w10 (some go7):=(by rw [hw];exact HP9.2);have hp_ : Kd.R (Kd.int .i64) 2 w10 w.heap.size (fun _ => True) (.slice (some ⟨go7,0,none⟩) x3_1.length co8) y464:=(by rw [hw,Ny464.out];exact HP9.1);clear HP9;have n0_:=ak_ (hp_);have n1_:=ak_ ((by rw [hw];exact below_set (HB.out) GB7.out : Below w.heap.size w w10));clear HO_3;clear HB;have HO_3:=n0_;have HB:=n1_;clear n0_ n1_;clear hg hw hp_))
      repeat (go_quiet (first|((with_reducible refine gate_store (t:=2) (p:=29) rfl ?_);(try (rw [drewN_self wr];generalize hq_ : World.drewN wr _ = wr;have n0_:=ak_ (Kd.R_at hq_ HO_3.out);have n1_:=ak_ (below_at hq_ HB.out);clear hq_ HO_3 HB;have HO_3:=n0_;have HB:=n1_;clear n0_ n1_;(try (have HP9:=Kd.R_putg HO_3.out (x4_1 : Int) (wrap64 ((rd x3_1 x4_1) * 4096))))));refine store_event (t:=2) (p:=29) (v:=?vo_w10) (w1:=(wr.setCell ⟨go7,(x4_1 : Int).toNat,none⟩ (.int .i64 (wrap64 ((rd x3_1 x4_1) * 4096))))) ?hg ?ho ?hn ?hr ?_;(case ho => rfl);(case hg => rfl);(case hn => rfl);(case hr => first|(go_simp;done)|(go_simp;rfl));intro w10 hw;have hg : wr.grownBy w10 (some go7):=(by rw [hw];exact HP9.2);have hp_ : Kd.R (Kd.int .i64) 2 w10 w.heap.size (fun _ => True) (.slice (some ⟨go7,0,none⟩) x3_1.length co8) y464:=(by rw [hw,Ny464.out];exact HP9.1);clear HP9;have n0_:=ak_ (hp_);have n1_:=ak_ ((by rw [hw];exact below_set (HB.out) GB7.out : Below w.heap.size w w10));clear HO_3;clear HB;have HO_3:=n0_;have HB:=n1_;clear n0_ n1_;clear hg hw hp_));try go_wp2_with (first|((with_reducible refine gate_store (t:=2) (p:=29) rfl ?_);(try (rw [drewN_self wr];generalize hq_ : World.drewN wr _ = wr;have n0_:=ak_ (Kd.R_at hq_ HO_3.out);have n1_:=ak_ (below_at hq_ HB.out);clear hq_ HO_3 HB;have HO_3:=n0_;have HB:=n1_;clear n0_ n1_;(try (have HP9:=Kd.R_putg HO_3.out (x4_1 : Int) (wrap64 ((rd x3_1 x4_1) * 4096))))));refine store_event (t:=2) (p:=29) (v:=?vo_w10) (w1:=(wr.setCell ⟨go7,(x4_1 : Int).toNat,none⟩ (.int .i64 (wrap64 ((rd x3_1 x4_1) * 4096))))) ?hg ?ho ?hn ?hr ?_;(case ho => rfl);(case hg => rfl);(case hn => rfl);(case hr => first|(go_simp;done)|(go_simp;rfl));intro w10 hw;have hg : wr.grownBy w10 (some go7):=(by rw [hw];exact HP9.2);have hp_ : Kd.R (Kd.int .i64) 2 w10 w.heap.size (fun _ => True) (.slice (some ⟨go7,0,none⟩) x3_1.length co8) y464:=(by rw [hw,Ny464.out];exact HP9.1);clear HP9;have n0_:=ak_ (hp_);have n1_:=ak_ ((by rw [hw];exact below_set (HB.out) GB7.out : Below w.heap.size w w10));clear HO_3;clear HB;have HO_3:=n0_;have HB:=n1_;clear n0_ n1_;clear hg hw hp_)))
      go_roundg k1
      case measure => have:=HK1.out;omega
      case rel => exact ⟨(y464),(wrap64 (x4_1 + 1)),(by first|rfl|(simp;done)|(simp [*];done)),H',⟨by have:=HK1.out;omega⟩,⟨by (with_reducible repeat (first|apply ra_|apply rb_|apply rc_));exact HO_3.out⟩,⟨by repeat (first|(with_reducible first|exact HB.out|apply ba_|apply bb_|apply bc_)|exact HB.out)⟩⟩
     ·rw [if_neg c6] at H
      exact absurd H (by simp)
    ·rw [if_neg c5] at H
     have c5b0:=decide_eq_false c5
     clear c5
     have H':=ak_ H
     clear H
     obtain ⟨Ao11,co11,eo11⟩:=Kd.R_slice HO_3.out
     subst eo11
     go_wp2
     repeat (go_quiet (fail);try go_wp2)
     go_loopg [5] k1 (fun kq v5 w' => ∃ (x3_2 : List Int) (x5_2 : Int),v5 = .int .i64 x5_2 ∧ Aside0 (madrigalref6_Stable.l1 kq x3_2 x5_2 = some r) ∧ Aside0 (kq ≤ k1) ∧ Aside0 (Kd.R (Kd.int .i64) 2 w' w.heap.size (fun _ => True) (.slice Ao11 x3_1.length co11) x3_2) ∧ Aside0 (Below w.heap.size w w'))
     case atStart => exact ⟨(x3_1),(wrap64 ((x3_1.length : Int) - 1)),(by first|rfl|(simp;done)|(simp [*];done)),H',⟨Nat.le_refl _⟩,⟨by (with_reducible repeat (first|apply ra_|apply rb_|apply rc_));exact HO_3.out⟩,⟨by repeat (first|(with_reducible first|exact HB.out|apply ba_|apply bb_|apply bc_)|exact HB.out)⟩⟩
     case round =>
      clear H'
      try clear c2
      try clear c2b0
      try clear c2b1
      try clear p2
      try clear c4
      try clear p4
      try clear q4
      try clear hx4
      try clear c5
      try clear c5b0
      try clear c6
      try clear c6b0
      try clear p6
      try clear p7
      try clear q7
      try clear hx7
      try clear hf7
      try clear hx463_0
      try clear hx7_0
      try clear p2
      try clear p463
      try clear p7
      try clear q463
      try clear q7
      obtain ⟨x3_2,x5_2,rfl,HA,HK2,HO_3,HB⟩:=hrel
      (try simp only [i64_w,i32_w])
      have hl3_2:=(Kd.R_reads' HO_3.out).1
      rw [hl3_2] at HO_3
      (try simp only [hl3_2])
      cases gk with
      | zero => exact absurd HA.out (by simp [madrigalref6_Stable.l1])
      | succ k2 =>
       have H:=HA.out
       clear HA
       simp only [madrigalref6_Stable.l1] at H
       by_cases c12 : x5_2 ≥ 0
       ·rw [if_pos c12] at H
        have c12b0 : decide (0 ≤ x5_2) = true:=decide_eq_true c12
        (try (have c12h0:=c12b0;simp only [hl3_2] at c12h0))
        clear c12
        by_cases c13 : 0 ≤ x5_2
        ·rw [if_pos c13] at H
         have c13b0:=decide_eq_true c13
         (try (have c13h0:=c13b0;simp only [hl3_2] at c13h0))
         clear c13
         by_cases c14 : x5_2 < (x3_2.length : Int)
         ·rw [if_pos c14] at H
          have c14b0:=decide_eq_true c14
          (try (have c14h0:=c14b0;simp only [hl3_2] at c14h0))
          clear c14
          have HC15:=ak_ H
          clear H
          have p465 : 0 ≤ (x5_2 : Int):=of_decide_eq_true (by first|(with_reducible assumption)|assumption)
          have q465 : x5_2 < (x3_2.length : Int):=of_decide_eq_true (by first|(with_reducible assumption)|assumption)
          obtain ⟨ad465,e465,hx465_0⟩:=Kd.at_int (Kd.R_reads' HO_3.out).2.2 x5_2 p465 q465
          cases e465
          replace p465:=eq_true p465
          replace q465:=eq_true q465
          go_upto_region 12 with (fail)
          repeat (go_quiet (fail);go_upto_region 12 with (fail))
          go_cut [46] (fun v46 wc => ∃ (kq : Nat) (x46_14 : Bool),v46 = .bool x46_14 ∧ Aside0 (madrigalref6_Stable.j2 kq x3_2 x5_2 (rd x3_2 x5_2) x46_14 = some r) ∧ Aside0 (kq ≤ k2) ∧ Aside0 (Kd.R (Kd.int .i64) 2 wc w.heap.size (fun _ => True) (.slice (some ad465) x3_2.length co11) x3_2) ∧ Aside0 (Below w.heap.size w wc))
          case first =>
           have H:=HC15.out
           clear HC15
           by_cases c16 : (rd x3_2 x5_2) > 16760438
           ·rw [if_pos c16] at H
            have c16b0 : decide (16760438 < (rd x3_2 x5_2)) = true:=decide_eq_true c16
            (try (have c16h0:=c16b0;simp only [hl3_2] at c16h0))
            clear c16
            (first|rw [c16b0]|(simp only [i64_w,i32_w];rw [c16b0])|skip)
            have H':=ak_ H
            clear H
            go_wp2
            repeat (go_quiet (fail);try go_wp2)
            refine Met.intro ?_
            go_step
            (repeat apply Exists.intro)
            first|refine ⟨?rel208,rfl⟩|(refine ⟨?rel208,?st208⟩;case' st208 => (first|rw [c16b0]|simp only [c16b0]))
            case rel208 => exact ⟨_,(true),(by first|rfl|(simp;done)|(simp [*];done)),H',⟨by have:=HK1.out;have:=HK2.out;first|omega|exact Nat.le_refl _⟩,⟨by (try simp only [hl3_2]);(with_reducible repeat (first|apply ra_|apply rb_|apply rc_));exact HO_3.out⟩,⟨by repeat (first|(with_reducible first|exact HB.out|apply ba_|apply bb_|apply bc_)|exact HB.out)⟩⟩
           ·rw [if_neg c16] at H
            have c16b0 : decide (16760438 < (rd x3_2 x5_2)) = false:=decide_eq_false c16
            (try (have c16h0:=c16b0;simp only [hl3_2] at c16h0))
            clear c16
            (first|rw [c16b0]|(simp only [i64_w,i32_w];rw [c16b0])|skip)
            have H':=ak_ H
            clear H
            go_wp2
            repeat (go_quiet (fail);try go_wp2)
            refine Met.intro ?_
            go_step
            (repeat apply Exists.intro)
            first|refine ⟨?rel219,rfl⟩|(refine ⟨?rel219,?st219⟩;case' st219 => (first|rw [c16b0]|simp only [c16b0]))
            case rel219 => exact ⟨_,(decide ((rd x3_2 x5_2) < (-16760438))),(by first|rfl|(simp;done)|(simp [*];done)),H',⟨by have:=HK1.out;have:=HK2.out;first|omega|exact Nat.le_refl _⟩,⟨by (try simp only [hl3_2]);(with_reducible repeat (first|apply ra_|apply rb_|apply rc_));exact HO_3.out⟩,⟨by repeat (first|(with_reducible first|exact HB.out|apply ba_|apply bb_|apply bc_)|exact HB.out)⟩⟩
          case rest =>
           clear HC15
           try clear c1
           try clear c2
           try clear c2b0
           try clear c2b1
           try clear p2
           try clear c4
           try clear p4
           try clear q4
           try clear hx4
           try clear c5
           try clear c5b0
           try clear c6
           try clear c6b0
           try clear p6
           try clear p7
           try clear q7
           try clear hx7
           try clear hf7
           try clear c12
           try clear c12b0
           try clear c12h0
           try clear c13
           try clear c13b0
           try clear c13h0
           try clear c14
           try clear c14b0
           try clear c14h0
           try clear c16
           try clear c16b0
           try clear c16h0
           try clear hx463_0
           try clear hx465_0
           try clear hx7_0
           try clear p2
           try clear p4
           try clear p463
           try clear p465
           try clear p6
           try clear p7
           try clear q4
           try clear q463
           try clear q465
           try clear q7
           obtain ⟨kq,x46_14,rfl,HA,HJ14,HO_3,HB⟩:=hcut
           (try simp only [i64_w,i32_w])
           cases kq with
           | zero => exact absurd HA.out (by simp [madrigalref6_Stable.j2])
           | succ kj14 =>
            have H:=HA.out
            clear HA
            simp only [madrigalref6_Stable.j2] at H
            by_cases c17 : x46_14 = true
            ·subst c17
             have H1 : (some false) = some r:=by rw [if_pos rfl] at H;exact H
             clear H
             have H:=H1
             clear H1
             obtain rfl:=Option.some.inj H
             go_wp2
             repeat (go_quiet (fail);try go_wp2)
             go_ret
             exact ⟨by first|rfl|(simp [errW_none,errW_some] <;> rfl)|(simp [*,errW_none,errW_some] <;> rfl),by repeat (first|(with_reducible first|exact HB.out|apply ba_|apply bb_|apply bc_)|exact HB.out)⟩
            ·replace c17:=Bool.eq_false_iff.mpr c17
             subst c17
             have H1 : ((madrigalref1_Mul.f kj14 (rd x3_2 x5_2) (rd x3_2 x5_2) 24).bind fun t466 => ((some (([] : List Int) : List Int)).bind fun y467 => (if y467.length + x3_2.length < 17592186044416 then (madrigalref6_Stable.l2 kj14 x3_2 x5_2 (rd x3_2 x5_2) (wrap64 (16777216 - t466)) (y467 ++ x3_2) 0) else (none)))) = some r:=by rw [if_neg (show ¬ (false = true) by decide)] at H;exact H
             clear H
             have H:=H1
             clear H1
             replace H:=Option.bind_eq_some_iff.mp H
             obtain ⟨t466,A180,H⟩:=H
             (try dsimp only at H)
             have A18:=ak_ A180
             clear A180
             obtain ⟨y467,hy467⟩ : ∃ y_ : List Int,y_ = (([] : List Int)):=⟨_,rfl⟩
             replace H : (if y467.length + x3_2.length < 17592186044416 then (madrigalref6_Stable.l2 kj14 x3_2 x5_2 (rd x3_2 x5_2) (wrap64 (16777216 - t466)) (y467 ++ x3_2) 0) else (none)) = some r:=by first|(rw [hy467];with_reducible exact H)|(have H2_:=(Option.bind_some _ _).symm.trans H;rw [hy467];with_reducible exact H2_)|(have H2_:=(Option.bind_some _ _).symm.trans H;with_reducible exact H2_)|with_reducible exact H|(rw [hy467];exact H)|exact H
             have Ny467:=ak_ hy467
             clear hy467
             by_cases c19 : y467.length + x3_2.length < 17592186044416
             ·rw [if_pos c19] at H
              have LMc19:=ak_ c19
              clear c19
              obtain ⟨y470,hy470⟩ : ∃ y_ : List Int,y_ = (y467 ++ x3_2):=⟨_,rfl⟩
              replace H : (madrigalref6_Stable.l2 kj14 x3_2 x5_2 (rd x3_2 x5_2) (wrap64 (16777216 - t466)) y470 0) = some r:=by first|(rw [hy470];with_reducible exact H)|(have H2_:=(Option.bind_some _ _).symm.trans H;rw [hy470];with_reducible exact H2_)|(have H2_:=(Option.bind_some _ _).symm.trans H;with_reducible exact H2_)|with_reducible exact H|(rw [hy470];exact H)|exact H
              have Ny470:=ak_ hy470
              clear hy470
              have H':=ak_ H
              clear H
              go_wp2_with (first|(go_at_call 34;(with_reducible refine (madrigalref1_Mul.calls kj14 (rd x3_2 x5_2) (rd x3_2 x5_2) 24 t466 _ A18.out).mono ?_);rintro e w' ⟨rfl,⟨nd,rfl⟩⟩;(try first|exact ⟨rfl,_,World.drewN_drewN _ _ _⟩|exact ⟨rfl,_,Eq.trans (World.drewN_drewN _ _ _) (congrArg (World.drewN _) (Nat.add_assoc _ _ _))⟩))|((with_reducible refine gate_dst (N:=51) rfl ?_);refine Kd.R_lit (Kd.int .i64) _ 2 ?hg (N:=51) ?hd (xs:=([] : List Int)) (inner:=[]) (ok:=fun _ => True) (okp:=fun _ => True) ?hr ?hp (fun _ hk => hk) trivial (Below.refl _ _) (Nat.le_refl _) (by simp) ?_;(case hd => rfl);(case hg => rfl);(case hr => first|(go_simp;done)|(go_simp;rfl));(case hp => exact (Reps.none _ _));intro v468 w20 ho21 hb hg_ hnew_;clear hg_ hnew_;(first|rw [← Ny467.out] at ho21|(simp only [Int.reduceToNat] at ho21;rw [← Ny467.out] at ho21));have n0_:=ak_ (Kd.R_elder' (by (with_reducible repeat (first|apply ra_|apply rb_|apply rc_));exact HO_3.out) (Kd.R_base ho21) hb);have n1_:=ak_ (Kd.R_lower (Kd.R_new' ho21 (Kd.R_lt (by (with_reducible repeat (first|apply ra_|apply rb_|apply rc_));exact HO_3.out))) (below_size (by repeat (first|(with_reducible first|exact HB.out|apply ba_|apply bb_|apply bc_)|exact HB.out))));have n2_:=ak_ (below_step (by repeat (first|(with_reducible first|exact HB.out|apply ba_|apply bb_|apply bc_)|exact HB.out)) hb);clear HO_3;clear HB;have HO_3:=n0_;have HO469:=n1_;have HB:=n2_;clear n0_ n1_ n2_;clear hb ho21)|((with_reducible refine gate_builtin (b:=.append) (xs:=#[.tmp 51,.tmp 52]) rfl ?_);at_builtin;refine Kd.R_append_rows (Kd.int .i64) (w0:=w) w.heap.size rfl (.tmp 51) (.tmp 52) 23 2 (.int .i64 0) 8 rfl Try.underlying23 info2 rfl (by decide) (by omega) v468 y467 x3_2 _ _ _ (fun k_ => some k_ ≠ (.slice (some ad465) x3_2.length co11 : Value).ownBlock) (fun _ => False) rfl rfl ?aO ?aR (fun _ _ h => h) (fun _ h => h.elim) ?aF ?aB ?aS ?aL ?_;(case aR => repeat (first|exact (Kd.R_reads' HO_3.out).2.2|(with_reducible refine Kd.C_alloc ?_ _)|(with_reducible refine Kd.C_drewN ?_ _)|(with_reducible refine Kd.C_drew ?_)));(case aB => exact (by repeat (first|(with_reducible first|exact HB.out|apply ba_|apply bb_|apply bc_)|exact HB.out)));(case aF => exact (fun k_ hk => Kd.fresh' (Kd.R_lt (by (with_reducible repeat (first|apply ra_|apply rb_|apply rc_));exact HO_3.out)) k_ hk));(case aO => exact (by (with_reducible repeat (first|apply ra_|apply rb_|apply rc_));exact Kd.R_mono HO469.out (fun _ hk => hk.2)));(case aS => exact (below_size (by repeat (first|(with_reducible first|exact HB.out|apply ba_|apply bb_|apply bc_)|exact HB.out))));(case aL => have:=LMc19.out;omega);intro v471 w22 ho hb hg hat;rw [← Ny470.out] at ho;have n0_:=ak_ (Kd.R_after (ok:=(fun _ => True)) (by (with_reducible repeat (first|apply ra_|apply rb_|apply rc_));exact HO_3.out) hg hat);have n1_:=ak_ (hb);have n2_:=ak_ (ho);clear HO_3;clear HB;clear HO469;have HO_3:=n0_;have HB:=n1_;have HO472:=n2_;clear n0_ n1_ n2_;clear ho hb hg hat))
              repeat (go_quiet (first|(go_at_call 34;(with_reducible refine (madrigalref1_Mul.calls kj14 (rd x3_2 x5_2) (rd x3_2 x5_2) 24 t466 _ A18.out).mono ?_);rintro e w' ⟨rfl,⟨nd,rfl⟩⟩;(try first|exact ⟨rfl,_,World.drewN_drewN _ _ _⟩|exact ⟨rfl,_,Eq.trans (World.drewN_drewN _ _ _) (congrArg (World.drewN _) (Nat.add_assoc _ _ _))⟩))|((with_reducible refine gate_dst (N:=51) rfl ?_);refine Kd.R_lit (Kd.int .i64) _ 2 ?hg (N:=51) ?hd (xs:=([] : List Int)) (inner:=[]) (ok:=fun _ => True) (okp:=fun _ => True) ?hr ?hp (fun _ hk => hk) trivial (Below.refl _ _) (Nat.le_refl _) (by simp) ?_;(case hd => rfl);(case hg => rfl);(case hr => first|(go_simp;done)|(go_simp;rfl));(case hp => exact (Reps.none _ _));intro v468 w20 ho21 hb hg_ hnew_;clear hg_ hnew_;(first|rw [← Ny467.out] at ho21|(simp only [Int.reduceToNat] at ho21;rw [← Ny467.out] at ho21));have n0_:=ak_ (Kd.R_elder' (by (with_reducible repeat (first|apply ra_|apply rb_|apply rc_));exact HO_3.out) (Kd.R_base ho21) hb);have n1_:=ak_ (Kd.R_lower (Kd.R_new' ho21 (Kd.R_lt (by (with_reducible repeat (first|apply ra_|apply rb_|apply rc_));exact HO_3.out))) (below_size (by repeat (first|(with_reducible first|exact HB.out|apply ba_|apply bb_|apply bc_)|exact HB.out))));have n2_:=ak_ (below_step (by repeat (first|(with_reducible first|exact HB.out|apply ba_|apply bb_|apply bc_)|exact HB.out)) hb);clear HO_3;clear HB;have HO_3:=n0_;have HO469:=n1_;have HB:=n2_;clear n0_ n1_ n2_;clear hb ho21)|((with_reducible refine gate_builtin (b:=.append) (xs:=#[.tmp 51,.tmp 52]) rfl ?_);at_builtin;refine Kd.R_append_rows (Kd.int .i64) (w0:=w) w.heap.size rfl (.tmp 51) (.tmp 52) 23 2 (.int .i64 0) 8 rfl Try.underlying23 info2 rfl (by decide) (by omega) v468 y467 x3_2 _ _ _ (fun k_ => some k_ ≠ (.slice (some ad465) x3_2.length co11 : Value).ownBlock) (fun _ => False) rfl rfl ?aO ?aR (fun _ _ h => h) (fun _ h => h.elim) ?aF ?aB ?aS ?aL ?_;(case aR => repeat (first|exact (Kd.R_reads' HO_3.out).2.2|(with_reducible refine Kd.C_alloc ?_ _)|(with_reducible refine Kd.C_drewN ?_ _)|(with_reducible refine Kd.C_drew ?_)));(case aB => exact (by repeat (first|(with_reducible first|exact HB.out|apply ba_|apply bb_|apply bc_)|exact HB.out)));(case aF => exact (fun k_ hk => Kd.fresh' (Kd.R_lt (by (with_reducible repeat (first|apply ra_|apply rb_|apply rc_));exact HO_3.out)) k_ hk));(case aO => exact (by (with_reducible repeat (first|apply ra_|apply rb_|apply rc_));exact Kd.R_mono HO469.out (fun _ hk => hk.2)));(case aS => exact (below_size (by repeat (first|(with_reducible first|exact HB.out|apply ba_|apply bb_|apply bc_)|exact HB.out))));(case aL => have:=LMc19.out;omega);intro v471 w22 ho hb hg hat;rw [← Ny470.out] at ho;have n0_:=ak_ (Kd.R_after (ok:=(fun _ => True)) (by (with_reducible repeat (first|apply ra_|apply rb_|apply rc_));exact HO_3.out) hg hat);have n1_:=ak_ (hb);have n2_:=ak_ (ho);clear HO_3;clear HB;clear HO469;have HO_3:=n0_;have HB:=n1_;have HO472:=n2_;clear n0_ n1_ n2_;clear ho hb hg hat));try go_wp2_with (first|(go_at_call 34;(with_reducible refine (madrigalref1_Mul.calls kj14 (rd x3_2 x5_2) (rd x3_2 x5_2) 24 t466 _ A18.out).mono ?_);rintro e w' ⟨rfl,⟨nd,rfl⟩⟩;(try first|exact ⟨rfl,_,World.drewN_drewN _ _ _⟩|exact ⟨rfl,_,Eq.trans (World.drewN_drewN _ _ _) (congrArg (World.drewN _) (Nat.add_assoc _ _ _))⟩))|((with_reducible refine gate_dst (N:=51) rfl ?_);refine Kd.R_lit (Kd.int .i64) _ 2 ?hg (N:=51) ?hd (xs:=([] : List Int)) (inner:=[]) (ok:=fun _ => True) (okp:=fun _ => True) ?hr ?hp (fun _ hk => hk) trivial (Below.refl _ _) (Nat.le_refl _) (by simp) ?_;(case hd => rfl);(case hg => rfl);(case hr => first|(go_simp;done)|(go_simp;rfl));(case hp => exact (Reps.none _ _));intro v468 w20 ho21 hb hg_ hnew_;clear hg_ hnew_;(first|rw [← Ny467.out] at ho21|(simp only [Int.reduceToNat] at ho21;rw [← Ny467.out] at ho21));have n0_:=ak_ (Kd.R_elder' (by (with_reducible repeat (first|apply ra_|apply rb_|apply rc_));exact HO_3.out) (Kd.R_base ho21) hb);have n1_:=ak_ (Kd.R_lower (Kd.R_new' ho21 (Kd.R_lt (by (with_reducible repeat (first|apply ra_|apply rb_|apply rc_));exact HO_3.out))) (below_size (by repeat (first|(with_reducible first|exact HB.out|apply ba_|apply bb_|apply bc_)|exact HB.out))));have n2_:=ak_ (below_step (by repeat (first|(with_reducible first|exact HB.out|apply ba_|apply bb_|apply bc_)|exact HB.out)) hb);clear HO_3;clear HB;have HO_3:=n0_;have HO469:=n1_;have HB:=n2_;clear n0_ n1_ n2_;clear hb ho21)|((with_reducible refine gate_builtin (b:=.append) (xs:=#[.tmp 51,.tmp 52]) rfl ?_);at_builtin;refine Kd.R_append_rows (Kd.int .i64) (w0:=w) w.heap.size rfl (.tmp 51) (.tmp 52) 23 2 (.int .i64 0) 8 rfl Try.underlying23 info2 rfl (by decide) (by omega) v468 y467 x3_2 _ _ _ (fun k_ => some k_ ≠ (.slice (some ad465) x3_2.length co11 : Value).ownBlock) (fun _ => False) rfl rfl ?aO ?aR (fun _ _ h => h) (fun _ h => h.elim) ?aF ?aB ?aS ?aL ?_;(case aR => repeat (first|exact (Kd.R_reads' HO_3.out).2.2|(with_reducible refine Kd.C_alloc ?_ _)|(with_reducible refine Kd.C_drewN ?_ _)|(with_reducible refine Kd.C_drew ?_)));(case aB => exact (by repeat (first|(with_reducible first|exact HB.out|apply ba_|apply bb_|apply bc_)|exact HB.out)));(case aF => exact (fun k_ hk => Kd.fresh' (Kd.R_lt (by (with_reducible repeat (first|apply ra_|apply rb_|apply rc_));exact HO_3.out)) k_ hk));(case aO => exact (by (with_reducible repeat (first|apply ra_|apply rb_|apply rc_));exact Kd.R_mono HO469.out (fun _ hk => hk.2)));(case aS => exact (below_size (by repeat (first|(with_reducible first|exact HB.out|apply ba_|apply bb_|apply bc_)|exact HB.out))));(case aL => have:=LMc19.out;omega);intro v471 w22 ho hb hg hat;rw [← Ny470.out] at ho;have n0_:=ak_ (Kd.R_after (ok:=(fun _ => True)) (by (with_reducible repeat (first|apply ra_|apply rb_|apply rc_));exact HO_3.out) hg hat);have n1_:=ak_ (hb);have n2_:=ak_ (ho);clear HO_3;clear HB;clear HO469;have HO_3:=n0_;have HB:=n1_;have HO472:=n2_;clear n0_ n1_ n2_;clear ho hb hg hat)))
              go_loopg [9] kj14 (fun kq v9 w' => ∃ (x3_4 : List Int) (x9_4 : Int),v9 = .int .i64 x9_4 ∧ Aside0 (madrigalref6_Stable.l2 kq x3_4 x5_2 (rd x3_2 x5_2) (wrap64 (16777216 - t466)) y470 x9_4 = some r) ∧ Aside0 (kq ≤ kj14) ∧ Aside0 (Kd.R (Kd.int .i64) 2 w' w.heap.size (fun k_ => some k_ ≠ (v471 : Value).ownBlock) (.slice (some ad465) x3_2.length co11) x3_4) ∧ Aside0 (Kd.R (Kd.int .i64) 2 w' w.heap.size (fun k_ => some k_ ≠ ((.slice (some ad465) x3_2.length co11) : Value).ownBlock) v471 y470) ∧ Aside0 (Below w.heap.size w w'))
              case atStart => exact ⟨(x3_2),(0),(by first|rfl|(simp;done)|(simp [*];done)),H',⟨Nat.le_refl _⟩,⟨by (try simp only [hl3_2]);(with_reducible repeat (first|apply ra_|apply rb_|apply rc_));exact Kd.R_mono HO_3.out (fun _ hk => hk.2)⟩,⟨by (try simp only [hl3_2]);(with_reducible repeat (first|apply ra_|apply rb_|apply rc_));exact HO472.out⟩,⟨by repeat (first|(with_reducible first|exact HB.out|apply ba_|apply bb_|apply bc_)|exact HB.out)⟩⟩
              case round =>
               clear H'
               try clear c1
               try clear c2
               try clear c2b0
               try clear c2b1
               try clear p2
               try clear c4
               try clear p4
               try clear q4
               try clear hx4
               try clear c5
               try clear c5b0
               try clear c6
               try clear c6b0
               try clear p6
               try clear p7
               try clear q7
               try clear hx7
               try clear hf7
               try clear c12
               try clear c12b0
               try clear c12h0
               try clear c13
               try clear c13b0
               try clear c13h0
               try clear c14
               try clear c14b0
               try clear c14h0
               try clear c16
               try clear c16b0
               try clear c16h0
               try clear c17
               try clear c19
               try clear hx463_0
               try clear hx465_0
               try clear hx7_0
               try clear p2
               try clear p4
               try clear p463
               try clear p465
               try clear p6
               try clear p7
               try clear q4
               try clear q463
               try clear q465
               try clear q7
               obtain ⟨x3_4,x9_4,rfl,HA,HK4,HO_3,HO_8,HB⟩:=hrel
               (try simp only [i64_w,i32_w])
               have hl3_4:=(Kd.R_reads' HO_3.out).1
               rw [hl3_4] at HO_3
               (try simp only [hl3_4])
               (try simp only [hl3_4] at HO_8)
               cases gk with
               | zero => exact absurd HA.out (by simp [madrigalref6_Stable.l2])
               | succ k4 =>
                have H:=HA.out
                clear HA
                simp only [madrigalref6_Stable.l2] at H
                by_cases c23 : x9_4 < x5_2
                ·rw [if_pos c23] at H
                 have c23b0:=decide_eq_true c23
                 (try (have c23h0:=c23b0;simp only [hl3_2,hl3_4] at c23h0))
                 clear c23
                 by_cases c24 : 0 ≤ x9_4
                 ·rw [if_pos c24] at H
                  have c24b0:=decide_eq_true c24
                  (try (have c24h0:=c24b0;simp only [hl3_2,hl3_4] at c24h0))
                  clear c24
                  by_cases c25 : x9_4 < (y470.length : Int)
                  ·rw [if_pos c25] at H
                   have c25b0:=decide_eq_true c25
                   (try (have c25h0:=c25b0;simp only [hl3_2,hl3_4] at c25h0))
                   clear c25
                   obtain ⟨ji26,hji26⟩ : ∃ j_ : Int,(wrap64 ((wrap64 (x5_2 - 1)) - x9_4)) = j_:=⟨_,rfl⟩
                   replace H : (if 0 ≤ (ji26) then (if (ji26) < (y470.length : Int) then ((madrigalref1_Mul.f k4 (rd x3_2 x5_2) (rd y470 (ji26)) 24).bind fun t475 => ((madrigalref1_Div.f k4 (wrap64 ((rd y470 x9_4) + t475)) (wrap64 (16777216 - t466)) 24).bind fun t476 => ((madrigalref1_Clamp.f k4 t476 (-2147483648) 2147483648).bind fun t477 => (if x9_4 < (x3_4.length : Int) then (madrigalref6_Stable.l2 k4 (x3_4.set (x9_4 : Int).toNat t477) x5_2 (rd x3_2 x5_2) (wrap64 (16777216 - t466)) y470 (wrap64 (x9_4 + 1))) else (none))))) else (none)) else (none)) = some r:=by first|(rw [hji26] at H;exact H)|(simp only [hji26] at H ⊢;exact H)
                   have hji26w : (IntKind.i64.wrap ((wrap64 (x5_2 - 1)) - x9_4)) = ji26:=(i64_w _).trans hji26
                   by_cases c27 : 0 ≤ (ji26)
                   ·rw [if_pos c27] at H
                    have c27b0:=decide_eq_true c27
                    (try (have c27h0:=c27b0;simp only [hl3_2,hl3_4] at c27h0))
                    clear c27
                    by_cases c28 : (ji26) < (y470.length : Int)
                    ·rw [if_pos c28] at H
                     have c28b0:=decide_eq_true c28
                     (try (have c28h0:=c28b0;simp only [hl3_2,hl3_4] at c28h0))
                     clear c28
                     replace H:=Option.bind_eq_some_iff.mp H
                     obtain ⟨t475,A290,H⟩:=H
                     (try dsimp only at H)
                     have A29:=ak_ A290
                     clear A290
                     replace H:=Option.bind_eq_some_iff.mp H
                     obtain ⟨t476,A300,H⟩:=H
                     (try dsimp only at H)
                     have A30:=ak_ A300
                     clear A300
                     replace H:=Option.bind_eq_some_iff.mp H
                     obtain ⟨t477,A310,H⟩:=H
                     (try dsimp only at H)
                     have A31:=ak_ A310
                     clear A310
                     by_cases c32 : x9_4 < (x3_4.length : Int)
                     ·rw [if_pos c32] at H
                      have c32b0:=decide_eq_true c32
                      (try (have c32h0:=c32b0;simp only [hl3_2,hl3_4] at c32h0))
                      clear c32
                      obtain ⟨y478,hy478⟩ : ∃ y_ : List Int,y_ = (x3_4.set (x9_4 : Int).toNat t477):=⟨_,rfl⟩
                      replace H : (madrigalref6_Stable.l2 k4 y478 x5_2 (rd x3_2 x5_2) (wrap64 (16777216 - t466)) y470 (wrap64 (x9_4 + 1))) = some r:=by first|(rw [hy478];with_reducible exact H)|(have H2_:=(Option.bind_some _ _).symm.trans H;rw [hy478];with_reducible exact H2_)|(have H2_:=(Option.bind_some _ _).symm.trans H;with_reducible exact H2_)|with_reducible exact H|(rw [hy478];exact H)|exact H
                      have Ny478:=ak_ hy478
                      clear hy478
                      have H':=ak_ H
                      clear H
                      obtain ⟨Ao34,co34,eo34⟩:=Kd.R_slice HO_8.out
                      subst eo34
                      have p473 : 0 ≤ (x9_4 : Int):=of_decide_eq_true (by first|(with_reducible assumption)|assumption)
                      have q473 : x9_4 < (y470.length : Int):=of_decide_eq_true (by first|(with_reducible assumption)|assumption)
                      obtain ⟨ad473,e473,hx473_0⟩:=Kd.at_int (Kd.R_reads' HO_8.out).2.2 x9_4 p473 q473
                      cases e473
                      replace p473:=eq_true p473
                      replace q473:=eq_true q473
                      have p474 : 0 ≤ ((ji26) : Int):=of_decide_eq_true (by first|(with_reducible assumption)|assumption)
                      have q474 : (ji26) < (y470.length : Int):=of_decide_eq_true (by first|(with_reducible assumption)|assumption)
                      obtain ⟨ad474,e474,hx474_0⟩:=Kd.at_int (Kd.R_reads' HO_8.out).2.2 (ji26) p474 q474
                      obtain rfl : ad473 = ad474:=(by injection e474)
                      replace p474:=eq_true p474
                      replace q474:=eq_true q474
                      go_wp2_with (first|(go_at_call 34;(with_reducible refine (madrigalref1_Mul.calls k4 (rd x3_2 x5_2) (rd y470 (ji26)) 24 t475 _ A29.out).mono ?_);rintro e w' ⟨rfl,⟨nd,rfl⟩⟩;(try first|exact ⟨rfl,_,World.drewN_drewN _ _ _⟩|exact ⟨rfl,_,Eq.trans (World.drewN_drewN _ _ _) (congrArg (World.drewN _) (Nat.add_assoc _ _ _))⟩))|(go_at_call 35;(with_reducible refine (madrigalref1_Div.calls k4 (wrap64 ((rd y470 x9_4) + t475)) (wrap64 (16777216 - t466)) 24 t476 _ A30.out).mono ?_);rintro e w' ⟨rfl,⟨nd,rfl⟩⟩;(try first|exact ⟨rfl,_,World.drewN_drewN _ _ _⟩|exact ⟨rfl,_,Eq.trans (World.drewN_drewN _ _ _) (congrArg (World.drewN _) (Nat.add_assoc _ _ _))⟩))|(go_at_call 32;(with_reducible refine (madrigalref1_Clamp.calls k4 t476 (-2147483648) 2147483648 t477 _ A31.out).mono ?_);rintro e w' ⟨rfl,⟨nd,rfl⟩⟩;(try first|exact ⟨rfl,_,World.drewN_drewN _ _ _⟩|exact ⟨rfl,_,Eq.trans (World.drewN_drewN _ _ _) (congrArg (World.drewN _) (Nat.add_assoc _ _ _))⟩);have p33 : 0 ≤ (x9_4 : Int):=of_decide_eq_true (by first|(with_reducible assumption)|assumption);have q33 : (x9_4 : Int) < ((x3_4.length : Int) : Int):=of_decide_eq_true (by first|(with_reducible assumption)|assumption);obtain ⟨go33,co33,eo33,gb33,gl33,cl33,HG33⟩:=Kd.R_form HO_3.out (by omega);(first|cases eo33|(injection eo33 with ea_ en_ ec_;(first|subst ea_|(injection ea_ with ea_;subst ea_));subst ec_;clear en_));have GB33:=ak_ gb33;have GG33:=ak_ HG33;clear gb33 gl33 HG33;(first|simp only [add_plain] at hx465_0|skip);obtain ⟨hx33_0,hf33_0⟩:=Kd.R_celln 0 HO_3.out (x9_4 : Int) p33 q33;replace p33:=eq_true p33;replace q33:=eq_true q33;obtain ⟨hy35_,hz35_⟩:=Kd.R_celln 0 HO_3.out (x9_4 : Int) (of_decide_eq_true (by first|(with_reducible assumption)|assumption)) (of_decide_eq_true (by first|(with_reducible assumption)|assumption));have HP35:=Kd.R_putg HO_3.out (x9_4 : Int) t477)|((with_reducible refine gate_store (t:=2) (p:=79) rfl ?_);(try (rw [drewN_self wr];generalize hq_ : World.drewN wr _ = wr;have n0_:=ak_ (Kd.R_at hq_ HO_3.out);have n1_:=ak_ (Kd.R_at hq_ HO_8.out);have n2_:=ak_ (below_at hq_ HB.out);clear hq_ HO_3 HO_8 HB;have HO_3:=n0_;have HO_8:=n1_;have HB:=n2_;clear n0_ n1_ n2_;(try (obtain ⟨hy35_,hz35_⟩:=Kd.R_celln 0 HO_3.out (x9_4 : Int) (of_decide_eq_true (by first|(with_reducible assumption)|assumption)) (of_decide_eq_true (by first|(with_reducible assumption)|assumption))));(try (have HP35:=Kd.R_putg HO_3.out (x9_4 : Int) t477))));refine store_event (t:=2) (p:=79) (v:=?vo_w36) (w1:=(wr.setCell ⟨go33,(x9_4 : Int).toNat,none⟩ (.int .i64 t477))) ?hg ?ho ?hn ?hr ?_;(case ho => rfl);(case hg => rfl);(case hn => rfl);(case hr => first|(go_simp;done)|(go_simp;rfl));intro w36 hw;have hg : wr.grownBy w36 (some go33):=(by rw [hw];exact HP35.2);have hp_ : Kd.R (Kd.int .i64) 2 w36 w.heap.size (fun k_ => some k_ ≠ (.slice (some ad473) y470.length co34 : Value).ownBlock) (.slice (some ⟨go33,0,none⟩) x3_4.length co11) y478:=(by rw [hw,Ny478.out];exact HP35.1);clear HP35;have n0_:=ak_ (hp_);have n1_:=ak_ (Kd.R_after (v:=(.slice (some ⟨go33,0,none⟩) x3_4.length co11)) (v1:=(.slice (some ⟨go33,0,none⟩) x3_4.length co11)) (ok:=(fun _ => True)) (by (with_reducible repeat (first|apply ra_|apply rb_|apply rc_));exact Kd.R_mono HO_8.out (fun _ hk => ⟨trivial,hk⟩)) hg (.inl rfl));have n2_:=ak_ ((by rw [hw];exact below_set (HB.out) GB33.out : Below w.heap.size w w36));clear HO_3;clear HO_8;clear HB;have HO_3:=n0_;have HO_8:=n1_;have HB:=n2_;clear n0_ n1_ n2_;clear hg hw hp_))
                      repeat (go_quiet (first|(go_at_call 34;(with_reducible refine (madrigalref1_Mul.calls k4 (rd x3_2 x5_2) (rd y470 (ji26)) 24 t475 _ A29.out).mono ?_);rintro e w' ⟨rfl,⟨nd,rfl⟩⟩;(try first|exact ⟨rfl,_,World.drewN_drewN _ _ _⟩|exact ⟨rfl,_,Eq.trans (World.drewN_drewN _ _ _) (congrArg (World.drewN _) (Nat.add_assoc _ _ _))⟩))|(go_at_call 35;(with_reducible refine (madrigalref1_Div.calls k4 (wrap64 ((rd y470 x9_4) + t475)) (wrap64 (16777216 - t466)) 24 t476 _ A30.out).mono ?_);rintro e w' ⟨rfl,⟨nd,rfl⟩⟩;(try first|exact ⟨rfl,_,World.drewN_drewN _ _ _⟩|exact ⟨rfl,_,Eq.trans (World.drewN_drewN _ _ _) (congrArg (World.drewN _) (Nat.add_assoc _ _ _))⟩))|(go_at_call 32;(with_reducible refine (madrigalref1_Clamp.calls k4 t476 (-2147483648) 2147483648 t477 _ A31.out).mono ?_);rintro e w' ⟨rfl,⟨nd,rfl⟩⟩;(try first|exact ⟨rfl,_,World.drewN_drewN _ _ _⟩|exact ⟨rfl,_,Eq.trans (World.drewN_drewN _ _ _) (congrArg (World.drewN _) (Nat.add_assoc _ _ _))⟩);have p33 : 0 ≤ (x9_4 : Int):=of_decide_eq_true (by first|(with_reducible assumption)|assumption);have q33 : (x9_4 : Int) < ((x3_4.length : Int) : Int):=of_decide_eq_true (by first|(with_reducible assumption)|assumption);obtain ⟨go33,co33,eo33,gb33,gl33,cl33,HG33⟩:=Kd.R_form HO_3.out (by omega);(first|cases eo33|(injection eo33 with ea_ en_ ec_;(first|subst ea_|(injection ea_ with ea_;subst ea_));subst ec_;clear en_));have GB33:=ak_ gb33;have GG33:=ak_ HG33;clear gb33 gl33 HG33;(first|simp only [add_plain] at hx465_0|skip);obtain ⟨hx33_0,hf33_0⟩:=Kd.R_celln 0 HO_3.out (x9_4 : Int) p33 q33;replace p33:=eq_true p33;replace q33:=eq_true q33;obtain ⟨hy35_,hz35_⟩:=Kd.R_celln 0 HO_3.out (x9_4 : Int) (of_decide_eq_true (by first|(with_reducible assumption)|assumption)) (of_decide_eq_true (by first|(with_reducible assumption)|assumption));have HP35:=Kd.R_putg HO_3.out (x9_4 : Int) t477)|((with_reducible refine gate_store (t:=2) (p:=79) rfl ?_);(try (rw [drewN_self wr];generalize hq_ : World.drewN wr _ = wr;have n0_:=ak_ (Kd.R_at hq_ HO_3.out);have n1_:=ak_ (Kd.R_at hq_ HO_8.out);have n2_:=ak_ (below_at hq_ HB.out);clear hq_ HO_3 HO_8 HB;have HO_3:=n0_;have HO_8:=n1_;have HB:=n2_;clear n0_ n1_ n2_;(try (obtain ⟨hy35_,hz35_⟩:=Kd.R_celln 0 HO_3.out (x9_4 : Int) (of_decide_eq_true (by first|(with_reducible assumption)|assumption)) (of_decide_eq_true (by first|(with_reducible assumption)|assumption))));(try (have HP35:=Kd.R_putg HO_3.out (x9_4 : Int) t477))));refine store_event (t:=2) (p:=79) (v:=?vo_w36) (w1:=(wr.setCell ⟨go33,(x9_4 : Int).toNat,none⟩ (.int .i64 t477))) ?hg ?ho ?hn ?hr ?_;(case ho => rfl);(case hg => rfl);(case hn => rfl);(case hr => first|(go_simp;done)|(go_simp;rfl));intro w36 hw;have hg : wr.grownBy w36 (some go33):=(by rw [hw];exact HP35.2);have hp_ : Kd.R (Kd.int .i64) 2 w36 w.heap.size (fun k_ => some k_ ≠ (.slice (some ad473) y470.length co34 : Value).ownBlock) (.slice (some ⟨go33,0,none⟩) x3_4.length co11) y478:=(by rw [hw,Ny478.out];exact HP35.1);clear HP35;have n0_:=ak_ (hp_);have n1_:=ak_ (Kd.R_after (v:=(.slice (some ⟨go33,0,none⟩) x3_4.length co11)) (v1:=(.slice (some ⟨go33,0,none⟩) x3_4.length co11)) (ok:=(fun _ => True)) (by (with_reducible repeat (first|apply ra_|apply rb_|apply rc_));exact Kd.R_mono HO_8.out (fun _ hk => ⟨trivial,hk⟩)) hg (.inl rfl));have n2_:=ak_ ((by rw [hw];exact below_set (HB.out) GB33.out : Below w.heap.size w w36));clear HO_3;clear HO_8;clear HB;have HO_3:=n0_;have HO_8:=n1_;have HB:=n2_;clear n0_ n1_ n2_;clear hg hw hp_));try go_wp2_with (first|(go_at_call 34;(with_reducible refine (madrigalref1_Mul.calls k4 (rd x3_2 x5_2) (rd y470 (ji26)) 24 t475 _ A29.out).mono ?_);rintro e w' ⟨rfl,⟨nd,rfl⟩⟩;(try first|exact ⟨rfl,_,World.drewN_drewN _ _ _⟩|exact ⟨rfl,_,Eq.trans (World.drewN_drewN _ _ _) (congrArg (World.drewN _) (Nat.add_assoc _ _ _))⟩))|(go_at_call 35;(with_reducible refine (madrigalref1_Div.calls k4 (wrap64 ((rd y470 x9_4) + t475)) (wrap64 (16777216 - t466)) 24 t476 _ A30.out).mono ?_);rintro e w' ⟨rfl,⟨nd,rfl⟩⟩;(try first|exact ⟨rfl,_,World.drewN_drewN _ _ _⟩|exact ⟨rfl,_,Eq.trans (World.drewN_drewN _ _ _) (congrArg (World.drewN _) (Nat.add_assoc _ _ _))⟩))|(go_at_call 32;(with_reducible refine (madrigalref1_Clamp.calls k4 t476 (-2147483648) 2147483648 t477 _ A31.out).mono ?_);rintro e w' ⟨rfl,⟨nd,rfl⟩⟩;(try first|exact ⟨rfl,_,World.drewN_drewN _ _ _⟩|exact ⟨rfl,_,Eq.trans (World.drewN_drewN _ _ _) (congrArg (World.drewN _) (Nat.add_assoc _ _ _))⟩);have p33 : 0 ≤ (x9_4 : Int):=of_decide_eq_true (by first|(with_reducible assumption)|assumption);have q33 : (x9_4 : Int) < ((x3_4.length : Int) : Int):=of_decide_eq_true (by first|(with_reducible assumption)|assumption);obtain ⟨go33,co33,eo33,gb33,gl33,cl33,HG33⟩:=Kd.R_form HO_3.out (by omega);(first|cases eo33|(injection eo33 with ea_ en_ ec_;(first|subst ea_|(injection ea_ with ea_;subst ea_));subst ec_;clear en_));have GB33:=ak_ gb33;have GG33:=ak_ HG33;clear gb33 gl33 HG33;(first|simp only [add_plain] at hx465_0|skip);obtain ⟨hx33_0,hf33_0⟩:=Kd.R_celln 0 HO_3.out (x9_4 : Int) p33 q33;replace p33:=eq_true p33;replace q33:=eq_true q33;obtain ⟨hy35_,hz35_⟩:=Kd.R_celln 0 HO_3.out (x9_4 : Int) (of_decide_eq_true (by first|(with_reducible assumption)|assumption)) (of_decide_eq_true (by first|(with_reducible assumption)|assumption));have HP35:=Kd.R_putg HO_3.out (x9_4 : Int) t477)|((with_reducible refine gate_store (t:=2) (p:=79) rfl ?_);(try (rw [drewN_self wr];generalize hq_ : World.drewN wr _ = wr;have n0_:=ak_ (Kd.R_at hq_ HO_3.out);have n1_:=ak_ (Kd.R_at hq_ HO_8.out);have n2_:=ak_ (below_at hq_ HB.out);clear hq_ HO_3 HO_8 HB;have HO_3:=n0_;have HO_8:=n1_;have HB:=n2_;clear n0_ n1_ n2_;(try (obtain ⟨hy35_,hz35_⟩:=Kd.R_celln 0 HO_3.out (x9_4 : Int) (of_decide_eq_true (by first|(with_reducible assumption)|assumption)) (of_decide_eq_true (by first|(with_reducible assumption)|assumption))));(try (have HP35:=Kd.R_putg HO_3.out (x9_4 : Int) t477))));refine store_event (t:=2) (p:=79) (v:=?vo_w36) (w1:=(wr.setCell ⟨go33,(x9_4 : Int).toNat,none⟩ (.int .i64 t477))) ?hg ?ho ?hn ?hr ?_;(case ho => rfl);(case hg => rfl);(case hn => rfl);(case hr => first|(go_simp;done)|(go_simp;rfl));intro w36 hw;have hg : wr.grownBy w36 (some go33):=(by rw [hw];exact HP35.2);have hp_ : Kd.R (Kd.int .i64) 2 w36 w.heap.size (fun k_ => some k_ ≠ (.slice (some ad473) y470.length co34 : Value).ownBlock) (.slice (some ⟨go33,0,none⟩) x3_4.length co11) y478:=(by rw [hw,Ny478.out];exact HP35.1);clear HP35;have n0_:=ak_ (hp_);have n1_:=ak_ (Kd.R_after (v:=(.slice (some ⟨go33,0,none⟩) x3_4.length co11)) (v1:=(.slice (some ⟨go33,0,none⟩) x3_4.length co11)) (ok:=(fun _ => True)) (by (with_reducible repeat (first|apply ra_|apply rb_|apply rc_));exact Kd.R_mono HO_8.out (fun _ hk => ⟨trivial,hk⟩)) hg (.inl rfl));have n2_:=ak_ ((by rw [hw];exact below_set (HB.out) GB33.out : Below w.heap.size w w36));clear HO_3;clear HO_8;clear HB;have HO_3:=n0_;have HO_8:=n1_;have HB:=n2_;clear n0_ n1_ n2_;clear hg hw hp_)))
                      (try simp only [← hl3_4])
                      go_roundg k4
                      case measure => have:=HK1.out;have:=HK2.out;have:=HJ14.out;have:=HK4.out;omega
                      case rel => exact ⟨(y478),(wrap64 (x9_4 + 1)),(by first|rfl|(simp;done)|(simp [*];done)),H',⟨by have:=HK1.out;have:=HK2.out;have:=HJ14.out;have:=HK4.out;omega⟩,⟨by (try simp only [hl3_2]);(try simp only [hl3_4]);(with_reducible repeat (first|apply ra_|apply rb_|apply rc_));exact HO_3.out⟩,⟨by (try simp only [hl3_2]);(try simp only [hl3_4]);(with_reducible repeat (first|apply ra_|apply rb_|apply rc_));exact Kd.R_mono HO_8.out (fun _ hk => hk.2)⟩,⟨by repeat (first|(with_reducible first|exact HB.out|apply ba_|apply bb_|apply bc_)|exact HB.out)⟩⟩
                     ·rw [if_neg c32] at H
                      exact absurd H (by simp)
                    ·rw [if_neg c28] at H
                     exact absurd H (by simp)
                   ·rw [if_neg c27] at H
                    exact absurd H (by simp)
                  ·rw [if_neg c25] at H
                   exact absurd H (by simp)
                 ·rw [if_neg c24] at H
                  exact absurd H (by simp)
                ·rw [if_neg c23] at H
                 have c23b0:=decide_eq_false c23
                 (try (have c23h0:=c23b0;simp only [hl3_2,hl3_4] at c23h0))
                 clear c23
                 have H':=ak_ H
                 clear H
                 go_wp2
                 repeat (go_quiet (fail);try go_wp2)
                 (try simp only [← hl3_2,← hl3_4])
                 go_roundg k4
                 case measure => have:=HK1.out;have:=HK2.out;have:=HJ14.out;have:=HK4.out;omega
                 case rel => exact ⟨(x3_4),(wrap64 (x5_2 - 1)),(by first|rfl|(simp;done)|(simp [*];done)),H',⟨by have:=HK1.out;have:=HK2.out;have:=HJ14.out;have:=HK4.out;omega⟩,⟨by (try simp only [hl3_2]);(try simp only [hl3_4]);(with_reducible repeat (first|apply ra_|apply rb_|apply rc_));exact Kd.R_mono HO_3.out (fun _ hk => trivial)⟩,⟨by repeat (first|(with_reducible first|exact HB.out|apply ba_|apply bb_|apply bc_)|exact HB.out)⟩⟩
             ·rw [if_neg c19] at H
              exact absurd H (by simp)
         ·rw [if_neg c14] at H
          exact absurd H (by simp)
        ·rw [if_neg c13] at H
         exact absurd H (by simp)
       ·rw [if_neg c12] at H
        have c12b0 : decide (0 ≤ x5_2) = false:=decide_eq_false c12
        (try (have c12h0:=c12b0;simp only [hl3_2] at c12h0))
        clear c12
        obtain rfl:=Option.some.inj H
        go_wp2
        repeat (go_quiet (fail);try go_wp2)
        go_ret
        exact ⟨by first|rfl|(simp [errW_none,errW_some] <;> rfl)|(simp [*,errW_none,errW_some] <;> rfl),by repeat (first|(with_reducible first|exact HB.out|apply ba_|apply bb_|apply bc_)|exact HB.out)⟩

end Go.Proofs.Ytllglpcpjeggcaa.P
