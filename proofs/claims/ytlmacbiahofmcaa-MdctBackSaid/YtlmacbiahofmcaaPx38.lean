/- The machine side of the laws of one chapter, without conditions: each call of a Go function comes to what the Lean function of its name answers. Written for this claim by a program of the prover. -/
import Derived.Test.YtlmacbiahofmcaaPx0
import Derived.Test.YtlmacbiahofmcaaPx1
import Derived.Test.YtlmacbiahofmcaaPx10
import Derived.Test.YtlmacbiahofmcaaPx13
import Derived.Test.YtlmacbiahofmcaaPx14
import Derived.Test.YtlmacbiahofmcaaPx20
import Derived.Test.YtlmacbiahofmcaaPx22
namespace Go.Proofs.Ytlmacbiahofmcaa.P
open Go.RowKit Go.Proofs.YtlmacbiahofmcaaW.PrintWords Go.Proofs.YtlmacbiahofmcaaW.PrintLast Go.Proofs.YtlmacbiahofmcaaW.PrintMore
attribute [local go_sem] max2_int min2_int max_two min_two max_three min_three max_four min_four   -- for this text's walks alone
set_option linter.unusedVariables false
set_option linter.unusedSimpArgs false

/-! ### madrigallaw15_MdctBack: function 6 -/
mutual
def madrigallaw15_MdctBack.j0 : Nat → Int → Int → List Int → Bool → Option (Bool)
 | 0,_,_,_,_ => none
 | k + 1,x0,x1,x2,x38 => if x38 = true then (some true) else (madrigallaw15_MdctBack.l0 k x0 x1 x2 0)
def madrigallaw15_MdctBack.l0 : Nat → Int → Int → List Int → Int → Option (Bool)
 | 0,_,_,_,_ => none
 | k + 1,x0,x1,x2,x7 => if x7 < (x2.length : Int) then (if 0 ≤ x7 then (if (rd x2 x7) < (-32768) then (some true) else (if (rd x2 x7) > 32767 then (some true) else (madrigallaw15_MdctBack.l0 k x0 x1 x2 (wrap64 (x7 + 1))))) else (none)) else (if mdct_Good.f x0 x1 = some true then ((mdct_New1.f x0 x1).bind fun bt512 => (madrigallaw15_MdctBack.l1 k x0 x1 x2 0 bt512.1 bt512.2.1 bt512.2.2.1)) else ((mdct_New0.f x0 x1).bind fun t535 => (none)))
def madrigallaw15_MdctBack.l1 : Nat → Int → Int → List Int → Int → Int → Int → List Int → Option (Bool)
 | 0,_,_,_,_,_,_,_ => none
 | k + 1,x0,x1,x2,x10,x516000,x516001,x516002 => if (wrap64 (x10 + (wrap64 (2 * x0)))) ≤ (x2.length : Int) then (if 0 ≤ x10 then (if x10 ≤ (wrap64 (x10 + (wrap64 (2 * x0)))) then ((mdct_Forward.f k ((x2.take ((wrap64 (x10 + (wrap64 (2 * x0)))) : Int).toNat).drop (x10 : Int).toNat) x1).bind fun bt521 => ((mdct_Joiner_Next.f k x516000 x516001 x516002 bt521.1).bind fun bt525 => (if bt521.2 = 0 then (if bt525.2.1 = 0 then (madrigallaw15_MdctBack.j3 k x0 x1 x2 x10 bt525.1 ((bt525.1.length : Int) != x0) bt525.2.2.1 bt525.2.2.2.1 bt525.2.2.2.2) else (madrigallaw15_MdctBack.j3 k x0 x1 x2 x10 bt525.1 true bt525.2.2.1 bt525.2.2.2.1 bt525.2.2.2.2)) else (madrigallaw15_MdctBack.j3 k x0 x1 x2 x10 bt525.1 true bt525.2.2.1 bt525.2.2.2.1 bt525.2.2.2.2)))) else (none)) else (none)) else (some true)
def madrigallaw15_MdctBack.j3 : Nat → Int → Int → List Int → Int → List Int → Bool → Int → Int → List Int → Option (Bool)
 | 0,_,_,_,_,_,_,_,_,_ => none
 | k + 1,x0,x1,x2,x10,x13,x104,x516000,x516001,x516002 => if x104 = true then (none) else (madrigallaw15_MdctBack.l2 k x0 x1 x2 x10 x13 0 x516000 x516001 x516002)
def madrigallaw15_MdctBack.l2 : Nat → Int → Int → List Int → Int → List Int → Int → Int → Int → List Int → Option (Bool)
 | 0,_,_,_,_,_,_,_,_,_ => none
 | k + 1,x0,x1,x2,x10,x13,x15,x516000,x516001,x516002 => if x15 < x0 then (madrigallaw15_MdctBack.j5 k x0 x1 x2 x10 x13 x15 (decide (x10 > 0)) x516000 x516001 x516002) else (madrigallaw15_MdctBack.j5 k x0 x1 x2 x10 x13 x15 false x516000 x516001 x516002)
def madrigallaw15_MdctBack.j5 : Nat → Int → Int → List Int → Int → List Int → Int → Bool → Int → Int → List Int → Option (Bool)
 | 0,_,_,_,_,_,_,_,_,_,_ => none
 | k + 1,x0,x1,x2,x10,x13,x15,x111,x516000,x516001,x516002 => if x111 = true then (if 0 ≤ x15 then (if x15 < (x13.length : Int) then (if 0 ≤ (wrap64 (x10 + x15)) then (if (wrap64 (x10 + x15)) < (x2.length : Int) then (if (wrap64 ((rd x13 x15) - (rd x2 (wrap64 (x10 + x15))))) > 64 then (none) else (if (wrap64 ((rd x13 x15) - (rd x2 (wrap64 (x10 + x15))))) < (-64) then (none) else (madrigallaw15_MdctBack.l2 k x0 x1 x2 x10 x13 (wrap64 (x15 + 1)) x516000 x516001 x516002))) else (none)) else (none)) else (none)) else (none)) else (madrigallaw15_MdctBack.l1 k x0 x1 x2 (wrap64 (x10 + x0)) x516000 x516001 x516002)
end
def madrigallaw15_MdctBack.f (k : Nat) (a0 : Int) (a1 : Int) (l2 : List Int) : Option (Bool):=(madrigallaw15_awake.f k).bind fun t508 => (if t508 = true then (if a0 > 160 then (madrigallaw15_MdctBack.j0 k a0 a1 l2 true) else ((madrigalref10_GoodBlock.f a0 a1).bind fun t509 => (if t509 = true then (if (l2.length : Int) > 800 then (madrigallaw15_MdctBack.j0 k a0 a1 l2 true) else (madrigallaw15_MdctBack.j0 k a0 a1 l2 (decide ((l2.length : Int) < (wrap64 (3 * a0)))))) else (madrigallaw15_MdctBack.j0 k a0 a1 l2 true)))) else (none))
theorem madrigallaw15_MdctBack.mono_l : ∀ k,(∀ y0 y1 y2 y3,LeO (madrigallaw15_MdctBack.j0 k y0 y1 y2 y3) (madrigallaw15_MdctBack.j0 (k + 1) y0 y1 y2 y3)) ∧ (∀ y0 y1 y2 y3,LeO (madrigallaw15_MdctBack.l0 k y0 y1 y2 y3) (madrigallaw15_MdctBack.l0 (k + 1) y0 y1 y2 y3)) ∧ (∀ y0 y1 y2 y3 y4 y5 y6,LeO (madrigallaw15_MdctBack.l1 k y0 y1 y2 y3 y4 y5 y6) (madrigallaw15_MdctBack.l1 (k + 1) y0 y1 y2 y3 y4 y5 y6)) ∧ (∀ y0 y1 y2 y3 y4 y5 y6 y7 y8,LeO (madrigallaw15_MdctBack.j3 k y0 y1 y2 y3 y4 y5 y6 y7 y8) (madrigallaw15_MdctBack.j3 (k + 1) y0 y1 y2 y3 y4 y5 y6 y7 y8)) ∧ (∀ y0 y1 y2 y3 y4 y5 y6 y7 y8,LeO (madrigallaw15_MdctBack.l2 k y0 y1 y2 y3 y4 y5 y6 y7 y8) (madrigallaw15_MdctBack.l2 (k + 1) y0 y1 y2 y3 y4 y5 y6 y7 y8)) ∧ (∀ y0 y1 y2 y3 y4 y5 y6 y7 y8 y9,LeO (madrigallaw15_MdctBack.j5 k y0 y1 y2 y3 y4 y5 y6 y7 y8 y9) (madrigallaw15_MdctBack.j5 (k + 1) y0 y1 y2 y3 y4 y5 y6 y7 y8 y9))
 | 0 => ⟨fun _ _ _ _ r h => by simp [madrigallaw15_MdctBack.j0] at h,fun _ _ _ _ r h => by simp [madrigallaw15_MdctBack.l0] at h,fun _ _ _ _ _ _ _ r h => by simp [madrigallaw15_MdctBack.l1] at h,fun _ _ _ _ _ _ _ _ _ r h => by simp [madrigallaw15_MdctBack.j3] at h,fun _ _ _ _ _ _ _ _ _ r h => by simp [madrigallaw15_MdctBack.l2] at h,fun _ _ _ _ _ _ _ _ _ _ r h => by simp [madrigallaw15_MdctBack.j5] at h⟩
 | k + 1 => by
  obtain ⟨ih0,ih1,ih2,ih3,ih4,ih5⟩:=madrigallaw15_MdctBack.mono_l k
  refine ⟨?_,?_,?_,?_,?_,?_⟩
  all_goals (intros;first|unfold madrigallaw15_MdctBack.j0|unfold madrigallaw15_MdctBack.l0|unfold madrigallaw15_MdctBack.l1|unfold madrigallaw15_MdctBack.j3|unfold madrigallaw15_MdctBack.l2|unfold madrigallaw15_MdctBack.j5)
  all_goals (repeat' first|(with_reducible first|exact ih0 _ _ _ _|exact ih1 _ _ _ _|exact ih2 _ _ _ _ _ _ _|exact ih3 _ _ _ _ _ _ _ _ _|exact ih4 _ _ _ _ _ _ _ _ _|exact ih5 _ _ _ _ _ _ _ _ _ _|exact madrigallaw15_awake.mono _|exact mdct_Forward.mono _ _ _|exact mdct_Joiner_Next.mono _ _ _ _ _|exact LeO.refl _|exact LeO.none _|refine LeO.ite ?_ ?_|refine LeO.bind ?_ (fun _ => ?_))|exact ih0 _ _ _ _|exact ih1 _ _ _ _|exact ih2 _ _ _ _ _ _ _|exact ih3 _ _ _ _ _ _ _ _ _|exact ih4 _ _ _ _ _ _ _ _ _|exact ih5 _ _ _ _ _ _ _ _ _ _|exact madrigallaw15_awake.mono _|exact mdct_Forward.mono _ _ _|exact mdct_Joiner_Next.mono _ _ _ _ _|exact LeO.none _|refine LeO.ite ?_ ?_|refine LeO.bind ?_ (fun _ => ?_))
theorem madrigallaw15_MdctBack.mono : ∀ a0 a1 a2 k,LeO (madrigallaw15_MdctBack.f k a0 a1 a2) (madrigallaw15_MdctBack.f (k + 1) a0 a1 a2):=by
 intro a0 a1 a2 k
 obtain ⟨ih0,ih1,ih2,ih3,ih4,ih5⟩:=madrigallaw15_MdctBack.mono_l k
 unfold madrigallaw15_MdctBack.f
 repeat' first|(with_reducible first|exact ih0 _ _ _ _|exact ih1 _ _ _ _|exact ih2 _ _ _ _ _ _ _|exact ih3 _ _ _ _ _ _ _ _ _|exact ih4 _ _ _ _ _ _ _ _ _|exact ih5 _ _ _ _ _ _ _ _ _ _|exact madrigallaw15_awake.mono _|exact mdct_Forward.mono _ _ _|exact mdct_Joiner_Next.mono _ _ _ _ _|exact LeO.refl _|exact LeO.none _|refine LeO.ite ?_ ?_|refine LeO.bind ?_ (fun _ => ?_))|exact ih0 _ _ _ _|exact ih1 _ _ _ _|exact ih2 _ _ _ _ _ _ _|exact ih3 _ _ _ _ _ _ _ _ _|exact ih4 _ _ _ _ _ _ _ _ _|exact ih5 _ _ _ _ _ _ _ _ _ _|exact madrigallaw15_awake.mono _|exact mdct_Forward.mono _ _ _|exact mdct_Joiner_Next.mono _ _ _ _ _|exact LeO.none _|refine LeO.ite ?_ ?_|refine LeO.bind ?_ (fun _ => ?_)
set_option maxHeartbeats 8000000 in
set_option maxRecDepth 100000 in
theorem madrigallaw15_MdctBack.calls (k : Nat) (a0 : Int) (a1 : Int) (A2 : Option Addr) (c2 : Nat) (l2 : List Int) (r : Bool) (w : World) (hr2 : Kd.C (Kd.int .i64) w A2 l2.length l2) (hc2 : l2.length ≤ c2) (h : madrigallaw15_MdctBack.f k a0 a1 l2 = some r) :
  Calls Try.prog 6 #[.int .i64 a0,.int .i64 a1,.slice A2 l2.length c2] w fun e w' => e = .returned (.bool r) ∧ Below w.heap.size w w':=by
 have HR2:=ak_ hr2
 have HC2:=ak_ hc2
 clear hr2 hc2
 have HB:=ak_ (Below.refl w.heap.size w)
 have H : ((madrigallaw15_awake.f k).bind fun t508 => (if t508 = true then (if a0 > 160 then (madrigallaw15_MdctBack.j0 k a0 a1 l2 true) else ((madrigalref10_GoodBlock.f a0 a1).bind fun t509 => (if t509 = true then (if (l2.length : Int) > 800 then (madrigallaw15_MdctBack.j0 k a0 a1 l2 true) else (madrigallaw15_MdctBack.j0 k a0 a1 l2 (decide ((l2.length : Int) < (wrap64 (3 * a0)))))) else (madrigallaw15_MdctBack.j0 k a0 a1 l2 true)))) else (none))) = some r:=h
 clear h
 replace H:=Option.bind_eq_some_iff.mp H
 obtain ⟨t508,A40,H⟩:=H
 (try dsimp only at H)
 have A4:=ak_ A40
 clear A40
 by_cases c5 : t508 = true
 ·subst c5
  have H1 : (if a0 > 160 then (madrigallaw15_MdctBack.j0 k a0 a1 l2 true) else ((madrigalref10_GoodBlock.f a0 a1).bind fun t509 => (if t509 = true then (if (l2.length : Int) > 800 then (madrigallaw15_MdctBack.j0 k a0 a1 l2 true) else (madrigallaw15_MdctBack.j0 k a0 a1 l2 (decide ((l2.length : Int) < (wrap64 (3 * a0)))))) else (madrigallaw15_MdctBack.j0 k a0 a1 l2 true)))) = some r:=by rw [if_pos rfl] at H;exact H
  clear H
  have H:=H1
  clear H1
  have HC6:=ak_ H
  clear H
  go_enter Try.func6,Try.ntmps6
  go_upto_region 3 with (first|(go_at_call 9;(with_reducible refine (madrigallaw15_awake.calls k  true _ A4.out).mono ?_);rintro e w7 ⟨rfl,hb⟩;have n0_:=ak_ (below_step (by repeat (first|(with_reducible first|exact HB.out|apply ba_|apply bb_|apply bc_)|exact HB.out)) hb);clear HB;have HB:=n0_;clear n0_;(try clear hb)))
  repeat (go_quiet (first|(go_at_call 9;(with_reducible refine (madrigallaw15_awake.calls k  true _ A4.out).mono ?_);rintro e w7 ⟨rfl,hb⟩;have n0_:=ak_ (below_step (by repeat (first|(with_reducible first|exact HB.out|apply ba_|apply bb_|apply bc_)|exact HB.out)) hb);clear HB;have HB:=n0_;clear n0_;(try clear hb)));go_upto_region 3 with (first|(go_at_call 9;(with_reducible refine (madrigallaw15_awake.calls k  true _ A4.out).mono ?_);rintro e w7 ⟨rfl,hb⟩;have n0_:=ak_ (below_step (by repeat (first|(with_reducible first|exact HB.out|apply ba_|apply bb_|apply bc_)|exact HB.out)) hb);clear HB;have HB:=n0_;clear n0_;(try clear hb))))
  (try simp only [Act.put,List.setIfInBounds_toArray,List.set_cons_zero,List.set_cons_succ])
  go_cut [38] (fun v38 wc => ∃ (kq : Nat) (x38_5 : Bool),v38 = .bool x38_5 ∧ Aside0 (madrigallaw15_MdctBack.j0 kq a0 a1 l2 x38_5 = some r) ∧ Aside0 (kq ≤ k) ∧ Aside0 (Below w.heap.size w wc))
  case first =>
   have H:=HC6.out
   clear HC6
   by_cases c8 : a0 > 160
   ·rw [if_pos c8] at H
    have c8b0 : decide (160 < a0) = true:=decide_eq_true c8
    clear c8
    (first|rw [c8b0]|(simp only [i64_w,i32_w];rw [c8b0])|skip)
    have H':=ak_ H
    clear H
    go_wp2
    repeat (go_quiet (fail);try go_wp2)
    refine Met.intro ?_
    go_step
    (repeat apply Exists.intro)
    first|refine ⟨?rel74,rfl⟩|(refine ⟨?rel74,?st74⟩;case' st74 => (first|rw [c8b0]|simp only [c8b0]))
    case rel74 => exact ⟨_,(true),(by first|rfl|(simp;done)|(simp [*];done)),H',⟨by first|omega|exact Nat.le_refl _⟩,⟨by repeat (first|(with_reducible first|exact HB.out|apply ba_|apply bb_|apply bc_)|exact HB.out)⟩⟩
   ·rw [if_neg c8] at H
    have c8b0 : decide (160 < a0) = false:=decide_eq_false c8
    clear c8
    (first|rw [c8b0]|(simp only [i64_w,i32_w];rw [c8b0])|skip)
    replace H:=Option.bind_eq_some_iff.mp H
    obtain ⟨t509,A90,H⟩:=H
    (try dsimp only at H)
    have A9:=ak_ A90
    clear A90
    by_cases c10 : t509 = true
    ·subst c10
     have H1 : (if (l2.length : Int) > 800 then (madrigallaw15_MdctBack.j0 k a0 a1 l2 true) else (madrigallaw15_MdctBack.j0 k a0 a1 l2 (decide ((l2.length : Int) < (wrap64 (3 * a0)))))) = some r:=by rw [if_pos rfl] at H;exact H
     clear H
     have H:=H1
     clear H1
     by_cases c11 : (l2.length : Int) > 800
     ·rw [if_pos c11] at H
      have c11b0 : decide (800 < (l2.length : Int)) = true:=decide_eq_true c11
      have c11b1 : decide (800 < l2.length) = true:=decide_eq_true (by omega)
      clear c11
      have H':=ak_ H
      clear H
      go_wp2_with (first|(go_at_call 15;(with_reducible refine (madrigalref10_GoodBlock.calls a0 a1 true _ A9.out).mono ?_);rintro e w' ⟨rfl,⟨nd,rfl⟩⟩;(try first|exact ⟨rfl,_,World.drewN_drewN _ _ _⟩|exact ⟨rfl,_,Eq.trans (World.drewN_drewN _ _ _) (congrArg (World.drewN _) (Nat.add_assoc _ _ _))⟩)))
      repeat (go_quiet (first|(go_at_call 15;(with_reducible refine (madrigalref10_GoodBlock.calls a0 a1 true _ A9.out).mono ?_);rintro e w' ⟨rfl,⟨nd,rfl⟩⟩;(try first|exact ⟨rfl,_,World.drewN_drewN _ _ _⟩|exact ⟨rfl,_,Eq.trans (World.drewN_drewN _ _ _) (congrArg (World.drewN _) (Nat.add_assoc _ _ _))⟩)));try go_wp2_with (first|(go_at_call 15;(with_reducible refine (madrigalref10_GoodBlock.calls a0 a1 true _ A9.out).mono ?_);rintro e w' ⟨rfl,⟨nd,rfl⟩⟩;(try first|exact ⟨rfl,_,World.drewN_drewN _ _ _⟩|exact ⟨rfl,_,Eq.trans (World.drewN_drewN _ _ _) (congrArg (World.drewN _) (Nat.add_assoc _ _ _))⟩))))
      refine Met.intro ?_
      go_step
      (repeat apply Exists.intro)
      first|refine ⟨?rel100,rfl⟩|(refine ⟨?rel100,?st100⟩;case' st100 => (first|rw [c11b0]|simp only [c11b0]))
      case rel100 => exact ⟨_,(true),(by first|rfl|(simp;done)|(simp [*];done)),H',⟨by first|omega|exact Nat.le_refl _⟩,⟨by repeat (first|(with_reducible first|exact HB.out|apply ba_|apply bb_|apply bc_)|exact HB.out)⟩⟩
     ·rw [if_neg c11] at H
      have c11b0 : decide (800 < (l2.length : Int)) = false:=decide_eq_false c11
      have c11b1 : decide (800 < l2.length) = false:=decide_eq_false (by omega)
      clear c11
      have H':=ak_ H
      clear H
      go_wp2_with (first|(go_at_call 15;(with_reducible refine (madrigalref10_GoodBlock.calls a0 a1 true _ A9.out).mono ?_);rintro e w' ⟨rfl,⟨nd,rfl⟩⟩;(try first|exact ⟨rfl,_,World.drewN_drewN _ _ _⟩|exact ⟨rfl,_,Eq.trans (World.drewN_drewN _ _ _) (congrArg (World.drewN _) (Nat.add_assoc _ _ _))⟩)))
      repeat (go_quiet (first|(go_at_call 15;(with_reducible refine (madrigalref10_GoodBlock.calls a0 a1 true _ A9.out).mono ?_);rintro e w' ⟨rfl,⟨nd,rfl⟩⟩;(try first|exact ⟨rfl,_,World.drewN_drewN _ _ _⟩|exact ⟨rfl,_,Eq.trans (World.drewN_drewN _ _ _) (congrArg (World.drewN _) (Nat.add_assoc _ _ _))⟩)));try go_wp2_with (first|(go_at_call 15;(with_reducible refine (madrigalref10_GoodBlock.calls a0 a1 true _ A9.out).mono ?_);rintro e w' ⟨rfl,⟨nd,rfl⟩⟩;(try first|exact ⟨rfl,_,World.drewN_drewN _ _ _⟩|exact ⟨rfl,_,Eq.trans (World.drewN_drewN _ _ _) (congrArg (World.drewN _) (Nat.add_assoc _ _ _))⟩))))
      refine Met.intro ?_
      go_step
      (repeat apply Exists.intro)
      first|refine ⟨?rel110,rfl⟩|(refine ⟨?rel110,?st110⟩;case' st110 => (first|rw [c11b0]|simp only [c11b0]))
      case rel110 => exact ⟨_,(decide ((l2.length : Int) < (wrap64 (3 * a0)))),(by first|rfl|(simp;done)|(simp [*];done)),H',⟨by first|omega|exact Nat.le_refl _⟩,⟨by repeat (first|(with_reducible first|exact HB.out|apply ba_|apply bb_|apply bc_)|exact HB.out)⟩⟩
    ·replace c10:=Bool.eq_false_iff.mpr c10
     subst c10
     have H1 : (madrigallaw15_MdctBack.j0 k a0 a1 l2 true) = some r:=by rw [if_neg (show ¬ (false = true) by decide)] at H;exact H
     clear H
     have H:=H1
     clear H1
     have H':=ak_ H
     clear H
     go_wp2_with (first|(go_at_call 15;(with_reducible refine (madrigalref10_GoodBlock.calls a0 a1 false _ A9.out).mono ?_);rintro e w' ⟨rfl,⟨nd,rfl⟩⟩;(try first|exact ⟨rfl,_,World.drewN_drewN _ _ _⟩|exact ⟨rfl,_,Eq.trans (World.drewN_drewN _ _ _) (congrArg (World.drewN _) (Nat.add_assoc _ _ _))⟩)))
     repeat (go_quiet (first|(go_at_call 15;(with_reducible refine (madrigalref10_GoodBlock.calls a0 a1 false _ A9.out).mono ?_);rintro e w' ⟨rfl,⟨nd,rfl⟩⟩;(try first|exact ⟨rfl,_,World.drewN_drewN _ _ _⟩|exact ⟨rfl,_,Eq.trans (World.drewN_drewN _ _ _) (congrArg (World.drewN _) (Nat.add_assoc _ _ _))⟩)));try go_wp2_with (first|(go_at_call 15;(with_reducible refine (madrigalref10_GoodBlock.calls a0 a1 false _ A9.out).mono ?_);rintro e w' ⟨rfl,⟨nd,rfl⟩⟩;(try first|exact ⟨rfl,_,World.drewN_drewN _ _ _⟩|exact ⟨rfl,_,Eq.trans (World.drewN_drewN _ _ _) (congrArg (World.drewN _) (Nat.add_assoc _ _ _))⟩))))
     go_meet
     case rel => exact ⟨_,(true),(by first|rfl|(simp;done)|(simp [*];done)),H',⟨by first|omega|exact Nat.le_refl _⟩,⟨by repeat (first|(with_reducible first|exact HB.out|apply ba_|apply bb_|apply bc_)|exact HB.out)⟩⟩
  case rest =>
   clear HC6
   try clear c1
   try clear c2
   try clear p2
   try clear c5
   try clear c6
   try clear p6
   try clear c8
   try clear c8b0
   try clear c10
   try clear c11
   try clear c11b0
   try clear c11b1
   obtain ⟨kq,x38_5,rfl,HA,HJ5,HB⟩:=hcut
   (try simp only [i64_w,i32_w])
   cases kq with
   | zero => exact absurd HA.out (by simp [madrigallaw15_MdctBack.j0])
   | succ kj5 =>
    have H:=HA.out
    clear HA
    simp only [madrigallaw15_MdctBack.j0] at H
    by_cases c12 : x38_5 = true
    ·subst c12
     have H1 : (some true) = some r:=by rw [if_pos rfl] at H;exact H
     clear H
     have H:=H1
     clear H1
     obtain rfl:=Option.some.inj H
     go_wp2
     repeat (go_quiet (fail);try go_wp2)
     go_ret
     exact ⟨by first|rfl|(simp [errW_none,errW_some] <;> rfl)|(simp [*,errW_none,errW_some] <;> rfl),by repeat (first|(with_reducible first|exact HB.out|apply ba_|apply bb_|apply bc_)|exact HB.out)⟩
    ·replace c12:=Bool.eq_false_iff.mpr c12
     subst c12
     have H1 : (madrigallaw15_MdctBack.l0 kj5 a0 a1 l2 0) = some r:=by rw [if_neg (show ¬ (false = true) by decide)] at H;exact H
     clear H
     have H:=H1
     clear H1
     have H':=ak_ H
     clear H
     go_wp2
     repeat (go_quiet (fail);try go_wp2)
     go_loopg [7] kj5 (fun kq v7 w' => ∃ (x7_2 : Int),v7 = .int .i64 x7_2 ∧ Aside0 (madrigallaw15_MdctBack.l0 kq a0 a1 l2 x7_2 = some r) ∧ Aside0 (kq ≤ kj5) ∧ Aside0 (Below w.heap.size w w'))
     case atStart => exact ⟨(0),(by first|rfl|(simp;done)|(simp [*];done)),H',⟨Nat.le_refl _⟩,⟨by repeat (first|(with_reducible first|exact HB.out|apply ba_|apply bb_|apply bc_)|exact HB.out)⟩⟩
     case round =>
      clear H'
      try clear c1
      try clear c2
      try clear p2
      try clear c5
      try clear c6
      try clear p6
      try clear c8
      try clear c8b0
      try clear c10
      try clear c11
      try clear c11b0
      try clear c11b1
      try clear c12
      try clear p2
      try clear p6
      obtain ⟨x7_2,rfl,HA,HK2,HB⟩:=hrel
      (try simp only [i64_w,i32_w])
      cases gk with
      | zero => exact absurd HA.out (by simp [madrigallaw15_MdctBack.l0])
      | succ k2 =>
       have H:=HA.out
       clear HA
       simp only [madrigallaw15_MdctBack.l0] at H
       by_cases c13 : x7_2 < (l2.length : Int)
       ·rw [if_pos c13] at H
        have c13b0:=decide_eq_true c13
        clear c13
        by_cases c14 : 0 ≤ x7_2
        ·rw [if_pos c14] at H
         have c14b0:=decide_eq_true c14
         clear c14
         by_cases c15 : (rd l2 x7_2) < (-32768)
         ·rw [if_pos c15] at H
          have c15b0:=decide_eq_true c15
          clear c15
          obtain rfl:=Option.some.inj H
          have p510 : 0 ≤ (x7_2 : Int):=of_decide_eq_true (by first|(with_reducible assumption)|assumption)
          have q510 : x7_2 < (l2.length : Int):=of_decide_eq_true (by first|(with_reducible assumption)|assumption)
          obtain ⟨ad510,e510,hx510_0⟩:=Kd.at_int HR2.out x7_2 p510 q510
          cases e510
          replace hx510_0:=(HB.out.cell (World.block_lt_of_cell? w _ hx510_0)).trans hx510_0
          replace p510:=eq_true p510
          replace q510:=eq_true q510
          go_wp2
          repeat (go_quiet (fail);try go_wp2)
          go_ret
          exact ⟨by first|rfl|(simp [errW_none,errW_some] <;> rfl)|(simp [*,errW_none,errW_some] <;> rfl),by repeat (first|(with_reducible first|exact HB.out|apply ba_|apply bb_|apply bc_)|exact HB.out)⟩
         ·rw [if_neg c15] at H
          have c15b0:=decide_eq_false c15
          clear c15
          by_cases c16 : (rd l2 x7_2) > 32767
          ·rw [if_pos c16] at H
           have c16b0 : decide (32767 < (rd l2 x7_2)) = true:=decide_eq_true c16
           clear c16
           obtain rfl:=Option.some.inj H
           have p510 : 0 ≤ (x7_2 : Int):=of_decide_eq_true (by first|(with_reducible assumption)|assumption)
           have q510 : x7_2 < (l2.length : Int):=of_decide_eq_true (by first|(with_reducible assumption)|assumption)
           obtain ⟨ad510,e510,hx510_0⟩:=Kd.at_int HR2.out x7_2 p510 q510
           cases e510
           replace hx510_0:=(HB.out.cell (World.block_lt_of_cell? w _ hx510_0)).trans hx510_0
           replace p510:=eq_true p510
           replace q510:=eq_true q510
           have p511 : 0 ≤ (x7_2 : Int):=of_decide_eq_true (by first|(with_reducible assumption)|assumption)
           have q511 : x7_2 < (l2.length : Int):=of_decide_eq_true (by first|(with_reducible assumption)|assumption)
           obtain ⟨ad511,e511,hx511_0⟩:=Kd.at_int HR2.out x7_2 p511 q511
           obtain rfl : ad510 = ad511:=(by injection e511)
           replace hx511_0:=(HB.out.cell (World.block_lt_of_cell? w _ hx511_0)).trans hx511_0
           replace p511:=eq_true p511
           replace q511:=eq_true q511
           go_wp2
           repeat (go_quiet (fail);try go_wp2)
           go_ret
           exact ⟨by first|rfl|(simp [errW_none,errW_some] <;> rfl)|(simp [*,errW_none,errW_some] <;> rfl),by repeat (first|(with_reducible first|exact HB.out|apply ba_|apply bb_|apply bc_)|exact HB.out)⟩
          ·rw [if_neg c16] at H
           have c16b0 : decide (32767 < (rd l2 x7_2)) = false:=decide_eq_false c16
           clear c16
           have H':=ak_ H
           clear H
           have p510 : 0 ≤ (x7_2 : Int):=of_decide_eq_true (by first|(with_reducible assumption)|assumption)
           have q510 : x7_2 < (l2.length : Int):=of_decide_eq_true (by first|(with_reducible assumption)|assumption)
           obtain ⟨ad510,e510,hx510_0⟩:=Kd.at_int HR2.out x7_2 p510 q510
           cases e510
           replace hx510_0:=(HB.out.cell (World.block_lt_of_cell? w _ hx510_0)).trans hx510_0
           replace p510:=eq_true p510
           replace q510:=eq_true q510
           have p511 : 0 ≤ (x7_2 : Int):=of_decide_eq_true (by first|(with_reducible assumption)|assumption)
           have q511 : x7_2 < (l2.length : Int):=of_decide_eq_true (by first|(with_reducible assumption)|assumption)
           obtain ⟨ad511,e511,hx511_0⟩:=Kd.at_int HR2.out x7_2 p511 q511
           obtain rfl : ad510 = ad511:=(by injection e511)
           replace hx511_0:=(HB.out.cell (World.block_lt_of_cell? w _ hx511_0)).trans hx511_0
           replace p511:=eq_true p511
           replace q511:=eq_true q511
           go_wp2
           repeat (go_quiet (fail);try go_wp2)
           go_roundg k2
           case measure => have:=HJ5.out;have:=HK2.out;omega
           case rel => exact ⟨(wrap64 (x7_2 + 1)),(by first|rfl|(simp;done)|(simp [*];done)),H',⟨by have:=HJ5.out;have:=HK2.out;omega⟩,⟨by repeat (first|(with_reducible first|exact HB.out|apply ba_|apply bb_|apply bc_)|exact HB.out)⟩⟩
        ·rw [if_neg c14] at H
         exact absurd H (by simp)
       ·rw [if_neg c13] at H
        have c13b0:=decide_eq_false c13
        clear c13
        by_cases c17 : mdct_Good.f a0 a1 = some true
        ·rw [if_pos c17] at H
         have c17b0 : (mdct_Good.f a0 a1 == some true) = true:=beq_iff_eq.mpr c17
         have c17b1 : (mdct_Good.f a0 a1 != some true) = false:=bne_eq_false_iff_eq.mpr c17
         clear c17
         replace H:=Option.bind_eq_some_iff.mp H
         obtain ⟨⟨t512,t513,t514,t516⟩,A180,H⟩:=H
         (try dsimp only at H)
         have A18:=ak_ A180
         clear A180
         have H':=ak_ H
         clear H
         go_wp2_with (first|((with_reducible refine gate_callee (f:=13) rfl ?_);refine goesL_ (some 60) rfl rfl Try.func13 (by kernel_rfl) rfl #[.int .i64 a0,.int .i64 a1] rfl (by (try simp only [List.map_toArray,List.map_cons,List.map_nil]);first|done|rfl|(simp only [List.length_drop,List.length_take];rfl)) ?_;(with_reducible refine (mdct_New1.calls a0 a1 t512 t513 t514 t516 w _ ?side1 A18.out).mono ?_);(case side1 => repeat (first|(with_reducible first|exact HB.out|apply ba_|apply bb_|apply bc_)|exact HB.out));rintro e w19 ⟨g515,rfl,hi,hb,hb2,hge⟩;refine ⟨_,rfl,?_⟩;have n0_:=ak_ (hb);have n1_:=ak_ (hi);clear HB;have HB:=n0_;have HI515:=n1_;clear n0_ n1_;(try clear hb);(try clear hb2);(try clear hi);(try clear hge)))
         repeat (go_quiet (first|((with_reducible refine gate_callee (f:=13) rfl ?_);refine goesL_ (some 60) rfl rfl Try.func13 (by kernel_rfl) rfl #[.int .i64 a0,.int .i64 a1] rfl (by (try simp only [List.map_toArray,List.map_cons,List.map_nil]);first|done|rfl|(simp only [List.length_drop,List.length_take];rfl)) ?_;(with_reducible refine (mdct_New1.calls a0 a1 t512 t513 t514 t516 w _ ?side1 A18.out).mono ?_);(case side1 => repeat (first|(with_reducible first|exact HB.out|apply ba_|apply bb_|apply bc_)|exact HB.out));rintro e w19 ⟨g515,rfl,hi,hb,hb2,hge⟩;refine ⟨_,rfl,?_⟩;have n0_:=ak_ (hb);have n1_:=ak_ (hi);clear HB;have HB:=n0_;have HI515:=n1_;clear n0_ n1_;(try clear hb);(try clear hb2);(try clear hi);(try clear hge)));try go_wp2_with (first|((with_reducible refine gate_callee (f:=13) rfl ?_);refine goesL_ (some 60) rfl rfl Try.func13 (by kernel_rfl) rfl #[.int .i64 a0,.int .i64 a1] rfl (by (try simp only [List.map_toArray,List.map_cons,List.map_nil]);first|done|rfl|(simp only [List.length_drop,List.length_take];rfl)) ?_;(with_reducible refine (mdct_New1.calls a0 a1 t512 t513 t514 t516 w _ ?side1 A18.out).mono ?_);(case side1 => repeat (first|(with_reducible first|exact HB.out|apply ba_|apply bb_|apply bc_)|exact HB.out));rintro e w19 ⟨g515,rfl,hi,hb,hb2,hge⟩;refine ⟨_,rfl,?_⟩;have n0_:=ak_ (hb);have n1_:=ak_ (hi);clear HB;have HB:=n0_;have HI515:=n1_;clear n0_ n1_;(try clear hb);(try clear hb2);(try clear hi);(try clear hge))))
         go_loopg [10] k2 (fun kq v10 w' => ∃ (x10_3 : Int) (x516000_3 : Int) (x516001_3 : Int) (x516002_3 : List Int),v10 = .int .i64 x10_3 ∧ Aside0 (madrigallaw15_MdctBack.l1 kq a0 a1 l2 x10_3 x516000_3 x516001_3 x516002_3 = some r) ∧ Aside0 (kq ≤ k2) ∧ Aside0 (IsS52 w w' g515 x516000_3 x516001_3 x516002_3) ∧ Aside0 (Below w.heap.size w w'))
         case atStart => exact ⟨(0),(t512),(t513),(t514),(by first|rfl|(simp;done)|(simp [*];done)),H',⟨Nat.le_refl _⟩,⟨by repeat (first|(with_reducible first|exact HI515.out|apply IsS52.alloc|apply IsS52.drewN|apply IsS52.drew)|exact HI515.out)⟩,⟨by repeat (first|(with_reducible first|exact HB.out|apply ba_|apply bb_|apply bc_|refine below_set ?_ (IsS52.ge HI515.out))|exact HB.out)⟩⟩
         case round =>
          clear H'
          try clear c1
          try clear c2
          try clear p2
          try clear c5
          try clear p5
          try clear q5
          try clear hx5
          try clear c6
          try clear p6
          try clear c8
          try clear c8b0
          try clear c10
          try clear c11
          try clear c11b0
          try clear c11b1
          try clear c12
          try clear c13
          try clear c13b0
          try clear c14
          try clear c14b0
          try clear c15
          try clear c15b0
          try clear c16
          try clear c16b0
          try clear c17
          try clear c17b0
          try clear c17b1
          try clear hx510_0
          try clear hx511_0
          try clear p2
          try clear p510
          try clear p511
          try clear p6
          try clear q510
          try clear q511
          obtain ⟨x10_3,x516000_3,x516001_3,x516002_3,rfl,HA,HK3,HI515,HB⟩:=hrel
          (try simp only [i64_w,i32_w])
          cases gk with
          | zero => exact absurd HA.out (by simp [madrigallaw15_MdctBack.l1])
          | succ k3 =>
           have H:=HA.out
           clear HA
           simp only [madrigallaw15_MdctBack.l1] at H
           by_cases c20 : (wrap64 (x10_3 + (wrap64 (2 * a0)))) ≤ (l2.length : Int)
           ·rw [if_pos c20] at H
            have c20b0:=decide_eq_true c20
            clear c20
            by_cases c21 : 0 ≤ x10_3
            ·rw [if_pos c21] at H
             have c21b0:=eq_true c21
             have c21b1 : decide (0 ≤ x10_3) = true:=decide_eq_true c21
             clear c21
             by_cases c22 : x10_3 ≤ (wrap64 (x10_3 + (wrap64 (2 * a0))))
             ·rw [if_pos c22] at H
              have c22b0:=eq_true c22
              have c22b1 : decide (x10_3 ≤ (wrap64 (x10_3 + (wrap64 (2 * a0))))) = true:=decide_eq_true c22
              have c23b0:=eq_true (of_decide_eq_true (by first|(with_reducible assumption)|assumption) : (wrap64 (x10_3 + (wrap64 (2 * a0)))) ≤ (l2.length : Int))
              obtain ⟨y517,hy517⟩ : ∃ y_ : List Int,y_ = ((l2.take ((wrap64 (x10_3 + (wrap64 (2 * a0)))) : Int).toNat).drop (x10_3 : Int).toNat):=⟨_,rfl⟩
              replace H : ((mdct_Forward.f k3 y517 a1).bind fun bt521 => ((mdct_Joiner_Next.f k3 x516000_3 x516001_3 x516002_3 bt521.1).bind fun bt525 => (if bt521.2 = 0 then (if bt525.2.1 = 0 then (madrigallaw15_MdctBack.j3 k3 a0 a1 l2 x10_3 bt525.1 ((bt525.1.length : Int) != a0) bt525.2.2.1 bt525.2.2.2.1 bt525.2.2.2.2) else (madrigallaw15_MdctBack.j3 k3 a0 a1 l2 x10_3 bt525.1 true bt525.2.2.1 bt525.2.2.2.1 bt525.2.2.2.2)) else (madrigallaw15_MdctBack.j3 k3 a0 a1 l2 x10_3 bt525.1 true bt525.2.2.1 bt525.2.2.2.1 bt525.2.2.2.2)))) = some r:=by first|(rw [hy517];with_reducible exact H)|(have H2_:=(Option.bind_some _ _).symm.trans H;rw [hy517];with_reducible exact H2_)|(have H2_:=(Option.bind_some _ _).symm.trans H;with_reducible exact H2_)|with_reducible exact H|(rw [hy517];exact H)|exact H
              have Ny517:=ak_ hy517
              clear hy517
              replace H:=Option.bind_eq_some_iff.mp H
              obtain ⟨⟨t521,t522⟩,A240,H⟩:=H
              (try dsimp only at H)
              have A24:=ak_ A240
              clear A240
              replace H:=Option.bind_eq_some_iff.mp H
              obtain ⟨⟨t525,t528,t529,t530,t531⟩,A250,H⟩:=H
              (try dsimp only at H)
              have A25:=ak_ A250
              clear A250
              have HC26:=ak_ H
              clear H
              have q27 : ((wrap64 (x10_3 + (wrap64 (2 * a0)))) : Int) ≤ ((l2.length : Int) : Int):=of_decide_eq_true (by first|(with_reducible assumption)|assumption)
              obtain ⟨i027,hi027,_,hsz27,_⟩:=info_parts info2
              have hroom27 : l2.length ≤ c2:=HC2.out
              have hC27 : Kd.C (Kd.int .i64) _ A2 l2.length l2:=HR2.out
              have ql27 : (x10_3 : Int) ≤ ((wrap64 (x10_3 + (wrap64 (2 * a0)))) : Int):=of_decide_eq_true (by first|(with_reducible assumption)|assumption)
              have q027 : (0 : Int) ≤ (x10_3 : Int):=of_decide_eq_true (by first|(with_reducible assumption)|assumption)
              have hcut27:=cut_mid (P:=Try.prog) 23 2 .i64 .i64 Try.underlying23 hi027 1 hsz27 A2 l2.length c2 x10_3 (wrap64 (x10_3 + (wrap64 (2 * a0)))) q027 ql27 q27 hroom27
              have hr27:=Kd.C_mid (lo:=(x10_3 : Int).toNat) (hi:=((wrap64 (x10_3 + (wrap64 (2 * a0)))) : Int).toNat) (c:=c2) hC27 (by omega) (by omega) hroom27
              obtain ⟨A27,hA27⟩ : ∃ A_1,A_1 = (if c2 = (x10_3 : Int).toNat then A2 else (A2 : Option Addr).map (·.add ((x10_3 : Int).toNat * 1))):=⟨_,rfl⟩
              obtain ⟨c27,hc27⟩ : ∃ c_1,c_1 = c2 - (x10_3 : Int).toNat:=⟨_,rfl⟩
              have hy27 : y517.length = ((wrap64 (x10_3 + (wrap64 (2 * a0)))) : Int).toNat - (x10_3 : Int).toNat:=(by rw [Ny517.out,List.length_drop,List.length_take] <;> omega)
              rw [show ((l2).take ((wrap64 (x10_3 + (wrap64 (2 * a0)))) : Int).toNat).drop (x10_3 : Int).toNat = y517 from Ny517.out.symm] at hr27
              replace hr27 : Kd.C (Kd.int .i64) _ A27 y517.length y517:=(by rw [hA27];exact hr27)
              rw [← hy27,← hA27,← hc27] at hcut27
              have HR520:=ak_ hr27
              have HC520:=ak_ (show y517.length ≤ c27 from by rw [hy27,hc27];exact Nat.sub_le_sub_right (Nat.le_trans (by omega) hroom27) _)
              clear hr27 hC27 hroom27 hi027 hsz27 hc27
              have KY27:=ak_ hy27
              have KA27:=ak_ hA27
              clear hy27 hA27
              replace q27:=eq_true q27
              go_upto_region 18 with (first|(go_at_call 11;(with_reducible refine (mdct_Forward.calls k3 _ _ y517 a1 t521 t522 _ ?side1 ?side2 A24.out).mono ?_);(case side1 => repeat (first|exact (Kd.C_below HR520.out HB.out)|(with_reducible refine Kd.C_alloc ?_ _)|(with_reducible refine Kd.C_drewN ?_ _)|(with_reducible refine Kd.C_drew ?_)));(case side2 => exact HC520.out);rintro e w28 ⟨v523,rfl,ho0,hb⟩;have n0_:=ak_ (Kd.R_lower ho0 (below_size (by repeat (first|(with_reducible first|exact HB.out|apply ba_|apply bb_|apply bc_|refine below_set ?_ (IsS52.ge HI515.out))|exact HB.out))));have n1_:=ak_ (IsS52.below (by repeat (first|(with_reducible first|exact HI515.out|apply IsS52.alloc|apply IsS52.drewN|apply IsS52.drew)|exact HI515.out)) hb);have n2_:=ak_ (below_step (by repeat (first|(with_reducible first|exact HB.out|apply ba_|apply bb_|apply bc_|refine below_set ?_ (IsS52.ge HI515.out))|exact HB.out)) hb);clear HI515;clear HB;have HO524:=n0_;have HI515:=n1_;have HB:=n2_;clear n0_ n1_ n2_;(try clear hb);(try clear ho0);obtain ⟨Ao29,co29,eo29⟩:=Kd.R_slice HO524.out;subst eo29)|(go_at_call 14;(with_reducible refine (mdct_Joiner_Next.calls k3 g515 x516000_3 x516001_3 x516002_3 _ _ t521 t525 t528 t529 t530 t531 w _ ?side1 ?side2 ?side3 ?side4 ?side5 A25.out).mono ?_);(case side1 => repeat (first|(with_reducible first|exact HI515.out|apply IsS52.alloc|apply IsS52.drewN|apply IsS52.drew)|exact HI515.out));(case side2 => repeat (first|(with_reducible first|exact HB.out|apply ba_|apply bb_|apply bc_|refine below_set ?_ (IsS52.ge HI515.out))|exact HB.out));(case side3 => repeat (first|exact (Kd.R_reads' HO524.out).2.2|(with_reducible refine Kd.C_alloc ?_ _)|(with_reducible refine Kd.C_drewN ?_ _)|(with_reducible refine Kd.C_drew ?_)));(case side4 => exact (Kd.R_reads' HO524.out).2.1);(case side5 => exact far_slice (IsS52.own_ne HI515.out HO524.out (by decide)));rintro e w30 ⟨v526,rfl,ho0,hi,hb,hk⟩;have n0_:=ak_ (Kd.R_mono (Kd.R_told (Kd.R_oldK (IsS52.apart (show IsS52 w _ g515 x516000_3 x516001_3 x516002_3 from by repeat (first|(with_reducible first|exact HI515.out|apply IsS52.alloc|apply IsS52.drewN|apply IsS52.drew)|exact HI515.out)) (by (with_reducible repeat (first|apply ra_|apply rb_|apply rc_));exact HO524.out) (by decide)) hk) (Kd.R_base ho0)) (fun _ h_ => h_.1));have n1_:=ak_ (Kd.R_lower (Kd.R_new' ho0 (Kd.R_lt (by (with_reducible repeat (first|apply ra_|apply rb_|apply rc_));exact HO524.out))) (below_size (by repeat (first|(with_reducible first|exact HB.out|apply ba_|apply bb_|apply bc_|refine below_set ?_ (IsS52.ge HI515.out))|exact HB.out))));have n2_:=ak_ (hb);have n3_:=ak_ (hi);clear HO524;clear HB;clear HI515;have HO524:=n0_;have HO527:=n1_;have HB:=n2_;have HI515:=n3_;clear n0_ n1_ n2_ n3_;(try clear hb);(try clear hk);(try clear hi);(try clear ho0)))
              repeat (go_quiet (first|(go_at_call 11;(with_reducible refine (mdct_Forward.calls k3 _ _ y517 a1 t521 t522 _ ?side1 ?side2 A24.out).mono ?_);(case side1 => repeat (first|exact (Kd.C_below HR520.out HB.out)|(with_reducible refine Kd.C_alloc ?_ _)|(with_reducible refine Kd.C_drewN ?_ _)|(with_reducible refine Kd.C_drew ?_)));(case side2 => exact HC520.out);rintro e w28 ⟨v523,rfl,ho0,hb⟩;have n0_:=ak_ (Kd.R_lower ho0 (below_size (by repeat (first|(with_reducible first|exact HB.out|apply ba_|apply bb_|apply bc_|refine below_set ?_ (IsS52.ge HI515.out))|exact HB.out))));have n1_:=ak_ (IsS52.below (by repeat (first|(with_reducible first|exact HI515.out|apply IsS52.alloc|apply IsS52.drewN|apply IsS52.drew)|exact HI515.out)) hb);have n2_:=ak_ (below_step (by repeat (first|(with_reducible first|exact HB.out|apply ba_|apply bb_|apply bc_|refine below_set ?_ (IsS52.ge HI515.out))|exact HB.out)) hb);clear HI515;clear HB;have HO524:=n0_;have HI515:=n1_;have HB:=n2_;clear n0_ n1_ n2_;(try clear hb);(try clear ho0);obtain ⟨Ao29,co29,eo29⟩:=Kd.R_slice HO524.out;subst eo29)|(go_at_call 14;(with_reducible refine (mdct_Joiner_Next.calls k3 g515 x516000_3 x516001_3 x516002_3 _ _ t521 t525 t528 t529 t530 t531 w _ ?side1 ?side2 ?side3 ?side4 ?side5 A25.out).mono ?_);(case side1 => repeat (first|(with_reducible first|exact HI515.out|apply IsS52.alloc|apply IsS52.drewN|apply IsS52.drew)|exact HI515.out));(case side2 => repeat (first|(with_reducible first|exact HB.out|apply ba_|apply bb_|apply bc_|refine below_set ?_ (IsS52.ge HI515.out))|exact HB.out));(case side3 => repeat (first|exact (Kd.R_reads' HO524.out).2.2|(with_reducible refine Kd.C_alloc ?_ _)|(with_reducible refine Kd.C_drewN ?_ _)|(with_reducible refine Kd.C_drew ?_)));(case side4 => exact (Kd.R_reads' HO524.out).2.1);(case side5 => exact far_slice (IsS52.own_ne HI515.out HO524.out (by decide)));rintro e w30 ⟨v526,rfl,ho0,hi,hb,hk⟩;have n0_:=ak_ (Kd.R_mono (Kd.R_told (Kd.R_oldK (IsS52.apart (show IsS52 w _ g515 x516000_3 x516001_3 x516002_3 from by repeat (first|(with_reducible first|exact HI515.out|apply IsS52.alloc|apply IsS52.drewN|apply IsS52.drew)|exact HI515.out)) (by (with_reducible repeat (first|apply ra_|apply rb_|apply rc_));exact HO524.out) (by decide)) hk) (Kd.R_base ho0)) (fun _ h_ => h_.1));have n1_:=ak_ (Kd.R_lower (Kd.R_new' ho0 (Kd.R_lt (by (with_reducible repeat (first|apply ra_|apply rb_|apply rc_));exact HO524.out))) (below_size (by repeat (first|(with_reducible first|exact HB.out|apply ba_|apply bb_|apply bc_|refine below_set ?_ (IsS52.ge HI515.out))|exact HB.out))));have n2_:=ak_ (hb);have n3_:=ak_ (hi);clear HO524;clear HB;clear HI515;have HO524:=n0_;have HO527:=n1_;have HB:=n2_;have HI515:=n3_;clear n0_ n1_ n2_ n3_;(try clear hb);(try clear hk);(try clear hi);(try clear ho0)));go_upto_region 18 with (first|(go_at_call 11;(with_reducible refine (mdct_Forward.calls k3 _ _ y517 a1 t521 t522 _ ?side1 ?side2 A24.out).mono ?_);(case side1 => repeat (first|exact (Kd.C_below HR520.out HB.out)|(with_reducible refine Kd.C_alloc ?_ _)|(with_reducible refine Kd.C_drewN ?_ _)|(with_reducible refine Kd.C_drew ?_)));(case side2 => exact HC520.out);rintro e w28 ⟨v523,rfl,ho0,hb⟩;have n0_:=ak_ (Kd.R_lower ho0 (below_size (by repeat (first|(with_reducible first|exact HB.out|apply ba_|apply bb_|apply bc_|refine below_set ?_ (IsS52.ge HI515.out))|exact HB.out))));have n1_:=ak_ (IsS52.below (by repeat (first|(with_reducible first|exact HI515.out|apply IsS52.alloc|apply IsS52.drewN|apply IsS52.drew)|exact HI515.out)) hb);have n2_:=ak_ (below_step (by repeat (first|(with_reducible first|exact HB.out|apply ba_|apply bb_|apply bc_|refine below_set ?_ (IsS52.ge HI515.out))|exact HB.out)) hb);clear HI515;clear HB;have HO524:=n0_;have HI515:=n1_;have HB:=n2_;clear n0_ n1_ n2_;(try clear hb);(try clear ho0);obtain ⟨Ao29,co29,eo29⟩:=Kd.R_slice HO524.out;subst eo29)|(go_at_call 14;(with_reducible refine (mdct_Joiner_Next.calls k3 g515 x516000_3 x516001_3 x516002_3 _ _ t521 t525 t528 t529 t530 t531 w _ ?side1 ?side2 ?side3 ?side4 ?side5 A25.out).mono ?_);(case side1 => repeat (first|(with_reducible first|exact HI515.out|apply IsS52.alloc|apply IsS52.drewN|apply IsS52.drew)|exact HI515.out));(case side2 => repeat (first|(with_reducible first|exact HB.out|apply ba_|apply bb_|apply bc_|refine below_set ?_ (IsS52.ge HI515.out))|exact HB.out));(case side3 => repeat (first|exact (Kd.R_reads' HO524.out).2.2|(with_reducible refine Kd.C_alloc ?_ _)|(with_reducible refine Kd.C_drewN ?_ _)|(with_reducible refine Kd.C_drew ?_)));(case side4 => exact (Kd.R_reads' HO524.out).2.1);(case side5 => exact far_slice (IsS52.own_ne HI515.out HO524.out (by decide)));rintro e w30 ⟨v526,rfl,ho0,hi,hb,hk⟩;have n0_:=ak_ (Kd.R_mono (Kd.R_told (Kd.R_oldK (IsS52.apart (show IsS52 w _ g515 x516000_3 x516001_3 x516002_3 from by repeat (first|(with_reducible first|exact HI515.out|apply IsS52.alloc|apply IsS52.drewN|apply IsS52.drew)|exact HI515.out)) (by (with_reducible repeat (first|apply ra_|apply rb_|apply rc_));exact HO524.out) (by decide)) hk) (Kd.R_base ho0)) (fun _ h_ => h_.1));have n1_:=ak_ (Kd.R_lower (Kd.R_new' ho0 (Kd.R_lt (by (with_reducible repeat (first|apply ra_|apply rb_|apply rc_));exact HO524.out))) (below_size (by repeat (first|(with_reducible first|exact HB.out|apply ba_|apply bb_|apply bc_|refine below_set ?_ (IsS52.ge HI515.out))|exact HB.out))));have n2_:=ak_ (hb);have n3_:=ak_ (hi);clear HO524;clear HB;clear HI515;have HO524:=n0_;have HO527:=n1_;have HB:=n2_;have HI515:=n3_;clear n0_ n1_ n2_ n3_;(try clear hb);(try clear hk);(try clear hi);(try clear ho0))))
              (try simp only [Act.put,List.setIfInBounds_toArray,List.set_cons_zero,List.set_cons_succ])
              go_cut [104] (fun v104 wc => ∃ (kq : Nat) (x104_25 : Bool),v104 = .bool x104_25 ∧ Aside0 (madrigallaw15_MdctBack.j3 kq a0 a1 l2 x10_3 t525 x104_25 t529 t530 t531 = some r) ∧ Aside0 (kq ≤ k3) ∧ Aside0 (Kd.R (Kd.int .i64) 2 wc w.heap.size (fun _ => True) v526 t525) ∧ Aside0 (IsS52 w wc g515 t529 t530 t531) ∧ Aside0 (Below w.heap.size w wc))
              case first =>
               have H:=HC26.out
               clear HC26
               by_cases c31 : t522 = 0
               ·rw [if_pos c31] at H
                have c31b0 : (t522 == 0) = true:=beq_iff_eq.mpr c31
                have c31b1 : (t522 != 0) = false:=bne_eq_false_iff_eq.mpr c31
                clear c31
                (first|rw [c31b0]|(simp only [i64_w,i32_w];rw [c31b0])|skip)
                by_cases c32 : t528 = 0
                ·rw [if_pos c32] at H
                 have c32b0 : (t528 == 0) = true:=beq_iff_eq.mpr c32
                 have c32b1 : (t528 != 0) = false:=bne_eq_false_iff_eq.mpr c32
                 clear c32
                 have H':=ak_ H
                 clear H
                 obtain ⟨Ao33,co33,eo33⟩:=Kd.R_slice HO527.out
                 subst eo33
                 go_wp2
                 repeat (go_quiet (fail);try go_wp2)
                 go_meet
                 case rel => exact ⟨_,(((t525.length : Int) != a0)),(by first|rfl|(simp;done)|(simp [*];done)),H',⟨by have:=HJ5.out;have:=HK2.out;have:=HK3.out;first|omega|exact Nat.le_refl _⟩,⟨by (with_reducible repeat (first|apply ra_|apply rb_|apply rc_));exact Kd.R_mono HO527.out (fun _ hk => trivial)⟩,⟨by repeat (first|(with_reducible first|exact HI515.out|apply IsS52.alloc|apply IsS52.drewN|apply IsS52.drew)|exact HI515.out)⟩,⟨by repeat (first|(with_reducible first|exact HB.out|apply ba_|apply bb_|apply bc_|refine below_set ?_ (IsS52.ge HI515.out))|exact HB.out)⟩⟩
                ·rw [if_neg c32] at H
                 have c32b0 : (t528 == 0) = false:=beq_eq_false_iff_ne.mpr c32
                 have c32b1 : (t528 != 0) = true:=bne_iff_ne.mpr c32
                 have H':=ak_ H
                 clear H
                 go_wp2
                 repeat (go_quiet (fail);try go_wp2)
                 go_meet
                 case rel => exact ⟨_,(true),(by first|rfl|(simp;done)|(simp [*];done)),H',⟨by have:=HJ5.out;have:=HK2.out;have:=HK3.out;first|omega|exact Nat.le_refl _⟩,⟨by (with_reducible repeat (first|apply ra_|apply rb_|apply rc_));exact Kd.R_mono HO527.out (fun _ hk => trivial)⟩,⟨by repeat (first|(with_reducible first|exact HI515.out|apply IsS52.alloc|apply IsS52.drewN|apply IsS52.drew)|exact HI515.out)⟩,⟨by repeat (first|(with_reducible first|exact HB.out|apply ba_|apply bb_|apply bc_|refine below_set ?_ (IsS52.ge HI515.out))|exact HB.out)⟩⟩
               ·rw [if_neg c31] at H
                have c31b0 : (t522 == 0) = false:=beq_eq_false_iff_ne.mpr c31
                have c31b1 : (t522 != 0) = true:=bne_iff_ne.mpr c31
                (first|rw [c31b0]|(simp only [i64_w,i32_w];rw [c31b0])|skip)
                have H':=ak_ H
                clear H
                go_wp2
                repeat (go_quiet (fail);try go_wp2)
                go_meet
                case rel => exact ⟨_,(true),(by first|rfl|(simp;done)|(simp [*];done)),H',⟨by have:=HJ5.out;have:=HK2.out;have:=HK3.out;first|omega|exact Nat.le_refl _⟩,⟨by (with_reducible repeat (first|apply ra_|apply rb_|apply rc_));exact Kd.R_mono HO527.out (fun _ hk => trivial)⟩,⟨by repeat (first|(with_reducible first|exact HI515.out|apply IsS52.alloc|apply IsS52.drewN|apply IsS52.drew)|exact HI515.out)⟩,⟨by repeat (first|(with_reducible first|exact HB.out|apply ba_|apply bb_|apply bc_|refine below_set ?_ (IsS52.ge HI515.out))|exact HB.out)⟩⟩
              case rest =>
               clear HC26
               try clear c1
               try clear c2
               try clear p2
               try clear q2
               try clear c3
               try clear c5
               try clear p5
               try clear q5
               try clear hx5
               try clear c6
               try clear p6
               try clear c8
               try clear c8b0
               try clear c10
               try clear c11
               try clear c11b0
               try clear c11b1
               try clear c12
               try clear c13
               try clear c13b0
               try clear c14
               try clear c14b0
               try clear c15
               try clear c15b0
               try clear c16
               try clear c16b0
               try clear c17
               try clear c17b0
               try clear c17b1
               try clear c20
               try clear c20b0
               try clear c21
               try clear c21b0
               try clear c21b1
               try clear c22
               try clear c22b0
               try clear c22b1
               try clear c23
               try clear c23b0
               try clear c27
               try clear q27
               try clear c31
               try clear c31b0
               try clear c31b1
               try clear c32
               try clear c32b0
               try clear c32b1
               try clear hx510_0
               try clear hx511_0
               try clear p2
               try clear p5
               try clear p510
               try clear p511
               try clear p6
               try clear q027
               try clear q27
               try clear q5
               try clear q510
               try clear q511
               obtain ⟨kq,x104_25,rfl,HA,HJ25,HO_13,HI515,HB⟩:=hcut
               (try simp only [i64_w,i32_w])
               cases kq with
               | zero => exact absurd HA.out (by simp [madrigallaw15_MdctBack.j3])
               | succ kj25 =>
                have H:=HA.out
                clear HA
                simp only [madrigallaw15_MdctBack.j3] at H
                by_cases c34 : x104_25 = true
                ·subst c34
                 have H1 : (none) = some r:=by rw [if_pos rfl] at H;exact H
                 clear H
                 have H:=H1
                 clear H1
                 exact absurd H (by simp)
                ·replace c34:=Bool.eq_false_iff.mpr c34
                 subst c34
                 have H1 : (madrigallaw15_MdctBack.l2 kj25 a0 a1 l2 x10_3 t525 0 t529 t530 t531) = some r:=by rw [if_neg (show ¬ (false = true) by decide)] at H;exact H
                 clear H
                 have H:=H1
                 clear H1
                 have H':=ak_ H
                 clear H
                 go_wp2
                 repeat (go_quiet (fail);try go_wp2)
                 go_loopg [15] kj25 (fun kq v15 w' => ∃ (x15_5 : Int),v15 = .int .i64 x15_5 ∧ Aside0 (madrigallaw15_MdctBack.l2 kq a0 a1 l2 x10_3 t525 x15_5 t529 t530 t531 = some r) ∧ Aside0 (kq ≤ kj25) ∧ Aside0 (Kd.R (Kd.int .i64) 2 w' w.heap.size (fun _ => True) v526 t525) ∧ Aside0 (IsS52 w w' g515 t529 t530 t531) ∧ Aside0 (Below w.heap.size w w'))
                 case atStart => exact ⟨(0),(by first|rfl|(simp;done)|(simp [*];done)),H',⟨Nat.le_refl _⟩,⟨by (with_reducible repeat (first|apply ra_|apply rb_|apply rc_));exact HO_13.out⟩,⟨by repeat (first|(with_reducible first|exact HI515.out|apply IsS52.alloc|apply IsS52.drewN|apply IsS52.drew)|exact HI515.out)⟩,⟨by repeat (first|(with_reducible first|exact HB.out|apply ba_|apply bb_|apply bc_|refine below_set ?_ (IsS52.ge HI515.out))|exact HB.out)⟩⟩
                 case round =>
                  clear H'
                  try clear c1
                  try clear c2
                  try clear p2
                  try clear q2
                  try clear c3
                  try clear c5
                  try clear p5
                  try clear q5
                  try clear hx5
                  try clear c6
                  try clear p6
                  try clear c8
                  try clear c8b0
                  try clear c10
                  try clear c11
                  try clear c11b0
                  try clear c11b1
                  try clear c12
                  try clear c13
                  try clear c13b0
                  try clear c14
                  try clear c14b0
                  try clear c15
                  try clear c15b0
                  try clear c16
                  try clear c16b0
                  try clear c17
                  try clear c17b0
                  try clear c17b1
                  try clear c20
                  try clear c20b0
                  try clear c21
                  try clear c21b0
                  try clear c21b1
                  try clear c22
                  try clear c22b0
                  try clear c22b1
                  try clear c23
                  try clear c23b0
                  try clear c27
                  try clear q27
                  try clear c31
                  try clear c31b0
                  try clear c31b1
                  try clear c32
                  try clear c32b0
                  try clear c32b1
                  try clear c34
                  try clear hx510_0
                  try clear hx511_0
                  try clear p2
                  try clear p5
                  try clear p510
                  try clear p511
                  try clear p6
                  try clear q027
                  try clear q2
                  try clear q27
                  try clear q5
                  try clear q510
                  try clear q511
                  obtain ⟨x15_5,rfl,HA,HK5,HO_13,HI515,HB⟩:=hrel
                  (try simp only [i64_w,i32_w])
                  cases gk with
                  | zero => exact absurd HA.out (by simp [madrigallaw15_MdctBack.l2])
                  | succ k5 =>
                   have H:=HA.out
                   clear HA
                   simp only [madrigallaw15_MdctBack.l2] at H
                   have HC35:=ak_ H
                   clear H
                   go_upto_region 21 with (fail)
                   repeat (go_quiet (fail);go_upto_region 21 with (fail))
                   go_cut [111] (fun v111 wc => ∃ (kq : Nat) (x111_34 : Bool),v111 = .bool x111_34 ∧ Aside0 (madrigallaw15_MdctBack.j5 kq a0 a1 l2 x10_3 t525 x15_5 x111_34 t529 t530 t531 = some r) ∧ Aside0 (kq ≤ k5) ∧ Aside0 (Kd.R (Kd.int .i64) 2 wc w.heap.size (fun _ => True) v526 t525) ∧ Aside0 (IsS52 w wc g515 t529 t530 t531) ∧ Aside0 (Below w.heap.size w wc))
                   case first =>
                    have H:=HC35.out
                    clear HC35
                    by_cases c36 : x15_5 < a0
                    ·rw [if_pos c36] at H
                     have c36b0:=decide_eq_true c36
                     clear c36
                     (first|rw [c36b0]|(simp only [i64_w,i32_w];rw [c36b0])|skip)
                     have H':=ak_ H
                     clear H
                     go_wp2
                     repeat (go_quiet (fail);try go_wp2)
                     refine Met.intro ?_
                     go_step
                     (repeat apply Exists.intro)
                     first|refine ⟨?rel606,rfl⟩|(refine ⟨?rel606,?st606⟩;case' st606 => (first|rw [c36b0]|simp only [c36b0]))
                     case rel606 => exact ⟨_,(decide (x10_3 > 0)),(by first|rfl|(simp;done)|(simp [*];done)),H',⟨by have:=HJ5.out;have:=HK2.out;have:=HK3.out;have:=HJ25.out;have:=HK5.out;first|omega|exact Nat.le_refl _⟩,⟨by (with_reducible repeat (first|apply ra_|apply rb_|apply rc_));exact HO_13.out⟩,⟨by repeat (first|(with_reducible first|exact HI515.out|apply IsS52.alloc|apply IsS52.drewN|apply IsS52.drew)|exact HI515.out)⟩,⟨by repeat (first|(with_reducible first|exact HB.out|apply ba_|apply bb_|apply bc_|refine below_set ?_ (IsS52.ge HI515.out))|exact HB.out)⟩⟩
                    ·rw [if_neg c36] at H
                     have c36b0:=decide_eq_false c36
                     clear c36
                     (first|rw [c36b0]|(simp only [i64_w,i32_w];rw [c36b0])|skip)
                     have H':=ak_ H
                     clear H
                     go_wp2
                     repeat (go_quiet (fail);try go_wp2)
                     refine Met.intro ?_
                     go_step
                     (repeat apply Exists.intro)
                     first|refine ⟨?rel616,rfl⟩|(refine ⟨?rel616,?st616⟩;case' st616 => (first|rw [c36b0]|simp only [c36b0]))
                     case rel616 => exact ⟨_,(false),(by first|rfl|(simp;done)|(simp [*];done)),H',⟨by have:=HJ5.out;have:=HK2.out;have:=HK3.out;have:=HJ25.out;have:=HK5.out;first|omega|exact Nat.le_refl _⟩,⟨by (with_reducible repeat (first|apply ra_|apply rb_|apply rc_));exact HO_13.out⟩,⟨by repeat (first|(with_reducible first|exact HI515.out|apply IsS52.alloc|apply IsS52.drewN|apply IsS52.drew)|exact HI515.out)⟩,⟨by repeat (first|(with_reducible first|exact HB.out|apply ba_|apply bb_|apply bc_|refine below_set ?_ (IsS52.ge HI515.out))|exact HB.out)⟩⟩
                   case rest =>
                    clear HC35
                    try clear c1
                    try clear c2
                    try clear p2
                    try clear q2
                    try clear c3
                    try clear c5
                    try clear p5
                    try clear q5
                    try clear hx5
                    try clear c6
                    try clear p6
                    try clear c8
                    try clear c8b0
                    try clear c10
                    try clear c11
                    try clear c11b0
                    try clear c11b1
                    try clear c12
                    try clear c13
                    try clear c13b0
                    try clear c14
                    try clear c14b0
                    try clear c15
                    try clear c15b0
                    try clear c16
                    try clear c16b0
                    try clear c17
                    try clear c17b0
                    try clear c17b1
                    try clear c20
                    try clear c20b0
                    try clear c21
                    try clear c21b0
                    try clear c21b1
                    try clear c22
                    try clear c22b0
                    try clear c22b1
                    try clear c23
                    try clear c23b0
                    try clear c27
                    try clear q27
                    try clear c31
                    try clear c31b0
                    try clear c31b1
                    try clear c32
                    try clear c32b0
                    try clear c32b1
                    try clear c34
                    try clear c36
                    try clear c36b0
                    try clear hx510_0
                    try clear hx511_0
                    try clear p2
                    try clear p5
                    try clear p510
                    try clear p511
                    try clear p6
                    try clear q027
                    try clear q2
                    try clear q27
                    try clear q5
                    try clear q510
                    try clear q511
                    obtain ⟨kq,x111_34,rfl,HA,HJ34,HO_13,HI515,HB⟩:=hcut
                    (try simp only [i64_w,i32_w])
                    cases kq with
                    | zero => exact absurd HA.out (by simp [madrigallaw15_MdctBack.j5])
                    | succ kj34 =>
                     have H:=HA.out
                     clear HA
                     simp only [madrigallaw15_MdctBack.j5] at H
                     by_cases c37 : x111_34 = true
                     ·subst c37
                      have H1 : (if 0 ≤ x15_5 then (if x15_5 < (t525.length : Int) then (if 0 ≤ (wrap64 (x10_3 + x15_5)) then (if (wrap64 (x10_3 + x15_5)) < (l2.length : Int) then (if (wrap64 ((rd t525 x15_5) - (rd l2 (wrap64 (x10_3 + x15_5))))) > 64 then (none) else (if (wrap64 ((rd t525 x15_5) - (rd l2 (wrap64 (x10_3 + x15_5))))) < (-64) then (none) else (madrigallaw15_MdctBack.l2 kj34 a0 a1 l2 x10_3 t525 (wrap64 (x15_5 + 1)) t529 t530 t531))) else (none)) else (none)) else (none)) else (none)) = some r:=by rw [if_pos rfl] at H;exact H
                      clear H
                      have H:=H1
                      clear H1
                      by_cases c38 : 0 ≤ x15_5
                      ·rw [if_pos c38] at H
                       have c38b0:=decide_eq_true c38
                       clear c38
                       by_cases c39 : x15_5 < (t525.length : Int)
                       ·rw [if_pos c39] at H
                        have c39b0:=decide_eq_true c39
                        clear c39
                        obtain ⟨ji40,hji40⟩ : ∃ j_ : Int,(wrap64 (x10_3 + x15_5)) = j_:=⟨_,rfl⟩
                        replace H : (if 0 ≤ (ji40) then (if (ji40) < (l2.length : Int) then (if (wrap64 ((rd t525 x15_5) - (rd l2 (ji40)))) > 64 then (none) else (if (wrap64 ((rd t525 x15_5) - (rd l2 (ji40)))) < (-64) then (none) else (madrigallaw15_MdctBack.l2 kj34 a0 a1 l2 x10_3 t525 (wrap64 (x15_5 + 1)) t529 t530 t531))) else (none)) else (none)) = some r:=by first|(rw [hji40] at H;exact H)|(simp only [hji40] at H ⊢;exact H)
                        have hji40w : (IntKind.i64.wrap (x10_3 + x15_5)) = ji40:=(i64_w _).trans hji40
                        by_cases c41 : 0 ≤ (ji40)
                        ·rw [if_pos c41] at H
                         have c41b0:=decide_eq_true c41
                         clear c41
                         by_cases c42 : (ji40) < (l2.length : Int)
                         ·rw [if_pos c42] at H
                          have c42b0:=decide_eq_true c42
                          clear c42
                          by_cases c43 : (wrap64 ((rd t525 x15_5) - (rd l2 (ji40)))) > 64
                          ·rw [if_pos c43] at H
                           exact absurd H (by simp)
                          ·rw [if_neg c43] at H
                           have c43b0 : decide (64 < (wrap64 ((rd t525 x15_5) - (rd l2 (ji40))))) = false:=decide_eq_false c43
                           clear c43
                           by_cases c44 : (wrap64 ((rd t525 x15_5) - (rd l2 (ji40)))) < (-64)
                           ·rw [if_pos c44] at H
                            exact absurd H (by simp)
                           ·rw [if_neg c44] at H
                            have c44b0:=decide_eq_false c44
                            clear c44
                            have H':=ak_ H
                            clear H
                            obtain ⟨Ao45,co45,eo45⟩:=Kd.R_slice HO_13.out
                            subst eo45
                            have p532 : 0 ≤ (x15_5 : Int):=of_decide_eq_true (by first|(with_reducible assumption)|assumption)
                            have q532 : x15_5 < (t525.length : Int):=of_decide_eq_true (by first|(with_reducible assumption)|assumption)
                            obtain ⟨ad532,e532,hx532_0⟩:=Kd.at_int (Kd.R_reads' HO_13.out).2.2 x15_5 p532 q532
                            cases e532
                            replace p532:=eq_true p532
                            replace q532:=eq_true q532
                            have p533 : 0 ≤ ((ji40) : Int):=of_decide_eq_true (by first|(with_reducible assumption)|assumption)
                            have q533 : (ji40) < (l2.length : Int):=of_decide_eq_true (by first|(with_reducible assumption)|assumption)
                            obtain ⟨ad533,e533,hx533_0⟩:=Kd.at_int HR2.out (ji40) p533 q533
                            cases e533
                            replace hx533_0:=(HB.out.cell (World.block_lt_of_cell? w _ hx533_0)).trans hx533_0
                            replace p533:=eq_true p533
                            replace q533:=eq_true q533
                            go_wp2
                            repeat (go_quiet (fail);try go_wp2)
                            go_roundg kj34
                            case measure => have:=HJ5.out;have:=HK2.out;have:=HK3.out;have:=HJ25.out;have:=HK5.out;have:=HJ34.out;omega
                            case rel => exact ⟨(wrap64 (x15_5 + 1)),(by first|rfl|(simp;done)|(simp [*];done)),H',⟨by have:=HJ5.out;have:=HK2.out;have:=HK3.out;have:=HJ25.out;have:=HK5.out;have:=HJ34.out;omega⟩,⟨by (with_reducible repeat (first|apply ra_|apply rb_|apply rc_));exact HO_13.out⟩,⟨by repeat (first|(with_reducible first|exact HI515.out|apply IsS52.alloc|apply IsS52.drewN|apply IsS52.drew)|exact HI515.out)⟩,⟨by repeat (first|(with_reducible first|exact HB.out|apply ba_|apply bb_|apply bc_|refine below_set ?_ (IsS52.ge HI515.out))|exact HB.out)⟩⟩
                         ·rw [if_neg c42] at H
                          exact absurd H (by simp)
                        ·rw [if_neg c41] at H
                         exact absurd H (by simp)
                       ·rw [if_neg c39] at H
                        exact absurd H (by simp)
                      ·rw [if_neg c38] at H
                       exact absurd H (by simp)
                     ·replace c37:=Bool.eq_false_iff.mpr c37
                      subst c37
                      have H1 : (madrigallaw15_MdctBack.l1 kj34 a0 a1 l2 (wrap64 (x10_3 + a0)) t529 t530 t531) = some r:=by rw [if_neg (show ¬ (false = true) by decide)] at H;exact H
                      clear H
                      have H:=H1
                      clear H1
                      have H':=ak_ H
                      clear H
                      go_wp2
                      repeat (go_quiet (fail);try go_wp2)
                      go_roundg kj34
                      case measure => have:=HJ5.out;have:=HK2.out;have:=HK3.out;have:=HJ25.out;have:=HK5.out;have:=HJ34.out;omega
                      case rel => exact ⟨(wrap64 (x10_3 + a0)),(t529),(t530),(t531),(by first|rfl|(simp;done)|(simp [*];done)),H',⟨by have:=HJ5.out;have:=HK2.out;have:=HK3.out;have:=HJ25.out;have:=HK5.out;have:=HJ34.out;omega⟩,⟨by repeat (first|(with_reducible first|exact HI515.out|apply IsS52.alloc|apply IsS52.drewN|apply IsS52.drew)|exact HI515.out)⟩,⟨by repeat (first|(with_reducible first|exact HB.out|apply ba_|apply bb_|apply bc_|refine below_set ?_ (IsS52.ge HI515.out))|exact HB.out)⟩⟩
             ·rw [if_neg c22] at H
              exact absurd H (by simp)
            ·rw [if_neg c21] at H
             exact absurd H (by simp)
           ·rw [if_neg c20] at H
            have c20b0:=decide_eq_false c20
            clear c20
            obtain rfl:=Option.some.inj H
            go_wp2
            repeat (go_quiet (fail);try go_wp2)
            go_ret
            exact ⟨by first|rfl|(simp [errW_none,errW_some] <;> rfl)|(simp [*,errW_none,errW_some] <;> rfl),by repeat (first|(with_reducible first|exact HB.out|apply ba_|apply bb_|apply bc_|refine below_set ?_ (IsS52.ge HI515.out))|exact HB.out)⟩
        ·rw [if_neg c17] at H
         have c17b0 : (mdct_Good.f a0 a1 == some true) = false:=beq_eq_false_iff_ne.mpr c17
         have c17b1 : (mdct_Good.f a0 a1 != some true) = true:=bne_iff_ne.mpr c17
         replace H:=Option.bind_eq_some_iff.mp H
         obtain ⟨t535,A460,H⟩:=H
         (try dsimp only at H)
         have A46:=ak_ A460
         clear A460
         exact absurd H (by simp)
 ·replace c5:=Bool.eq_false_iff.mpr c5
  subst c5
  have H1 : (none) = some r:=by rw [if_neg (show ¬ (false = true) by decide)] at H;exact H
  clear H
  have H:=H1
  clear H1
  exact absurd H (by simp)

/-- THE ONE PURE STATEMENT of madrigallaw15_MdctBack. -/
def madrigallaw15_MdctBack.Pure : Prop:=∀ (a0 : Int) (a1 : Int) (l2 : List Int),(Lit.int .i64 a0).wf = true → (Lit.int .i64 a1).wf = true → l2.length ≤ maxLen → l2.length * 8 ≤ 140737488351232 → (∀ x ∈ l2,(Lit.int .i64 x).wf = true) → ∃ k,madrigallaw15_MdctBack.f k a0 a1 l2 = some true
theorem madrigallaw15_MdctBack.walk (P : madrigallaw15_MdctBack.Pure) (a0 : Int) (a1 : Int) (a2 : Option Addr) (len2 cap2 : Nat) (z2 : List Int) (w : World) (w0 : (Lit.int .i64 a0).wf = true) (w1 : (Lit.int .i64 a1).wf = true) (w2 : (a2 = none ∧ len2 = 0 ∧ cap2 = 0 ∧ z2 = []) ∨ ∃ x,a2 = some x ∧ len2 ≤ cap2 ∧ cap2 ≤ maxLen ∧ z2.length = cap2 ∧ (∀ i,i < z2.length → w.cell? (x.add i) = some (.int .i64 (z2.getD i 0))) ∧ ∀ n ∈ z2,(Lit.int .i64 n).wf = true) (y2 : len2 * 8 ≤ 140737488351232) :
  Calls Try.prog 6 #[.int .i64 a0,.int .i64 a1,.slice a2 len2 cap2] w fun e w' => e = .returned (.bool true) ∧ Below w.heap.size w w':=by
 obtain ⟨l2,rfl,hr2,hm2,hw2,hc2⟩:=ReadsInt.ofRowC w2
 obtain ⟨k,h⟩:=P a0 a1 l2 w0 w1 hm2 y2 hw2
 refine (madrigallaw15_MdctBack.calls k a0 a1 _ _ l2 true w (Kd.C_of_reads (d:=(0 : Int)) (h1:=fun _ => rfl) hr2) hc2 h).mono ?_
 rintro e w' ⟨rfl,hd⟩
 exact ⟨rfl,hd⟩

end Go.Proofs.Ytlmacbiahofmcaa.P
