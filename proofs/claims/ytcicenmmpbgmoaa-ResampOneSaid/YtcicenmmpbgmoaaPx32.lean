/- The machine side of the laws of one chapter, without conditions: each call of a Go function comes to what the Lean function of its name answers. Written for this claim by a program of the prover. -/
import Derived.Test.YtcicenmmpbgmoaaPx0
import Derived.Test.YtcicenmmpbgmoaaPx1
import Derived.Test.YtcicenmmpbgmoaaPx2
import Derived.Test.YtcicenmmpbgmoaaPx11
import Derived.Test.YtcicenmmpbgmoaaPx15
import Derived.Test.YtcicenmmpbgmoaaPx17
namespace Go.Proofs.Ytcicenmmpbgmoaa.P
open Go.RowKit Go.Proofs.YtcicenmmpbgmoaaW.PrintWords Go.Proofs.YtcicenmmpbgmoaaW.PrintLast Go.Proofs.YtcicenmmpbgmoaaW.PrintMore
attribute [local go_sem] max2_int min2_int max_two min_two max_three min_three max_four min_four   -- for this text's walks alone
set_option linter.unusedVariables false
set_option linter.unusedSimpArgs false

/-! ### madrigallaw22_ResampOne: function 10 -/
mutual
def madrigallaw22_ResampOne.j0 : Nat → Int → Int → Int → Bool → Option (Bool)
 | 0,_,_,_,_ => none
 | k + 1,x0,x1,x2,x34 => if x34 = true then (some true) else (if resamp_Good.f x0 x0 = some true then ((resamp_New1.f x0 x0).bind fun bt568 => (if 80 ≤ 35184372088832 then ((some (List.replicate 80 0 : List Int)).bind fun y573 => (if 0 ≤ x2 then (if x2 < (y573.length : Int) then ((resamp_Sampler_Run.f k bt568.1 bt568.2.1 bt568.2.2.1 (y573.set (x2 : Int).toNat x1)).bind fun bt577 => (if bt577.2.1 = 0 then (madrigallaw22_ResampOne.j1 k x1 x2 bt577.1 ((bt577.1.length : Int) != 80)) else (madrigallaw22_ResampOne.j1 k x1 x2 bt577.1 true))) else (none)) else (none))) else (none))) else ((resamp_New0.f x0 x0).bind fun t588 => (none)))
def madrigallaw22_ResampOne.j1 : Nat → Int → Int → List Int → Bool → Option (Bool)
 | 0,_,_,_,_ => none
 | k + 1,x1,x2,x10,x60 => if x60 = true then (none) else (madrigallaw22_ResampOne.l0 k x1 x2 x10 0 0)
def madrigallaw22_ResampOne.l0 : Nat → Int → Int → List Int → Int → Int → Option (Bool)
 | 0,_,_,_,_,_ => none
 | k + 1,x1,x2,x10,x12,x13 => if x13 < (x10.length : Int) then (if 0 ≤ x13 then (if 0 ≤ x12 then (if x12 < (x10.length : Int) then (if (rd x10 x13) > (rd x10 x12) then (madrigallaw22_ResampOne.l0 k x1 x2 x10 x13 (wrap64 (x13 + 1))) else (madrigallaw22_ResampOne.l0 k x1 x2 x10 x12 (wrap64 (x13 + 1)))) else (none)) else (none)) else (none)) else (if x12 = (wrap64 (x2 + 8)) then (if 0 ≤ x12 then (if x12 < (x10.length : Int) then (some (decide ((rd x10 x12) > (wrap64 (Int.tdiv x1 2))))) else (none)) else (none)) else (none))
end
def madrigallaw22_ResampOne.f (k : Nat) (a0 : Int) (a1 : Int) (a2 : Int) : Option (Bool):=(madrigallaw22_awake.f k).bind fun t566 => (if t566 = true then ((madrigalref10_Known.f a0).bind fun t567 => (if t567 = true then (if a1 < 1000 then (madrigallaw22_ResampOne.j0 k a0 a1 a2 true) else (if a1 > 32767 then (madrigallaw22_ResampOne.j0 k a0 a1 a2 true) else (if a2 < 0 then (madrigallaw22_ResampOne.j0 k a0 a1 a2 true) else (madrigallaw22_ResampOne.j0 k a0 a1 a2 (decide (a2 > 40)))))) else (madrigallaw22_ResampOne.j0 k a0 a1 a2 true))) else (none))
theorem madrigallaw22_ResampOne.mono_l : ∀ k,(∀ y0 y1 y2 y3,LeO (madrigallaw22_ResampOne.j0 k y0 y1 y2 y3) (madrigallaw22_ResampOne.j0 (k + 1) y0 y1 y2 y3)) ∧ (∀ y0 y1 y2 y3,LeO (madrigallaw22_ResampOne.j1 k y0 y1 y2 y3) (madrigallaw22_ResampOne.j1 (k + 1) y0 y1 y2 y3)) ∧ (∀ y0 y1 y2 y3 y4,LeO (madrigallaw22_ResampOne.l0 k y0 y1 y2 y3 y4) (madrigallaw22_ResampOne.l0 (k + 1) y0 y1 y2 y3 y4))
 | 0 => ⟨fun _ _ _ _ r h => by simp [madrigallaw22_ResampOne.j0] at h,fun _ _ _ _ r h => by simp [madrigallaw22_ResampOne.j1] at h,fun _ _ _ _ _ r h => by simp [madrigallaw22_ResampOne.l0] at h⟩
 | k + 1 => by
  obtain ⟨ih0,ih1,ih2⟩:=madrigallaw22_ResampOne.mono_l k
  refine ⟨?_,?_,?_⟩
  all_goals (intros;first|unfold madrigallaw22_ResampOne.j0|unfold madrigallaw22_ResampOne.j1|unfold madrigallaw22_ResampOne.l0)
  all_goals (repeat' first|(with_reducible first|exact ih0 _ _ _ _|exact ih1 _ _ _ _|exact ih2 _ _ _ _ _|exact madrigallaw22_awake.mono _|exact resamp_Sampler_Run.mono _ _ _ _ _|exact LeO.refl _|exact LeO.none _|refine LeO.ite ?_ ?_|refine LeO.bind ?_ (fun _ => ?_))|exact ih0 _ _ _ _|exact ih1 _ _ _ _|exact ih2 _ _ _ _ _|exact madrigallaw22_awake.mono _|exact resamp_Sampler_Run.mono _ _ _ _ _|exact LeO.none _|refine LeO.ite ?_ ?_|refine LeO.bind ?_ (fun _ => ?_))
theorem madrigallaw22_ResampOne.mono : ∀ a0 a1 a2 k,LeO (madrigallaw22_ResampOne.f k a0 a1 a2) (madrigallaw22_ResampOne.f (k + 1) a0 a1 a2):=by
 intro a0 a1 a2 k
 obtain ⟨ih0,ih1,ih2⟩:=madrigallaw22_ResampOne.mono_l k
 unfold madrigallaw22_ResampOne.f
 repeat' first|(with_reducible first|exact ih0 _ _ _ _|exact ih1 _ _ _ _|exact ih2 _ _ _ _ _|exact madrigallaw22_awake.mono _|exact resamp_Sampler_Run.mono _ _ _ _ _|exact LeO.refl _|exact LeO.none _|refine LeO.ite ?_ ?_|refine LeO.bind ?_ (fun _ => ?_))|exact ih0 _ _ _ _|exact ih1 _ _ _ _|exact ih2 _ _ _ _ _|exact madrigallaw22_awake.mono _|exact resamp_Sampler_Run.mono _ _ _ _ _|exact LeO.none _|refine LeO.ite ?_ ?_|refine LeO.bind ?_ (fun _ => ?_)
set_option maxHeartbeats 8000000 in
set_option maxRecDepth 100000 in
theorem madrigallaw22_ResampOne.calls (k : Nat) (a0 : Int) (a1 : Int) (a2 : Int) (r : Bool) (w : World) (h : madrigallaw22_ResampOne.f k a0 a1 a2 = some r) :
  Calls Try.prog 10 #[.int .i64 a0,.int .i64 a1,.int .i64 a2] w fun e w' => e = .returned (.bool r) ∧ Below w.heap.size w w':=by
 have HB:=ak_ (Below.refl w.heap.size w)
 have H : ((madrigallaw22_awake.f k).bind fun t566 => (if t566 = true then ((madrigalref10_Known.f a0).bind fun t567 => (if t567 = true then (if a1 < 1000 then (madrigallaw22_ResampOne.j0 k a0 a1 a2 true) else (if a1 > 32767 then (madrigallaw22_ResampOne.j0 k a0 a1 a2 true) else (if a2 < 0 then (madrigallaw22_ResampOne.j0 k a0 a1 a2 true) else (madrigallaw22_ResampOne.j0 k a0 a1 a2 (decide (a2 > 40)))))) else (madrigallaw22_ResampOne.j0 k a0 a1 a2 true))) else (none))) = some r:=h
 clear h
 replace H:=Option.bind_eq_some_iff.mp H
 obtain ⟨t566,A40,H⟩:=H
 (try dsimp only at H)
 have A4:=ak_ A40
 clear A40
 by_cases c5 : t566 = true
 ·subst c5
  have H1 : ((madrigalref10_Known.f a0).bind fun t567 => (if t567 = true then (if a1 < 1000 then (madrigallaw22_ResampOne.j0 k a0 a1 a2 true) else (if a1 > 32767 then (madrigallaw22_ResampOne.j0 k a0 a1 a2 true) else (if a2 < 0 then (madrigallaw22_ResampOne.j0 k a0 a1 a2 true) else (madrigallaw22_ResampOne.j0 k a0 a1 a2 (decide (a2 > 40)))))) else (madrigallaw22_ResampOne.j0 k a0 a1 a2 true))) = some r:=by rw [if_pos rfl] at H;exact H
  clear H
  have H:=H1
  clear H1
  have HC6:=ak_ H
  clear H
  go_enter Try.func10,Try.ntmps10
  go_upto_region 3 with (first|(go_at_call 11;(with_reducible refine (madrigallaw22_awake.calls k  true _ A4.out).mono ?_);rintro e w7 ⟨rfl,hb⟩;have n0_:=ak_ (below_step (by repeat (first|(with_reducible first|exact HB.out|apply ba_|apply bb_|apply bc_)|exact HB.out)) hb);clear HB;have HB:=n0_;clear n0_;(try clear hb)))
  repeat (go_quiet (first|(go_at_call 11;(with_reducible refine (madrigallaw22_awake.calls k  true _ A4.out).mono ?_);rintro e w7 ⟨rfl,hb⟩;have n0_:=ak_ (below_step (by repeat (first|(with_reducible first|exact HB.out|apply ba_|apply bb_|apply bc_)|exact HB.out)) hb);clear HB;have HB:=n0_;clear n0_;(try clear hb)));go_upto_region 3 with (first|(go_at_call 11;(with_reducible refine (madrigallaw22_awake.calls k  true _ A4.out).mono ?_);rintro e w7 ⟨rfl,hb⟩;have n0_:=ak_ (below_step (by repeat (first|(with_reducible first|exact HB.out|apply ba_|apply bb_|apply bc_)|exact HB.out)) hb);clear HB;have HB:=n0_;clear n0_;(try clear hb))))
  (try simp only [Act.put,List.setIfInBounds_toArray,List.set_cons_zero,List.set_cons_succ])
  go_cut [34] (fun v34 wc => ∃ (kq : Nat) (x34_5 : Bool),v34 = .bool x34_5 ∧ Aside0 (madrigallaw22_ResampOne.j0 kq a0 a1 a2 x34_5 = some r) ∧ Aside0 (kq ≤ k) ∧ Aside0 (Below w.heap.size w wc))
  case first =>
   have H:=HC6.out
   clear HC6
   replace H:=Option.bind_eq_some_iff.mp H
   obtain ⟨t567,A80,H⟩:=H
   (try dsimp only at H)
   have A8:=ak_ A80
   clear A80
   by_cases c9 : t567 = true
   ·subst c9
    have H1 : (if a1 < 1000 then (madrigallaw22_ResampOne.j0 k a0 a1 a2 true) else (if a1 > 32767 then (madrigallaw22_ResampOne.j0 k a0 a1 a2 true) else (if a2 < 0 then (madrigallaw22_ResampOne.j0 k a0 a1 a2 true) else (madrigallaw22_ResampOne.j0 k a0 a1 a2 (decide (a2 > 40)))))) = some r:=by rw [if_pos rfl] at H;exact H
    clear H
    have H:=H1
    clear H1
    by_cases c10 : a1 < 1000
    ·rw [if_pos c10] at H
     have c10b0:=decide_eq_true c10
     clear c10
     (first|rw [c10b0]|(simp only [i64_w,i32_w];rw [c10b0])|skip)
     have H':=ak_ H
     clear H
     go_wp2_with (first|(go_at_call 15;(with_reducible refine (madrigalref10_Known.calls a0 true _ A8.out).mono ?_);rintro e w' ⟨rfl,⟨nd,rfl⟩⟩;(try first|exact ⟨rfl,_,World.drewN_drewN _ _ _⟩|exact ⟨rfl,_,Eq.trans (World.drewN_drewN _ _ _) (congrArg (World.drewN _) (Nat.add_assoc _ _ _))⟩)))
     repeat (go_quiet (first|(go_at_call 15;(with_reducible refine (madrigalref10_Known.calls a0 true _ A8.out).mono ?_);rintro e w' ⟨rfl,⟨nd,rfl⟩⟩;(try first|exact ⟨rfl,_,World.drewN_drewN _ _ _⟩|exact ⟨rfl,_,Eq.trans (World.drewN_drewN _ _ _) (congrArg (World.drewN _) (Nat.add_assoc _ _ _))⟩)));try go_wp2_with (first|(go_at_call 15;(with_reducible refine (madrigalref10_Known.calls a0 true _ A8.out).mono ?_);rintro e w' ⟨rfl,⟨nd,rfl⟩⟩;(try first|exact ⟨rfl,_,World.drewN_drewN _ _ _⟩|exact ⟨rfl,_,Eq.trans (World.drewN_drewN _ _ _) (congrArg (World.drewN _) (Nat.add_assoc _ _ _))⟩))))
     refine Met.intro ?_
     go_step
     (repeat apply Exists.intro)
     first|refine ⟨?rel73,rfl⟩|(refine ⟨?rel73,?st73⟩;case' st73 => (first|rw [c10b0]|simp only [c10b0]))
     case rel73 => exact ⟨_,(true),(by first|rfl|(simp;done)|(simp [*];done)),H',⟨by first|omega|exact Nat.le_refl _⟩,⟨by repeat (first|(with_reducible first|exact HB.out|apply ba_|apply bb_|apply bc_)|exact HB.out)⟩⟩
    ·rw [if_neg c10] at H
     have c10b0:=decide_eq_false c10
     clear c10
     (first|rw [c10b0]|(simp only [i64_w,i32_w];rw [c10b0])|skip)
     by_cases c11 : a1 > 32767
     ·rw [if_pos c11] at H
      have c11b0 : decide (32767 < a1) = true:=decide_eq_true c11
      clear c11
      have H':=ak_ H
      clear H
      go_wp2_with (first|(go_at_call 15;(with_reducible refine (madrigalref10_Known.calls a0 true _ A8.out).mono ?_);rintro e w' ⟨rfl,⟨nd,rfl⟩⟩;(try first|exact ⟨rfl,_,World.drewN_drewN _ _ _⟩|exact ⟨rfl,_,Eq.trans (World.drewN_drewN _ _ _) (congrArg (World.drewN _) (Nat.add_assoc _ _ _))⟩)))
      repeat (go_quiet (first|(go_at_call 15;(with_reducible refine (madrigalref10_Known.calls a0 true _ A8.out).mono ?_);rintro e w' ⟨rfl,⟨nd,rfl⟩⟩;(try first|exact ⟨rfl,_,World.drewN_drewN _ _ _⟩|exact ⟨rfl,_,Eq.trans (World.drewN_drewN _ _ _) (congrArg (World.drewN _) (Nat.add_assoc _ _ _))⟩)));try go_wp2_with (first|(go_at_call 15;(with_reducible refine (madrigalref10_Known.calls a0 true _ A8.out).mono ?_);rintro e w' ⟨rfl,⟨nd,rfl⟩⟩;(try first|exact ⟨rfl,_,World.drewN_drewN _ _ _⟩|exact ⟨rfl,_,Eq.trans (World.drewN_drewN _ _ _) (congrArg (World.drewN _) (Nat.add_assoc _ _ _))⟩))))
      refine Met.intro ?_
      go_step
      (repeat apply Exists.intro)
      first|refine ⟨?rel87,rfl⟩|(refine ⟨?rel87,?st87⟩;case' st87 => (first|rw [c11b0]|simp only [c11b0]))
      case rel87 => exact ⟨_,(true),(by first|rfl|(simp;done)|(simp [*];done)),H',⟨by first|omega|exact Nat.le_refl _⟩,⟨by repeat (first|(with_reducible first|exact HB.out|apply ba_|apply bb_|apply bc_)|exact HB.out)⟩⟩
     ·rw [if_neg c11] at H
      have c11b0 : decide (32767 < a1) = false:=decide_eq_false c11
      clear c11
      by_cases c12 : a2 < 0
      ·rw [if_pos c12] at H
       have c12b0:=decide_eq_true c12
       clear c12
       have H':=ak_ H
       clear H
       go_wp2_with (first|(go_at_call 15;(with_reducible refine (madrigalref10_Known.calls a0 true _ A8.out).mono ?_);rintro e w' ⟨rfl,⟨nd,rfl⟩⟩;(try first|exact ⟨rfl,_,World.drewN_drewN _ _ _⟩|exact ⟨rfl,_,Eq.trans (World.drewN_drewN _ _ _) (congrArg (World.drewN _) (Nat.add_assoc _ _ _))⟩)))
       repeat (go_quiet (first|(go_at_call 15;(with_reducible refine (madrigalref10_Known.calls a0 true _ A8.out).mono ?_);rintro e w' ⟨rfl,⟨nd,rfl⟩⟩;(try first|exact ⟨rfl,_,World.drewN_drewN _ _ _⟩|exact ⟨rfl,_,Eq.trans (World.drewN_drewN _ _ _) (congrArg (World.drewN _) (Nat.add_assoc _ _ _))⟩)));try go_wp2_with (first|(go_at_call 15;(with_reducible refine (madrigalref10_Known.calls a0 true _ A8.out).mono ?_);rintro e w' ⟨rfl,⟨nd,rfl⟩⟩;(try first|exact ⟨rfl,_,World.drewN_drewN _ _ _⟩|exact ⟨rfl,_,Eq.trans (World.drewN_drewN _ _ _) (congrArg (World.drewN _) (Nat.add_assoc _ _ _))⟩))))
       refine Met.intro ?_
       go_step
       (repeat apply Exists.intro)
       first|refine ⟨?rel100,rfl⟩|(refine ⟨?rel100,?st100⟩;case' st100 => (first|rw [c12b0]|simp only [c12b0]))
       case rel100 => exact ⟨_,(true),(by first|rfl|(simp;done)|(simp [*];done)),H',⟨by first|omega|exact Nat.le_refl _⟩,⟨by repeat (first|(with_reducible first|exact HB.out|apply ba_|apply bb_|apply bc_)|exact HB.out)⟩⟩
      ·rw [if_neg c12] at H
       have c12b0:=decide_eq_false c12
       clear c12
       have H':=ak_ H
       clear H
       go_wp2_with (first|(go_at_call 15;(with_reducible refine (madrigalref10_Known.calls a0 true _ A8.out).mono ?_);rintro e w' ⟨rfl,⟨nd,rfl⟩⟩;(try first|exact ⟨rfl,_,World.drewN_drewN _ _ _⟩|exact ⟨rfl,_,Eq.trans (World.drewN_drewN _ _ _) (congrArg (World.drewN _) (Nat.add_assoc _ _ _))⟩)))
       repeat (go_quiet (first|(go_at_call 15;(with_reducible refine (madrigalref10_Known.calls a0 true _ A8.out).mono ?_);rintro e w' ⟨rfl,⟨nd,rfl⟩⟩;(try first|exact ⟨rfl,_,World.drewN_drewN _ _ _⟩|exact ⟨rfl,_,Eq.trans (World.drewN_drewN _ _ _) (congrArg (World.drewN _) (Nat.add_assoc _ _ _))⟩)));try go_wp2_with (first|(go_at_call 15;(with_reducible refine (madrigalref10_Known.calls a0 true _ A8.out).mono ?_);rintro e w' ⟨rfl,⟨nd,rfl⟩⟩;(try first|exact ⟨rfl,_,World.drewN_drewN _ _ _⟩|exact ⟨rfl,_,Eq.trans (World.drewN_drewN _ _ _) (congrArg (World.drewN _) (Nat.add_assoc _ _ _))⟩))))
       refine Met.intro ?_
       go_step
       (repeat apply Exists.intro)
       first|refine ⟨?rel109,rfl⟩|(refine ⟨?rel109,?st109⟩;case' st109 => (first|rw [c12b0]|simp only [c12b0]))
       case rel109 => exact ⟨_,(decide (a2 > 40)),(by first|rfl|(simp;done)|(simp [*];done)),H',⟨by first|omega|exact Nat.le_refl _⟩,⟨by repeat (first|(with_reducible first|exact HB.out|apply ba_|apply bb_|apply bc_)|exact HB.out)⟩⟩
   ·replace c9:=Bool.eq_false_iff.mpr c9
    subst c9
    have H1 : (madrigallaw22_ResampOne.j0 k a0 a1 a2 true) = some r:=by rw [if_neg (show ¬ (false = true) by decide)] at H;exact H
    clear H
    have H:=H1
    clear H1
    have H':=ak_ H
    clear H
    go_wp2_with (first|(go_at_call 15;(with_reducible refine (madrigalref10_Known.calls a0 false _ A8.out).mono ?_);rintro e w' ⟨rfl,⟨nd,rfl⟩⟩;(try first|exact ⟨rfl,_,World.drewN_drewN _ _ _⟩|exact ⟨rfl,_,Eq.trans (World.drewN_drewN _ _ _) (congrArg (World.drewN _) (Nat.add_assoc _ _ _))⟩)))
    repeat (go_quiet (first|(go_at_call 15;(with_reducible refine (madrigalref10_Known.calls a0 false _ A8.out).mono ?_);rintro e w' ⟨rfl,⟨nd,rfl⟩⟩;(try first|exact ⟨rfl,_,World.drewN_drewN _ _ _⟩|exact ⟨rfl,_,Eq.trans (World.drewN_drewN _ _ _) (congrArg (World.drewN _) (Nat.add_assoc _ _ _))⟩)));try go_wp2_with (first|(go_at_call 15;(with_reducible refine (madrigalref10_Known.calls a0 false _ A8.out).mono ?_);rintro e w' ⟨rfl,⟨nd,rfl⟩⟩;(try first|exact ⟨rfl,_,World.drewN_drewN _ _ _⟩|exact ⟨rfl,_,Eq.trans (World.drewN_drewN _ _ _) (congrArg (World.drewN _) (Nat.add_assoc _ _ _))⟩))))
    go_meet
    case rel => exact ⟨_,(true),(by first|rfl|(simp;done)|(simp [*];done)),H',⟨by first|omega|exact Nat.le_refl _⟩,⟨by repeat (first|(with_reducible first|exact HB.out|apply ba_|apply bb_|apply bc_)|exact HB.out)⟩⟩
  case rest =>
   clear HC6
   try clear c1
   try clear p2
   try clear c5
   try clear c9
   try clear c10
   try clear c10b0
   try clear c11
   try clear c11b0
   try clear c12
   try clear c12b0
   obtain ⟨kq,x34_5,rfl,HA,HJ5,HB⟩:=hcut
   (try simp only [i64_w,i32_w])
   cases kq with
   | zero => exact absurd HA.out (by simp [madrigallaw22_ResampOne.j0])
   | succ kj5 =>
    have H:=HA.out
    clear HA
    simp only [madrigallaw22_ResampOne.j0] at H
    by_cases c13 : x34_5 = true
    ·subst c13
     have H1 : (some true) = some r:=by rw [if_pos rfl] at H;exact H
     clear H
     have H:=H1
     clear H1
     obtain rfl:=Option.some.inj H
     go_wp2
     repeat (go_quiet (fail);try go_wp2)
     go_ret
     exact ⟨by first|rfl|(simp [errW_none,errW_some] <;> rfl)|(simp [*,errW_none,errW_some] <;> rfl),by repeat (first|(with_reducible first|exact HB.out|apply ba_|apply bb_|apply bc_)|exact HB.out)⟩
    ·replace c13:=Bool.eq_false_iff.mpr c13
     subst c13
     have H1 : (if resamp_Good.f a0 a0 = some true then ((resamp_New1.f a0 a0).bind fun bt568 => (if 80 ≤ 35184372088832 then ((some (List.replicate 80 0 : List Int)).bind fun y573 => (if 0 ≤ a2 then (if a2 < (y573.length : Int) then ((resamp_Sampler_Run.f kj5 bt568.1 bt568.2.1 bt568.2.2.1 (y573.set (a2 : Int).toNat a1)).bind fun bt577 => (if bt577.2.1 = 0 then (madrigallaw22_ResampOne.j1 kj5 a1 a2 bt577.1 ((bt577.1.length : Int) != 80)) else (madrigallaw22_ResampOne.j1 kj5 a1 a2 bt577.1 true))) else (none)) else (none))) else (none))) else ((resamp_New0.f a0 a0).bind fun t588 => (none))) = some r:=by rw [if_neg (show ¬ (false = true) by decide)] at H;exact H
     clear H
     have H:=H1
     clear H1
     by_cases c14 : resamp_Good.f a0 a0 = some true
     ·rw [if_pos c14] at H
      have c14b0 : (resamp_Good.f a0 a0 == some true) = true:=beq_iff_eq.mpr c14
      have c14b1 : (resamp_Good.f a0 a0 != some true) = false:=bne_eq_false_iff_eq.mpr c14
      clear c14
      replace H:=Option.bind_eq_some_iff.mp H
      obtain ⟨⟨t568,t569,t570,t572⟩,A150,H⟩:=H
      (try dsimp only at H)
      have A15:=ak_ A150
      clear A150
      by_cases c16 : 80 ≤ 35184372088832
      ·rw [if_pos c16] at H
       have c16b0:=eq_true c16
       have c16b1 : decide (80 ≤ 35184372088832) = true:=decide_eq_true c16
       clear c16
       obtain ⟨y573,hy573⟩ : ∃ y_ : List Int,y_ = (List.replicate 80 0):=⟨_,rfl⟩
       replace H : (if 0 ≤ a2 then (if a2 < (y573.length : Int) then ((resamp_Sampler_Run.f kj5 t568 t569 t570 (y573.set (a2 : Int).toNat a1)).bind fun bt577 => (if bt577.2.1 = 0 then (madrigallaw22_ResampOne.j1 kj5 a1 a2 bt577.1 ((bt577.1.length : Int) != 80)) else (madrigallaw22_ResampOne.j1 kj5 a1 a2 bt577.1 true))) else (none)) else (none)) = some r:=by first|(rw [hy573];with_reducible exact H)|(have H2_:=(Option.bind_some _ _).symm.trans H;rw [hy573];with_reducible exact H2_)|(have H2_:=(Option.bind_some _ _).symm.trans H;with_reducible exact H2_)|with_reducible exact H|(rw [hy573];exact H)|exact H
       have Ny573:=ak_ hy573
       clear hy573
       by_cases c17 : 0 ≤ a2
       ·rw [if_pos c17] at H
        have c17b0:=decide_eq_true c17
        clear c17
        by_cases c18 : a2 < (y573.length : Int)
        ·rw [if_pos c18] at H
         have c18b0:=decide_eq_true c18
         clear c18
         obtain ⟨y576,hy576⟩ : ∃ y_ : List Int,y_ = (y573.set (a2 : Int).toNat a1):=⟨_,rfl⟩
         replace H : ((resamp_Sampler_Run.f kj5 t568 t569 t570 y576).bind fun bt577 => (if bt577.2.1 = 0 then (madrigallaw22_ResampOne.j1 kj5 a1 a2 bt577.1 ((bt577.1.length : Int) != 80)) else (madrigallaw22_ResampOne.j1 kj5 a1 a2 bt577.1 true))) = some r:=by first|(rw [hy576];with_reducible exact H)|(have H2_:=(Option.bind_some _ _).symm.trans H;rw [hy576];with_reducible exact H2_)|(have H2_:=(Option.bind_some _ _).symm.trans H;with_reducible exact H2_)|with_reducible exact H|(rw [hy576];exact H)|exact H
         have Ny576:=ak_ hy576
         clear hy576
         replace H:=Option.bind_eq_some_iff.mp H
         obtain ⟨⟨t577,t580,t581,t582,t583⟩,A200,H⟩:=H
         (try dsimp only at H)
         have A20:=ak_ A200
         clear A200
         have HC21:=ak_ H
         clear H
         go_upto_region 11 with (first|((with_reducible refine gate_callee (f:=12) rfl ?_);refine goesL_ (some 38) rfl rfl Try.func12 (by kernel_rfl) rfl #[.int .i64 a0,.int .i64 a0] rfl (by (try simp only [List.map_toArray,List.map_cons,List.map_nil]);first|done|rfl|(simp only [List.length_drop,List.length_take];rfl)) ?_;(with_reducible refine (resamp_New1.calls a0 a0 t568 t569 t570 t572 w _ ?side1 A15.out).mono ?_);(case side1 => repeat (first|(with_reducible first|exact HB.out|apply ba_|apply bb_|apply bc_)|exact HB.out));rintro e w22 ⟨g571,rfl,hi,hb,hb2,hge⟩;refine ⟨_,rfl,?_⟩;have n0_:=ak_ (hb);have n1_:=ak_ (hi);clear HB;have HB:=n0_;have HI571:=n1_;clear n0_ n1_;(try clear hb);(try clear hb2);(try clear hi);(try clear hge))|((with_reducible refine gate_dst (N:=43) rfl ?_);(try (refine gate_guard (by rfl) ?_;dsimp only));refine Kd.R_make (Kd.int .i64) _ 2 rfl (N:=43) rfl 27 _ _ rfl 80 rfl rfl Try.underlying27 (.int .i64 0) 8 info2 rfl (by decide) (by omega) 0 (ok:=fun _ => True) (okp:=fun _ => True) rfl (fun _ hk => hk) trivial (by omega) (by omega) (Below.refl _ _) (Nat.le_refl _) ?_;intro v574 w23 ho24 hb hg_ hnew_;clear hg_ hnew_;(first|rw [← Ny573.out] at ho24|(simp only [Int.reduceToNat] at ho24;rw [← Ny573.out] at ho24));have n0_:=ak_ (Kd.R_lower ho24 (below_size (by repeat (first|(with_reducible first|exact HB.out|apply ba_|apply bb_|apply bc_|refine below_set ?_ (IsS53.ge HI571.out))|exact HB.out))));have n1_:=ak_ (IsS53.below (by repeat (first|(with_reducible first|exact HI571.out|apply IsS53.alloc|apply IsS53.drewN|apply IsS53.drew)|exact HI571.out)) hb);have n2_:=ak_ (below_step (by repeat (first|(with_reducible first|exact HB.out|apply ba_|apply bb_|apply bc_|refine below_set ?_ (IsS53.ge HI571.out))|exact HB.out)) hb);clear HI571;clear HB;have HO575:=n0_;have HI571:=n1_;have HB:=n2_;clear n0_ n1_ n2_;clear hb ho24;have p19 : 0 ≤ (a2 : Int):=of_decide_eq_true (by first|(with_reducible assumption)|assumption);have q19 : (a2 : Int) < ((y573.length : Int) : Int):=of_decide_eq_true (by first|(with_reducible assumption)|assumption);obtain ⟨go19,co19,eo19,gb19,gl19,cl19,HG19⟩:=Kd.R_form HO575.out (by omega);(first|cases eo19|(injection eo19 with ea_ en_ ec_;(first|subst ea_|(injection ea_ with ea_;subst ea_));subst ec_;clear en_));have GB19:=ak_ gb19;have GG19:=ak_ HG19;clear gb19 gl19 HG19;obtain ⟨hx19_0,hf19_0⟩:=Kd.R_celln 0 HO575.out (a2 : Int) p19 q19;replace p19:=eq_true p19;replace q19:=eq_true q19;obtain ⟨hy25_,hz25_⟩:=Kd.R_celln 0 HO575.out (a2 : Int) (of_decide_eq_true (by first|(with_reducible assumption)|assumption)) (of_decide_eq_true (by first|(with_reducible assumption)|assumption));have HP25:=Kd.R_putg HO575.out (a2 : Int) a1)|((with_reducible refine gate_store (t:=2) (p:=47) rfl ?_);(try (rw [drewN_self w23];generalize hq_ : World.drewN w23 _ = w23;have n0_:=ak_ (Kd.R_at hq_ HO575.out);have n1_:=ak_ (IsS53.at_ hq_ HI571.out);have n2_:=ak_ (below_at hq_ HB.out);clear hq_ HO575 HI571 HB;have HO575:=n0_;have HI571:=n1_;have HB:=n2_;clear n0_ n1_ n2_;(try (obtain ⟨hy25_,hz25_⟩:=Kd.R_celln 0 HO575.out (a2 : Int) (of_decide_eq_true (by first|(with_reducible assumption)|assumption)) (of_decide_eq_true (by first|(with_reducible assumption)|assumption))));(try (have HP25:=Kd.R_putg HO575.out (a2 : Int) a1))));refine store_event (t:=2) (p:=47) (v:=?vo_w26) (w1:=(w23.setCell ⟨go19,(a2 : Int).toNat,none⟩ (.int .i64 a1))) ?hg ?ho ?hn ?hr ?_;(case ho => rfl);(case hg => rfl);(case hn => rfl);(case hr => first|(go_simp;done)|(go_simp;rfl));intro w26 hw;have hg : w23.grownBy w26 (some go19):=(by rw [hw];exact HP25.2);have hp_ : Kd.R (Kd.int .i64) 2 w26 w.heap.size (fun _ => True) (.slice (some ⟨go19,0,none⟩) y573.length co19) y576:=(by rw [hw,Ny576.out];exact HP25.1);clear HP25;have n0_:=ak_ (IsS53.grown (by repeat (first|(with_reducible first|exact HI571.out|apply IsS53.alloc|apply IsS53.drewN|apply IsS53.drew)|exact HI571.out)) hg (IsS53.own_ne HI571.out HO575.out (by decide)));have n1_:=ak_ (hp_);have n2_:=ak_ ((by rw [hw];exact below_set (HB.out) GB19.out : Below w.heap.size w w26));clear HI571;clear HO575;clear HB;have HI571:=n0_;have HO575:=n1_;have HB:=n2_;clear n0_ n1_ n2_;clear hg hw hp_)|(go_at_call 13;refine calls_of_args (args':=#[.pointer (some ⟨g571,0,none⟩),.slice (some ⟨go19,0,none⟩) y576.length co19]) (by first|(rw [show y576.length = y573.length from (Kd.R_reads' HO575.out).1.symm] <;> rfl)|rfl) ?_;(with_reducible refine (resamp_Sampler_Run.calls kj5 g571 t568 t569 t570 _ _ y576 t577 t580 t581 t582 t583 w _ ?side1 ?side2 ?side3 ?side4 ?side5 A20.out).mono ?_);(case side1 => repeat (first|(with_reducible first|exact HI571.out|apply IsS53.alloc|apply IsS53.drewN|apply IsS53.drew)|exact HI571.out));(case side2 => repeat (first|(with_reducible first|exact HB.out|apply ba_|apply bb_|apply bc_|refine below_set ?_ (IsS53.ge HI571.out))|exact HB.out));(case side3 => repeat (first|exact (Kd.R_reads' HO575.out).2.2|(with_reducible refine Kd.C_alloc ?_ _)|(with_reducible refine Kd.C_drewN ?_ _)|(with_reducible refine Kd.C_drew ?_)));(case side4 => rw [show y576.length = y573.length from (Kd.R_reads' HO575.out).1.symm];exact (Kd.R_reads' HO575.out).2.1);(case side5 => first|exact far_slice (IsS53.own_ne HI571.out HO575.out (by decide))|(intro ad_ ha_ hl_;exact far_slice (IsS53.own_ne HI571.out HO575.out (by decide)) ad_ ha_ (by have e_:=(Kd.R_reads' HO575.out).1;omega)));rintro e w27 ⟨v578,rfl,ho0,hi,hb,hk⟩;have n0_:=ak_ (Kd.R_mono (Kd.R_told (Kd.R_oldK (IsS53.apart (show IsS53 w _ g571 t568 t569 t570 from by repeat (first|(with_reducible first|exact HI571.out|apply IsS53.alloc|apply IsS53.drewN|apply IsS53.drew)|exact HI571.out)) (by (with_reducible repeat (first|apply ra_|apply rb_|apply rc_));exact HO575.out) (by decide)) hk) (Kd.R_base ho0)) (fun _ h_ => h_.1));have n1_:=ak_ (Kd.R_lower (Kd.R_new' ho0 (Kd.R_lt (by (with_reducible repeat (first|apply ra_|apply rb_|apply rc_));exact HO575.out))) (below_size (by repeat (first|(with_reducible first|exact HB.out|apply ba_|apply bb_|apply bc_|refine below_set ?_ (IsS53.ge HI571.out))|exact HB.out))));have n2_:=ak_ (hb);have n3_:=ak_ (hi);clear HO575;clear HB;clear HI571;have HO575:=n0_;have HO579:=n1_;have HB:=n2_;have HI571:=n3_;clear n0_ n1_ n2_ n3_;(try clear hb);(try clear hk);(try clear hi);(try clear ho0)))
         repeat (go_quiet (first|((with_reducible refine gate_callee (f:=12) rfl ?_);refine goesL_ (some 38) rfl rfl Try.func12 (by kernel_rfl) rfl #[.int .i64 a0,.int .i64 a0] rfl (by (try simp only [List.map_toArray,List.map_cons,List.map_nil]);first|done|rfl|(simp only [List.length_drop,List.length_take];rfl)) ?_;(with_reducible refine (resamp_New1.calls a0 a0 t568 t569 t570 t572 w _ ?side1 A15.out).mono ?_);(case side1 => repeat (first|(with_reducible first|exact HB.out|apply ba_|apply bb_|apply bc_)|exact HB.out));rintro e w22 ⟨g571,rfl,hi,hb,hb2,hge⟩;refine ⟨_,rfl,?_⟩;have n0_:=ak_ (hb);have n1_:=ak_ (hi);clear HB;have HB:=n0_;have HI571:=n1_;clear n0_ n1_;(try clear hb);(try clear hb2);(try clear hi);(try clear hge))|((with_reducible refine gate_dst (N:=43) rfl ?_);(try (refine gate_guard (by rfl) ?_;dsimp only));refine Kd.R_make (Kd.int .i64) _ 2 rfl (N:=43) rfl 27 _ _ rfl 80 rfl rfl Try.underlying27 (.int .i64 0) 8 info2 rfl (by decide) (by omega) 0 (ok:=fun _ => True) (okp:=fun _ => True) rfl (fun _ hk => hk) trivial (by omega) (by omega) (Below.refl _ _) (Nat.le_refl _) ?_;intro v574 w23 ho24 hb hg_ hnew_;clear hg_ hnew_;(first|rw [← Ny573.out] at ho24|(simp only [Int.reduceToNat] at ho24;rw [← Ny573.out] at ho24));have n0_:=ak_ (Kd.R_lower ho24 (below_size (by repeat (first|(with_reducible first|exact HB.out|apply ba_|apply bb_|apply bc_|refine below_set ?_ (IsS53.ge HI571.out))|exact HB.out))));have n1_:=ak_ (IsS53.below (by repeat (first|(with_reducible first|exact HI571.out|apply IsS53.alloc|apply IsS53.drewN|apply IsS53.drew)|exact HI571.out)) hb);have n2_:=ak_ (below_step (by repeat (first|(with_reducible first|exact HB.out|apply ba_|apply bb_|apply bc_|refine below_set ?_ (IsS53.ge HI571.out))|exact HB.out)) hb);clear HI571;clear HB;have HO575:=n0_;have HI571:=n1_;have HB:=n2_;clear n0_ n1_ n2_;clear hb ho24;have p19 : 0 ≤ (a2 : Int):=of_decide_eq_true (by first|(with_reducible assumption)|assumption);have q19 : (a2 : Int) < ((y573.length : Int) : Int):=of_decide_eq_true (by first|(with_reducible assumption)|assumption);obtain ⟨go19,co19,eo19,gb19,gl19,cl19,HG19⟩:=Kd.R_form HO575.out (by omega);(first|cases eo19|(injection eo19 with ea_ en_ ec_;(first|subst ea_|(injection ea_ with ea_;subst ea_));subst ec_;clear en_));have GB19:=ak_ gb19;have GG19:=ak_ HG19;clear gb19 gl19 HG19;obtain ⟨hx19_0,hf19_0⟩:=Kd.R_celln 0 HO575.out (a2 : Int) p19 q19;replace p19:=eq_true p19;replace q19:=eq_true q19;obtain ⟨hy25_,hz25_⟩:=Kd.R_celln 0 HO575.out (a2 : Int) (of_decide_eq_true (by first|(with_reducible assumption)|assumption)) (of_decide_eq_true (by first|(with_reducible assumption)|assumption));have HP25:=Kd.R_putg HO575.out (a2 : Int) a1)|((with_reducible refine gate_store (t:=2) (p:=47) rfl ?_);(try (rw [drewN_self w23];generalize hq_ : World.drewN w23 _ = w23;have n0_:=ak_ (Kd.R_at hq_ HO575.out);have n1_:=ak_ (IsS53.at_ hq_ HI571.out);have n2_:=ak_ (below_at hq_ HB.out);clear hq_ HO575 HI571 HB;have HO575:=n0_;have HI571:=n1_;have HB:=n2_;clear n0_ n1_ n2_;(try (obtain ⟨hy25_,hz25_⟩:=Kd.R_celln 0 HO575.out (a2 : Int) (of_decide_eq_true (by first|(with_reducible assumption)|assumption)) (of_decide_eq_true (by first|(with_reducible assumption)|assumption))));(try (have HP25:=Kd.R_putg HO575.out (a2 : Int) a1))));refine store_event (t:=2) (p:=47) (v:=?vo_w26) (w1:=(w23.setCell ⟨go19,(a2 : Int).toNat,none⟩ (.int .i64 a1))) ?hg ?ho ?hn ?hr ?_;(case ho => rfl);(case hg => rfl);(case hn => rfl);(case hr => first|(go_simp;done)|(go_simp;rfl));intro w26 hw;have hg : w23.grownBy w26 (some go19):=(by rw [hw];exact HP25.2);have hp_ : Kd.R (Kd.int .i64) 2 w26 w.heap.size (fun _ => True) (.slice (some ⟨go19,0,none⟩) y573.length co19) y576:=(by rw [hw,Ny576.out];exact HP25.1);clear HP25;have n0_:=ak_ (IsS53.grown (by repeat (first|(with_reducible first|exact HI571.out|apply IsS53.alloc|apply IsS53.drewN|apply IsS53.drew)|exact HI571.out)) hg (IsS53.own_ne HI571.out HO575.out (by decide)));have n1_:=ak_ (hp_);have n2_:=ak_ ((by rw [hw];exact below_set (HB.out) GB19.out : Below w.heap.size w w26));clear HI571;clear HO575;clear HB;have HI571:=n0_;have HO575:=n1_;have HB:=n2_;clear n0_ n1_ n2_;clear hg hw hp_)|(go_at_call 13;refine calls_of_args (args':=#[.pointer (some ⟨g571,0,none⟩),.slice (some ⟨go19,0,none⟩) y576.length co19]) (by first|(rw [show y576.length = y573.length from (Kd.R_reads' HO575.out).1.symm] <;> rfl)|rfl) ?_;(with_reducible refine (resamp_Sampler_Run.calls kj5 g571 t568 t569 t570 _ _ y576 t577 t580 t581 t582 t583 w _ ?side1 ?side2 ?side3 ?side4 ?side5 A20.out).mono ?_);(case side1 => repeat (first|(with_reducible first|exact HI571.out|apply IsS53.alloc|apply IsS53.drewN|apply IsS53.drew)|exact HI571.out));(case side2 => repeat (first|(with_reducible first|exact HB.out|apply ba_|apply bb_|apply bc_|refine below_set ?_ (IsS53.ge HI571.out))|exact HB.out));(case side3 => repeat (first|exact (Kd.R_reads' HO575.out).2.2|(with_reducible refine Kd.C_alloc ?_ _)|(with_reducible refine Kd.C_drewN ?_ _)|(with_reducible refine Kd.C_drew ?_)));(case side4 => rw [show y576.length = y573.length from (Kd.R_reads' HO575.out).1.symm];exact (Kd.R_reads' HO575.out).2.1);(case side5 => first|exact far_slice (IsS53.own_ne HI571.out HO575.out (by decide))|(intro ad_ ha_ hl_;exact far_slice (IsS53.own_ne HI571.out HO575.out (by decide)) ad_ ha_ (by have e_:=(Kd.R_reads' HO575.out).1;omega)));rintro e w27 ⟨v578,rfl,ho0,hi,hb,hk⟩;have n0_:=ak_ (Kd.R_mono (Kd.R_told (Kd.R_oldK (IsS53.apart (show IsS53 w _ g571 t568 t569 t570 from by repeat (first|(with_reducible first|exact HI571.out|apply IsS53.alloc|apply IsS53.drewN|apply IsS53.drew)|exact HI571.out)) (by (with_reducible repeat (first|apply ra_|apply rb_|apply rc_));exact HO575.out) (by decide)) hk) (Kd.R_base ho0)) (fun _ h_ => h_.1));have n1_:=ak_ (Kd.R_lower (Kd.R_new' ho0 (Kd.R_lt (by (with_reducible repeat (first|apply ra_|apply rb_|apply rc_));exact HO575.out))) (below_size (by repeat (first|(with_reducible first|exact HB.out|apply ba_|apply bb_|apply bc_|refine below_set ?_ (IsS53.ge HI571.out))|exact HB.out))));have n2_:=ak_ (hb);have n3_:=ak_ (hi);clear HO575;clear HB;clear HI571;have HO575:=n0_;have HO579:=n1_;have HB:=n2_;have HI571:=n3_;clear n0_ n1_ n2_ n3_;(try clear hb);(try clear hk);(try clear hi);(try clear ho0)));go_upto_region 11 with (first|((with_reducible refine gate_callee (f:=12) rfl ?_);refine goesL_ (some 38) rfl rfl Try.func12 (by kernel_rfl) rfl #[.int .i64 a0,.int .i64 a0] rfl (by (try simp only [List.map_toArray,List.map_cons,List.map_nil]);first|done|rfl|(simp only [List.length_drop,List.length_take];rfl)) ?_;(with_reducible refine (resamp_New1.calls a0 a0 t568 t569 t570 t572 w _ ?side1 A15.out).mono ?_);(case side1 => repeat (first|(with_reducible first|exact HB.out|apply ba_|apply bb_|apply bc_)|exact HB.out));rintro e w22 ⟨g571,rfl,hi,hb,hb2,hge⟩;refine ⟨_,rfl,?_⟩;have n0_:=ak_ (hb);have n1_:=ak_ (hi);clear HB;have HB:=n0_;have HI571:=n1_;clear n0_ n1_;(try clear hb);(try clear hb2);(try clear hi);(try clear hge))|((with_reducible refine gate_dst (N:=43) rfl ?_);(try (refine gate_guard (by rfl) ?_;dsimp only));refine Kd.R_make (Kd.int .i64) _ 2 rfl (N:=43) rfl 27 _ _ rfl 80 rfl rfl Try.underlying27 (.int .i64 0) 8 info2 rfl (by decide) (by omega) 0 (ok:=fun _ => True) (okp:=fun _ => True) rfl (fun _ hk => hk) trivial (by omega) (by omega) (Below.refl _ _) (Nat.le_refl _) ?_;intro v574 w23 ho24 hb hg_ hnew_;clear hg_ hnew_;(first|rw [← Ny573.out] at ho24|(simp only [Int.reduceToNat] at ho24;rw [← Ny573.out] at ho24));have n0_:=ak_ (Kd.R_lower ho24 (below_size (by repeat (first|(with_reducible first|exact HB.out|apply ba_|apply bb_|apply bc_|refine below_set ?_ (IsS53.ge HI571.out))|exact HB.out))));have n1_:=ak_ (IsS53.below (by repeat (first|(with_reducible first|exact HI571.out|apply IsS53.alloc|apply IsS53.drewN|apply IsS53.drew)|exact HI571.out)) hb);have n2_:=ak_ (below_step (by repeat (first|(with_reducible first|exact HB.out|apply ba_|apply bb_|apply bc_|refine below_set ?_ (IsS53.ge HI571.out))|exact HB.out)) hb);clear HI571;clear HB;have HO575:=n0_;have HI571:=n1_;have HB:=n2_;clear n0_ n1_ n2_;clear hb ho24;have p19 : 0 ≤ (a2 : Int):=of_decide_eq_true (by first|(with_reducible assumption)|assumption);have q19 : (a2 : Int) < ((y573.length : Int) : Int):=of_decide_eq_true (by first|(with_reducible assumption)|assumption);obtain ⟨go19,co19,eo19,gb19,gl19,cl19,HG19⟩:=Kd.R_form HO575.out (by omega);(first|cases eo19|(injection eo19 with ea_ en_ ec_;(first|subst ea_|(injection ea_ with ea_;subst ea_));subst ec_;clear en_));have GB19:=ak_ gb19;have GG19:=ak_ HG19;clear gb19 gl19 HG19;obtain ⟨hx19_0,hf19_0⟩:=Kd.R_celln 0 HO575.out (a2 : Int) p19 q19;replace p19:=eq_true p19;replace q19:=eq_true q19;obtain ⟨hy25_,hz25_⟩:=Kd.R_celln 0 HO575.out (a2 : Int) (of_decide_eq_true (by first|(with_reducible assumption)|assumption)) (of_decide_eq_true (by first|(with_reducible assumption)|assumption));have HP25:=Kd.R_putg HO575.out (a2 : Int) a1)|((with_reducible refine gate_store (t:=2) (p:=47) rfl ?_);(try (rw [drewN_self w23];generalize hq_ : World.drewN w23 _ = w23;have n0_:=ak_ (Kd.R_at hq_ HO575.out);have n1_:=ak_ (IsS53.at_ hq_ HI571.out);have n2_:=ak_ (below_at hq_ HB.out);clear hq_ HO575 HI571 HB;have HO575:=n0_;have HI571:=n1_;have HB:=n2_;clear n0_ n1_ n2_;(try (obtain ⟨hy25_,hz25_⟩:=Kd.R_celln 0 HO575.out (a2 : Int) (of_decide_eq_true (by first|(with_reducible assumption)|assumption)) (of_decide_eq_true (by first|(with_reducible assumption)|assumption))));(try (have HP25:=Kd.R_putg HO575.out (a2 : Int) a1))));refine store_event (t:=2) (p:=47) (v:=?vo_w26) (w1:=(w23.setCell ⟨go19,(a2 : Int).toNat,none⟩ (.int .i64 a1))) ?hg ?ho ?hn ?hr ?_;(case ho => rfl);(case hg => rfl);(case hn => rfl);(case hr => first|(go_simp;done)|(go_simp;rfl));intro w26 hw;have hg : w23.grownBy w26 (some go19):=(by rw [hw];exact HP25.2);have hp_ : Kd.R (Kd.int .i64) 2 w26 w.heap.size (fun _ => True) (.slice (some ⟨go19,0,none⟩) y573.length co19) y576:=(by rw [hw,Ny576.out];exact HP25.1);clear HP25;have n0_:=ak_ (IsS53.grown (by repeat (first|(with_reducible first|exact HI571.out|apply IsS53.alloc|apply IsS53.drewN|apply IsS53.drew)|exact HI571.out)) hg (IsS53.own_ne HI571.out HO575.out (by decide)));have n1_:=ak_ (hp_);have n2_:=ak_ ((by rw [hw];exact below_set (HB.out) GB19.out : Below w.heap.size w w26));clear HI571;clear HO575;clear HB;have HI571:=n0_;have HO575:=n1_;have HB:=n2_;clear n0_ n1_ n2_;clear hg hw hp_)|(go_at_call 13;refine calls_of_args (args':=#[.pointer (some ⟨g571,0,none⟩),.slice (some ⟨go19,0,none⟩) y576.length co19]) (by first|(rw [show y576.length = y573.length from (Kd.R_reads' HO575.out).1.symm] <;> rfl)|rfl) ?_;(with_reducible refine (resamp_Sampler_Run.calls kj5 g571 t568 t569 t570 _ _ y576 t577 t580 t581 t582 t583 w _ ?side1 ?side2 ?side3 ?side4 ?side5 A20.out).mono ?_);(case side1 => repeat (first|(with_reducible first|exact HI571.out|apply IsS53.alloc|apply IsS53.drewN|apply IsS53.drew)|exact HI571.out));(case side2 => repeat (first|(with_reducible first|exact HB.out|apply ba_|apply bb_|apply bc_|refine below_set ?_ (IsS53.ge HI571.out))|exact HB.out));(case side3 => repeat (first|exact (Kd.R_reads' HO575.out).2.2|(with_reducible refine Kd.C_alloc ?_ _)|(with_reducible refine Kd.C_drewN ?_ _)|(with_reducible refine Kd.C_drew ?_)));(case side4 => rw [show y576.length = y573.length from (Kd.R_reads' HO575.out).1.symm];exact (Kd.R_reads' HO575.out).2.1);(case side5 => first|exact far_slice (IsS53.own_ne HI571.out HO575.out (by decide))|(intro ad_ ha_ hl_;exact far_slice (IsS53.own_ne HI571.out HO575.out (by decide)) ad_ ha_ (by have e_:=(Kd.R_reads' HO575.out).1;omega)));rintro e w27 ⟨v578,rfl,ho0,hi,hb,hk⟩;have n0_:=ak_ (Kd.R_mono (Kd.R_told (Kd.R_oldK (IsS53.apart (show IsS53 w _ g571 t568 t569 t570 from by repeat (first|(with_reducible first|exact HI571.out|apply IsS53.alloc|apply IsS53.drewN|apply IsS53.drew)|exact HI571.out)) (by (with_reducible repeat (first|apply ra_|apply rb_|apply rc_));exact HO575.out) (by decide)) hk) (Kd.R_base ho0)) (fun _ h_ => h_.1));have n1_:=ak_ (Kd.R_lower (Kd.R_new' ho0 (Kd.R_lt (by (with_reducible repeat (first|apply ra_|apply rb_|apply rc_));exact HO575.out))) (below_size (by repeat (first|(with_reducible first|exact HB.out|apply ba_|apply bb_|apply bc_|refine below_set ?_ (IsS53.ge HI571.out))|exact HB.out))));have n2_:=ak_ (hb);have n3_:=ak_ (hi);clear HO575;clear HB;clear HI571;have HO575:=n0_;have HO579:=n1_;have HB:=n2_;have HI571:=n3_;clear n0_ n1_ n2_ n3_;(try clear hb);(try clear hk);(try clear hi);(try clear ho0))))
         (try simp only [Act.put,List.setIfInBounds_toArray,List.set_cons_zero,List.set_cons_succ])
         go_cut [60] (fun v60 wc => ∃ (kq : Nat) (x60_20 : Bool),v60 = .bool x60_20 ∧ Aside0 (madrigallaw22_ResampOne.j1 kq a1 a2 t577 x60_20 = some r) ∧ Aside0 (kq ≤ kj5) ∧ Aside0 (Kd.R (Kd.int .i64) 2 wc w.heap.size (fun _ => True) v578 t577) ∧ Aside0 (Below w.heap.size w wc))
         case first =>
          have H:=HC21.out
          clear HC21
          by_cases c28 : t580 = 0
          ·rw [if_pos c28] at H
           have c28b0 : (t580 == 0) = true:=beq_iff_eq.mpr c28
           have c28b1 : (t580 != 0) = false:=bne_eq_false_iff_eq.mpr c28
           clear c28
           (first|rw [c28b0]|(simp only [i64_w,i32_w];rw [c28b0])|skip)
           have H':=ak_ H
           clear H
           obtain ⟨Ao29,co29,eo29⟩:=Kd.R_slice HO579.out
           subst eo29
           go_wp2
           repeat (go_quiet (fail);try go_wp2)
           go_meet
           case rel => exact ⟨_,(((t577.length : Int) != 80)),(by first|rfl|(simp;done)|(simp [*];done)),H',⟨by have:=HJ5.out;first|omega|exact Nat.le_refl _⟩,⟨by (with_reducible repeat (first|apply ra_|apply rb_|apply rc_));exact Kd.R_mono HO579.out (fun _ hk => trivial)⟩,⟨by repeat (first|(with_reducible first|exact HB.out|apply ba_|apply bb_|apply bc_|refine below_set ?_ (IsS53.ge HI571.out))|exact HB.out)⟩⟩
          ·rw [if_neg c28] at H
           have c28b0 : (t580 == 0) = false:=beq_eq_false_iff_ne.mpr c28
           have c28b1 : (t580 != 0) = true:=bne_iff_ne.mpr c28
           (first|rw [c28b0]|(simp only [i64_w,i32_w];rw [c28b0])|skip)
           have H':=ak_ H
           clear H
           go_wp2
           repeat (go_quiet (fail);try go_wp2)
           go_meet
           case rel => exact ⟨_,(true),(by first|rfl|(simp;done)|(simp [*];done)),H',⟨by have:=HJ5.out;first|omega|exact Nat.le_refl _⟩,⟨by (with_reducible repeat (first|apply ra_|apply rb_|apply rc_));exact Kd.R_mono HO579.out (fun _ hk => trivial)⟩,⟨by repeat (first|(with_reducible first|exact HB.out|apply ba_|apply bb_|apply bc_|refine below_set ?_ (IsS53.ge HI571.out))|exact HB.out)⟩⟩
         case rest =>
          clear HC21
          try clear c1
          try clear p1
          try clear q1
          try clear hx1
          try clear c2
          try clear p2
          try clear c5
          try clear c9
          try clear c10
          try clear c10b0
          try clear c11
          try clear c11b0
          try clear c12
          try clear c12b0
          try clear c13
          try clear c14
          try clear c14b0
          try clear c14b1
          try clear c16
          try clear c16b0
          try clear c16b1
          try clear c17
          try clear c17b0
          try clear c18
          try clear c18b0
          try clear p19
          try clear q19
          try clear hx19
          try clear hf19
          try clear c28
          try clear c28b0
          try clear c28b1
          try clear hx19_0
          try clear p19
          try clear p2
          try clear q19
          obtain ⟨kq,x60_20,rfl,HA,HJ20,HO_10,HB⟩:=hcut
          (try simp only [i64_w,i32_w])
          cases kq with
          | zero => exact absurd HA.out (by simp [madrigallaw22_ResampOne.j1])
          | succ kj20 =>
           have H:=HA.out
           clear HA
           simp only [madrigallaw22_ResampOne.j1] at H
           by_cases c30 : x60_20 = true
           ·subst c30
            have H1 : (none) = some r:=by rw [if_pos rfl] at H;exact H
            clear H
            have H:=H1
            clear H1
            exact absurd H (by simp)
           ·replace c30:=Bool.eq_false_iff.mpr c30
            subst c30
            have H1 : (madrigallaw22_ResampOne.l0 kj20 a1 a2 t577 0 0) = some r:=by rw [if_neg (show ¬ (false = true) by decide)] at H;exact H
            clear H
            have H:=H1
            clear H1
            have H':=ak_ H
            clear H
            go_wp2
            repeat (go_quiet (fail);try go_wp2)
            go_loopg [12,13] kj20 (fun kq v12 v13 w' => ∃ (x12_3 : Int) (x13_3 : Int),v12 = .int .i64 x12_3 ∧ v13 = .int .i64 x13_3 ∧ Aside0 (madrigallaw22_ResampOne.l0 kq a1 a2 t577 x12_3 x13_3 = some r) ∧ Aside0 (kq ≤ kj20) ∧ Aside0 (Kd.R (Kd.int .i64) 2 w' w.heap.size (fun _ => True) v578 t577) ∧ Aside0 (Below w.heap.size w w'))
            case atStart => exact ⟨(0),(0),(by first|rfl|(simp;done)|(simp [*];done)),(by first|rfl|(simp;done)|(simp [*];done)),H',⟨Nat.le_refl _⟩,⟨by (with_reducible repeat (first|apply ra_|apply rb_|apply rc_));exact HO_10.out⟩,⟨by repeat (first|(with_reducible first|exact HB.out|apply ba_|apply bb_|apply bc_)|exact HB.out)⟩⟩
            case round =>
             clear H'
             try clear c1
             try clear p1
             try clear q1
             try clear hx1
             try clear c2
             try clear p2
             try clear c3
             try clear c5
             try clear c9
             try clear c10
             try clear c10b0
             try clear c11
             try clear c11b0
             try clear c12
             try clear c12b0
             try clear c13
             try clear c14
             try clear c14b0
             try clear c14b1
             try clear c16
             try clear c16b0
             try clear c16b1
             try clear c17
             try clear c17b0
             try clear c18
             try clear c18b0
             try clear p19
             try clear q19
             try clear hx19
             try clear hf19
             try clear c28
             try clear c28b0
             try clear c28b1
             try clear c30
             try clear hx19_0
             try clear p1
             try clear p19
             try clear p2
             try clear q1
             try clear q19
             obtain ⟨x12_3,x13_3,rfl,rfl,HA,HK3,HO_10,HB⟩:=hrel
             (try simp only [i64_w,i32_w])
             cases gk with
             | zero => exact absurd HA.out (by simp [madrigallaw22_ResampOne.l0])
             | succ k3 =>
              have H:=HA.out
              clear HA
              simp only [madrigallaw22_ResampOne.l0] at H
              by_cases c31 : x13_3 < (t577.length : Int)
              ·rw [if_pos c31] at H
               have c31b0:=decide_eq_true c31
               clear c31
               by_cases c32 : 0 ≤ x13_3
               ·rw [if_pos c32] at H
                have c32b0:=decide_eq_true c32
                clear c32
                by_cases c33 : 0 ≤ x12_3
                ·rw [if_pos c33] at H
                 have c33b0:=decide_eq_true c33
                 clear c33
                 by_cases c34 : x12_3 < (t577.length : Int)
                 ·rw [if_pos c34] at H
                  have c34b0:=decide_eq_true c34
                  clear c34
                  by_cases c35 : (rd t577 x13_3) > (rd t577 x12_3)
                  ·rw [if_pos c35] at H
                   have c35b0 : decide ((rd t577 x12_3) < (rd t577 x13_3)) = true:=decide_eq_true c35
                   clear c35
                   have H':=ak_ H
                   clear H
                   obtain ⟨Ao36,co36,eo36⟩:=Kd.R_slice HO_10.out
                   subst eo36
                   have p584 : 0 ≤ (x13_3 : Int):=of_decide_eq_true (by first|(with_reducible assumption)|assumption)
                   have q584 : x13_3 < (t577.length : Int):=of_decide_eq_true (by first|(with_reducible assumption)|assumption)
                   obtain ⟨ad584,e584,hx584_0⟩:=Kd.at_int (Kd.R_reads' HO_10.out).2.2 x13_3 p584 q584
                   cases e584
                   replace p584:=eq_true p584
                   replace q584:=eq_true q584
                   have p585 : 0 ≤ (x12_3 : Int):=of_decide_eq_true (by first|(with_reducible assumption)|assumption)
                   have q585 : x12_3 < (t577.length : Int):=of_decide_eq_true (by first|(with_reducible assumption)|assumption)
                   obtain ⟨ad585,e585,hx585_0⟩:=Kd.at_int (Kd.R_reads' HO_10.out).2.2 x12_3 p585 q585
                   obtain rfl : ad584 = ad585:=(by injection e585)
                   replace p585:=eq_true p585
                   replace q585:=eq_true q585
                   go_wp2
                   repeat (go_quiet (fail);try go_wp2)
                   go_roundg k3
                   case measure => have:=HJ5.out;have:=HJ20.out;have:=HK3.out;omega
                   case rel => exact ⟨(x13_3),(wrap64 (x13_3 + 1)),(by first|rfl|(simp;done)|(simp [*];done)),(by first|rfl|(simp;done)|(simp [*];done)),H',⟨by have:=HJ5.out;have:=HJ20.out;have:=HK3.out;omega⟩,⟨by (with_reducible repeat (first|apply ra_|apply rb_|apply rc_));exact HO_10.out⟩,⟨by repeat (first|(with_reducible first|exact HB.out|apply ba_|apply bb_|apply bc_)|exact HB.out)⟩⟩
                  ·rw [if_neg c35] at H
                   have c35b0 : decide ((rd t577 x12_3) < (rd t577 x13_3)) = false:=decide_eq_false c35
                   clear c35
                   have H':=ak_ H
                   clear H
                   obtain ⟨Ao37,co37,eo37⟩:=Kd.R_slice HO_10.out
                   subst eo37
                   have p584 : 0 ≤ (x13_3 : Int):=of_decide_eq_true (by first|(with_reducible assumption)|assumption)
                   have q584 : x13_3 < (t577.length : Int):=of_decide_eq_true (by first|(with_reducible assumption)|assumption)
                   obtain ⟨ad584,e584,hx584_0⟩:=Kd.at_int (Kd.R_reads' HO_10.out).2.2 x13_3 p584 q584
                   cases e584
                   replace p584:=eq_true p584
                   replace q584:=eq_true q584
                   have p585 : 0 ≤ (x12_3 : Int):=of_decide_eq_true (by first|(with_reducible assumption)|assumption)
                   have q585 : x12_3 < (t577.length : Int):=of_decide_eq_true (by first|(with_reducible assumption)|assumption)
                   obtain ⟨ad585,e585,hx585_0⟩:=Kd.at_int (Kd.R_reads' HO_10.out).2.2 x12_3 p585 q585
                   obtain rfl : ad584 = ad585:=(by injection e585)
                   replace p585:=eq_true p585
                   replace q585:=eq_true q585
                   go_wp2
                   repeat (go_quiet (fail);try go_wp2)
                   go_roundg k3
                   case measure => have:=HJ5.out;have:=HJ20.out;have:=HK3.out;omega
                   case rel => exact ⟨(x12_3),(wrap64 (x13_3 + 1)),(by first|rfl|(simp;done)|(simp [*];done)),(by first|rfl|(simp;done)|(simp [*];done)),H',⟨by have:=HJ5.out;have:=HJ20.out;have:=HK3.out;omega⟩,⟨by (with_reducible repeat (first|apply ra_|apply rb_|apply rc_));exact HO_10.out⟩,⟨by repeat (first|(with_reducible first|exact HB.out|apply ba_|apply bb_|apply bc_)|exact HB.out)⟩⟩
                 ·rw [if_neg c34] at H
                  exact absurd H (by simp)
                ·rw [if_neg c33] at H
                 exact absurd H (by simp)
               ·rw [if_neg c32] at H
                exact absurd H (by simp)
              ·rw [if_neg c31] at H
               have c31b0:=decide_eq_false c31
               clear c31
               by_cases c38 : x12_3 = (wrap64 (a2 + 8))
               ·rw [if_pos c38] at H
                have c38b0 : (x12_3 == (wrap64 (a2 + 8))) = true:=beq_iff_eq.mpr c38
                have c38b1 : (x12_3 != (wrap64 (a2 + 8))) = false:=bne_eq_false_iff_eq.mpr c38
                clear c38
                by_cases c39 : 0 ≤ x12_3
                ·rw [if_pos c39] at H
                 have c39b0:=decide_eq_true c39
                 clear c39
                 by_cases c40 : x12_3 < (t577.length : Int)
                 ·rw [if_pos c40] at H
                  have c40b0:=decide_eq_true c40
                  clear c40
                  obtain rfl:=Option.some.inj H
                  obtain ⟨Ao41,co41,eo41⟩:=Kd.R_slice HO_10.out
                  subst eo41
                  have p586 : 0 ≤ (x12_3 : Int):=of_decide_eq_true (by first|(with_reducible assumption)|assumption)
                  have q586 : x12_3 < (t577.length : Int):=of_decide_eq_true (by first|(with_reducible assumption)|assumption)
                  obtain ⟨ad586,e586,hx586_0⟩:=Kd.at_int (Kd.R_reads' HO_10.out).2.2 x12_3 p586 q586
                  cases e586
                  replace p586:=eq_true p586
                  replace q586:=eq_true q586
                  go_wp2
                  repeat (go_quiet (fail);try go_wp2)
                  go_ret
                  exact ⟨by first|rfl|(simp [errW_none,errW_some] <;> rfl)|(simp [*,errW_none,errW_some] <;> rfl),by repeat (first|(with_reducible first|exact HB.out|apply ba_|apply bb_|apply bc_)|exact HB.out)⟩
                 ·rw [if_neg c40] at H
                  exact absurd H (by simp)
                ·rw [if_neg c39] at H
                 exact absurd H (by simp)
               ·rw [if_neg c38] at H
                exact absurd H (by simp)
        ·rw [if_neg c18] at H
         exact absurd H (by simp)
       ·rw [if_neg c17] at H
        exact absurd H (by simp)
      ·rw [if_neg c16] at H
       exact absurd H (by simp)
     ·rw [if_neg c14] at H
      have c14b0 : (resamp_Good.f a0 a0 == some true) = false:=beq_eq_false_iff_ne.mpr c14
      have c14b1 : (resamp_Good.f a0 a0 != some true) = true:=bne_iff_ne.mpr c14
      replace H:=Option.bind_eq_some_iff.mp H
      obtain ⟨t588,A420,H⟩:=H
      (try dsimp only at H)
      have A42:=ak_ A420
      clear A420
      exact absurd H (by simp)
 ·replace c5:=Bool.eq_false_iff.mpr c5
  subst c5
  have H1 : (none) = some r:=by rw [if_neg (show ¬ (false = true) by decide)] at H;exact H
  clear H
  have H:=H1
  clear H1
  exact absurd H (by simp)

/-- THE ONE PURE STATEMENT of madrigallaw22_ResampOne. -/
def madrigallaw22_ResampOne.Pure : Prop:=∀ (a0 : Int) (a1 : Int) (a2 : Int),(Lit.int .i64 a0).wf = true → (Lit.int .i64 a1).wf = true → (Lit.int .i64 a2).wf = true → ∃ k,madrigallaw22_ResampOne.f k a0 a1 a2 = some true
theorem madrigallaw22_ResampOne.walk (P : madrigallaw22_ResampOne.Pure) (a0 : Int) (a1 : Int) (a2 : Int) (w : World) (w0 : (Lit.int .i64 a0).wf = true) (w1 : (Lit.int .i64 a1).wf = true) (w2 : (Lit.int .i64 a2).wf = true) :
  Calls Try.prog 10 #[.int .i64 a0,.int .i64 a1,.int .i64 a2] w fun e w' => e = .returned (.bool true) ∧ Below w.heap.size w w':=by
 obtain ⟨k,h⟩:=P a0 a1 a2 w0 w1 w2
 refine (madrigallaw22_ResampOne.calls k a0 a1 a2 true w h).mono ?_
 rintro e w' ⟨rfl,hd⟩
 exact ⟨rfl,hd⟩

end Go.Proofs.Ytcicenmmpbgmoaa.P
