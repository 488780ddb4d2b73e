/- The machine side of the laws of one chapter, without conditions: each call of a Go function comes to what the Lean function of its name answers. Written for this claim by a program of the prover. -/
import Derived.Test.YtcicenmmpbgmoaaPx0
import Derived.Test.YtcicenmmpbgmoaaPx1
import Derived.Test.YtcicenmmpbgmoaaPx2
import Derived.Test.YtcicenmmpbgmoaaPx11
import Derived.Test.YtcicenmmpbgmoaaPx15
import Derived.Test.YtcicenmmpbgmoaaPx17
import Derived.Test.YtcicenmmpbgmoaaPx18
namespace Go.Proofs.Ytcicenmmpbgmoaa.P
open Go.RowKit Go.Proofs.YtcicenmmpbgmoaaW.PrintWords Go.Proofs.YtcicenmmpbgmoaaW.PrintLast Go.Proofs.YtcicenmmpbgmoaaW.PrintMore
attribute [local go_sem] max2_int min2_int max_two min_two max_three min_three max_four min_four   -- for this text's walks alone
set_option linter.unusedVariables false
set_option linter.unusedSimpArgs false

/-! ### madrigallaw22_ResampSilence: function 8 -/
mutual
def madrigallaw22_ResampSilence.j0 : Nat → Int → Int → List Int → Bool → Option (Bool)
 | 0,_,_,_,_ => none
 | k + 1,x0,x1,x2,x39 => if x39 = true then (some true) else ((madrigalref10_Parts.f k x0 x1).bind fun bt456 => (if bt456.2 = 0 then (none) else (if 0 ≤ (wrap64 ((wrap64 ((x2.length : Int) / bt456.2)) * bt456.2)) then (if (wrap64 ((wrap64 ((x2.length : Int) / bt456.2)) * bt456.2)) ≤ (x2.length : Int) then (madrigallaw22_ResampSilence.l0 k x0 x1 (x2.take ((wrap64 ((wrap64 ((x2.length : Int) / bt456.2)) * bt456.2)) : Int).toNat) ([] : List Int) 0) else (none)) else (none))))
def madrigallaw22_ResampSilence.l0 : Nat → Int → Int → List Int → List Int → Int → Option (Bool)
 | 0,_,_,_,_,_ => none
 | k + 1,x0,x1,x2,x9,x10 => if x10 < (x2.length : Int) then (if 0 ≤ x10 then (if (rd x2 x10) > 30000 then (some true) else (if (rd x2 x10) < (-30000) then (some true) else (if x9.length < 17592186044416 then (madrigallaw22_ResampSilence.l0 k x0 x1 x2 (x9 ++ [wrap64 (-(rd x2 x10))]) (wrap64 (x10 + 1))) else (none)))) else (none)) else (if resamp_Good.f x0 x1 = some true then ((resamp_New1.f x0 x1).bind fun bt468 => ((resamp_New1.f x0 x1).bind fun bt473 => ((resamp_New1.f x0 x1).bind fun bt478 => ((resamp_Sampler_Run.f k bt468.1 bt468.2.1 bt468.2.2.1 x2).bind fun bt483 => ((resamp_Sampler_Run.f k bt473.1 bt473.2.1 bt473.2.2.1 x9).bind fun bt490 => (if 0 ≤ (x2.length : Int) then (if ((x2.length : Int) : Int).toNat ≤ 35184372088832 then ((resamp_Sampler_Run.f k bt478.1 bt478.2.1 bt478.2.2.1 (List.replicate ((x2.length : Int) : Int).toNat 0)).bind fun bt500 => (if (bt483.1.length : Int) = (bt490.1.length : Int) then (if 0 ≤ (bt483.1.length : Int) then (if ((bt483.1.length : Int) : Int).toNat ≤ 35184372088832 then ((madrigallaw22_same.f k bt500.1 (List.replicate ((bt483.1.length : Int) : Int).toNat 0)).bind fun t510 => (madrigallaw22_ResampSilence.j2 k bt483.1 bt490.1 (!t510))) else (none)) else (none)) else (madrigallaw22_ResampSilence.j2 k bt483.1 bt490.1 true))) else (none)) else (none))))))) else ((resamp_New0.f x0 x1).bind fun t518 => ((resamp_New0.f x0 x1).bind fun t520 => ((resamp_New0.f x0 x1).bind fun t522 => (none)))))
def madrigallaw22_ResampSilence.j2 : Nat → List Int → List Int → Bool → Option (Bool)
 | 0,_,_,_ => none
 | k + 1,x17,x19,x140 => if x140 = true then (none) else (madrigallaw22_ResampSilence.l1 k x17 x19 0)
def madrigallaw22_ResampSilence.l1 : Nat → List Int → List Int → Int → Option (Bool)
 | 0,_,_,_ => none
 | k + 1,x17,x19,x23 => if x23 < (x17.length : Int) then (if 0 ≤ x23 then (if x23 < (x19.length : Int) then (if (wrap64 ((rd x17 x23) + (rd x19 x23))) > 1 then (if (rd x17 x23) < 32767 then (if (rd x19 x23) < 32767 then (none) else (madrigallaw22_ResampSilence.l1 k x17 x19 (wrap64 (x23 + 1)))) else (madrigallaw22_ResampSilence.l1 k x17 x19 (wrap64 (x23 + 1)))) else (if (wrap64 ((rd x17 x23) + (rd x19 x23))) < (-1) then (if (rd x17 x23) < 32767 then (if (rd x19 x23) < 32767 then (none) else (madrigallaw22_ResampSilence.l1 k x17 x19 (wrap64 (x23 + 1)))) else (madrigallaw22_ResampSilence.l1 k x17 x19 (wrap64 (x23 + 1)))) else (madrigallaw22_ResampSilence.l1 k x17 x19 (wrap64 (x23 + 1))))) else (none)) else (none)) else (some true)
end
def madrigallaw22_ResampSilence.f (k : Nat) (a0 : Int) (a1 : Int) (l2 : List Int) : Option (Bool):=(madrigallaw22_awake.f k).bind fun t453 => (if t453 = true then ((madrigalref10_Known.f a0).bind fun t454 => (if t454 = true then ((madrigalref10_Known.f a1).bind fun t455 => (if t455 = true then (madrigallaw22_ResampSilence.j0 k a0 a1 l2 (decide ((l2.length : Int) > 300))) else (madrigallaw22_ResampSilence.j0 k a0 a1 l2 true))) else (madrigallaw22_ResampSilence.j0 k a0 a1 l2 true))) else (none))
theorem madrigallaw22_ResampSilence.mono_l : ∀ k,(∀ y0 y1 y2 y3,LeO (madrigallaw22_ResampSilence.j0 k y0 y1 y2 y3) (madrigallaw22_ResampSilence.j0 (k + 1) y0 y1 y2 y3)) ∧ (∀ y0 y1 y2 y3 y4,LeO (madrigallaw22_ResampSilence.l0 k y0 y1 y2 y3 y4) (madrigallaw22_ResampSilence.l0 (k + 1) y0 y1 y2 y3 y4)) ∧ (∀ y0 y1 y2,LeO (madrigallaw22_ResampSilence.j2 k y0 y1 y2) (madrigallaw22_ResampSilence.j2 (k + 1) y0 y1 y2)) ∧ (∀ y0 y1 y2,LeO (madrigallaw22_ResampSilence.l1 k y0 y1 y2) (madrigallaw22_ResampSilence.l1 (k + 1) y0 y1 y2))
 | 0 => ⟨fun _ _ _ _ r h => by simp [madrigallaw22_ResampSilence.j0] at h,fun _ _ _ _ _ r h => by simp [madrigallaw22_ResampSilence.l0] at h,fun _ _ _ r h => by simp [madrigallaw22_ResampSilence.j2] at h,fun _ _ _ r h => by simp [madrigallaw22_ResampSilence.l1] at h⟩
 | k + 1 => by
  obtain ⟨ih0,ih1,ih2,ih3⟩:=madrigallaw22_ResampSilence.mono_l k
  refine ⟨?_,?_,?_,?_⟩
  all_goals (intros;first|unfold madrigallaw22_ResampSilence.j0|unfold madrigallaw22_ResampSilence.l0|unfold madrigallaw22_ResampSilence.j2|unfold madrigallaw22_ResampSilence.l1)
  all_goals (repeat' first|(with_reducible first|exact ih0 _ _ _ _|exact ih1 _ _ _ _ _|exact ih2 _ _ _|exact ih3 _ _ _|exact madrigallaw22_awake.mono _|exact madrigallaw22_same.mono _ _ _|exact madrigalref10_Parts.mono _ _ _|exact resamp_Sampler_Run.mono _ _ _ _ _|exact LeO.refl _|exact LeO.none _|refine LeO.ite ?_ ?_|refine LeO.bind ?_ (fun _ => ?_))|exact ih0 _ _ _ _|exact ih1 _ _ _ _ _|exact ih2 _ _ _|exact ih3 _ _ _|exact madrigallaw22_awake.mono _|exact madrigallaw22_same.mono _ _ _|exact madrigalref10_Parts.mono _ _ _|exact resamp_Sampler_Run.mono _ _ _ _ _|exact LeO.none _|refine LeO.ite ?_ ?_|refine LeO.bind ?_ (fun _ => ?_))
theorem madrigallaw22_ResampSilence.mono : ∀ a0 a1 a2 k,LeO (madrigallaw22_ResampSilence.f k a0 a1 a2) (madrigallaw22_ResampSilence.f (k + 1) a0 a1 a2):=by
 intro a0 a1 a2 k
 obtain ⟨ih0,ih1,ih2,ih3⟩:=madrigallaw22_ResampSilence.mono_l k
 unfold madrigallaw22_ResampSilence.f
 repeat' first|(with_reducible first|exact ih0 _ _ _ _|exact ih1 _ _ _ _ _|exact ih2 _ _ _|exact ih3 _ _ _|exact madrigallaw22_awake.mono _|exact madrigallaw22_same.mono _ _ _|exact madrigalref10_Parts.mono _ _ _|exact resamp_Sampler_Run.mono _ _ _ _ _|exact LeO.refl _|exact LeO.none _|refine LeO.ite ?_ ?_|refine LeO.bind ?_ (fun _ => ?_))|exact ih0 _ _ _ _|exact ih1 _ _ _ _ _|exact ih2 _ _ _|exact ih3 _ _ _|exact madrigallaw22_awake.mono _|exact madrigallaw22_same.mono _ _ _|exact madrigalref10_Parts.mono _ _ _|exact resamp_Sampler_Run.mono _ _ _ _ _|exact LeO.none _|refine LeO.ite ?_ ?_|refine LeO.bind ?_ (fun _ => ?_)
set_option maxHeartbeats 8000000 in
set_option maxRecDepth 100000 in
theorem madrigallaw22_ResampSilence.calls (k : Nat) (a0 : Int) (a1 : Int) (A2 : Option Addr) (c2 : Nat) (l2 : List Int) (r : Bool) (w : World) (hr2 : Kd.C (Kd.int .i64) w A2 l2.length l2) (hc2 : l2.length ≤ c2) (h : madrigallaw22_ResampSilence.f k a0 a1 l2 = some r) :
  Calls Try.prog 8 #[.int .i64 a0,.int .i64 a1,.slice A2 l2.length c2] w fun e w' => e = .returned (.bool r) ∧ Below w.heap.size w w':=by
 have HR2:=ak_ hr2
 have HC2:=ak_ hc2
 clear hr2 hc2
 have HB:=ak_ (Below.refl w.heap.size w)
 have H : ((madrigallaw22_awake.f k).bind fun t453 => (if t453 = true then ((madrigalref10_Known.f a0).bind fun t454 => (if t454 = true then ((madrigalref10_Known.f a1).bind fun t455 => (if t455 = true then (madrigallaw22_ResampSilence.j0 k a0 a1 l2 (decide ((l2.length : Int) > 300))) else (madrigallaw22_ResampSilence.j0 k a0 a1 l2 true))) else (madrigallaw22_ResampSilence.j0 k a0 a1 l2 true))) else (none))) = some r:=h
 clear h
 replace H:=Option.bind_eq_some_iff.mp H
 obtain ⟨t453,A40,H⟩:=H
 (try dsimp only at H)
 have A4:=ak_ A40
 clear A40
 by_cases c5 : t453 = true
 ·subst c5
  have H1 : ((madrigalref10_Known.f a0).bind fun t454 => (if t454 = true then ((madrigalref10_Known.f a1).bind fun t455 => (if t455 = true then (madrigallaw22_ResampSilence.j0 k a0 a1 l2 (decide ((l2.length : Int) > 300))) else (madrigallaw22_ResampSilence.j0 k a0 a1 l2 true))) else (madrigallaw22_ResampSilence.j0 k a0 a1 l2 true))) = some r:=by rw [if_pos rfl] at H;exact H
  clear H
  have H:=H1
  clear H1
  have HC6:=ak_ H
  clear H
  go_enter Try.func8,Try.ntmps8
  go_upto_region 3 with (first|(go_at_call 11;(with_reducible refine (madrigallaw22_awake.calls k  true _ A4.out).mono ?_);rintro e w7 ⟨rfl,hb⟩;have n0_:=ak_ (below_step (by repeat (first|(with_reducible first|exact HB.out|apply ba_|apply bb_|apply bc_)|exact HB.out)) hb);clear HB;have HB:=n0_;clear n0_;(try clear hb)))
  repeat (go_quiet (first|(go_at_call 11;(with_reducible refine (madrigallaw22_awake.calls k  true _ A4.out).mono ?_);rintro e w7 ⟨rfl,hb⟩;have n0_:=ak_ (below_step (by repeat (first|(with_reducible first|exact HB.out|apply ba_|apply bb_|apply bc_)|exact HB.out)) hb);clear HB;have HB:=n0_;clear n0_;(try clear hb)));go_upto_region 3 with (first|(go_at_call 11;(with_reducible refine (madrigallaw22_awake.calls k  true _ A4.out).mono ?_);rintro e w7 ⟨rfl,hb⟩;have n0_:=ak_ (below_step (by repeat (first|(with_reducible first|exact HB.out|apply ba_|apply bb_|apply bc_)|exact HB.out)) hb);clear HB;have HB:=n0_;clear n0_;(try clear hb))))
  (try simp only [Act.put,List.setIfInBounds_toArray,List.set_cons_zero,List.set_cons_succ])
  go_cut [39] (fun v39 wc => ∃ (kq : Nat) (x39_5 : Bool),v39 = .bool x39_5 ∧ Aside0 (madrigallaw22_ResampSilence.j0 kq a0 a1 l2 x39_5 = some r) ∧ Aside0 (kq ≤ k) ∧ Aside0 (Below w.heap.size w wc))
  case first =>
   have H:=HC6.out
   clear HC6
   replace H:=Option.bind_eq_some_iff.mp H
   obtain ⟨t454,A80,H⟩:=H
   (try dsimp only at H)
   have A8:=ak_ A80
   clear A80
   by_cases c9 : t454 = true
   ·subst c9
    have H1 : ((madrigalref10_Known.f a1).bind fun t455 => (if t455 = true then (madrigallaw22_ResampSilence.j0 k a0 a1 l2 (decide ((l2.length : Int) > 300))) else (madrigallaw22_ResampSilence.j0 k a0 a1 l2 true))) = some r:=by rw [if_pos rfl] at H;exact H
    clear H
    have H:=H1
    clear H1
    replace H:=Option.bind_eq_some_iff.mp H
    obtain ⟨t455,A100,H⟩:=H
    (try dsimp only at H)
    have A10:=ak_ A100
    clear A100
    by_cases c11 : t455 = true
    ·subst c11
     have H1 : (madrigallaw22_ResampSilence.j0 k a0 a1 l2 (decide ((l2.length : Int) > 300))) = some r:=by rw [if_pos rfl] at H;exact H
     clear H
     have H:=H1
     clear H1
     have H':=ak_ H
     clear H
     go_wp2_with (first|(go_at_call 15;(with_reducible refine (madrigalref10_Known.calls a0 true _ A8.out).mono ?_);rintro e w' ⟨rfl,⟨nd,rfl⟩⟩;(try first|exact ⟨rfl,_,World.drewN_drewN _ _ _⟩|exact ⟨rfl,_,Eq.trans (World.drewN_drewN _ _ _) (congrArg (World.drewN _) (Nat.add_assoc _ _ _))⟩))|(go_at_call 15;(with_reducible refine (madrigalref10_Known.calls a1 true _ A10.out).mono ?_);rintro e w' ⟨rfl,⟨nd,rfl⟩⟩;(try first|exact ⟨rfl,_,World.drewN_drewN _ _ _⟩|exact ⟨rfl,_,Eq.trans (World.drewN_drewN _ _ _) (congrArg (World.drewN _) (Nat.add_assoc _ _ _))⟩)))
     repeat (go_quiet (first|(go_at_call 15;(with_reducible refine (madrigalref10_Known.calls a0 true _ A8.out).mono ?_);rintro e w' ⟨rfl,⟨nd,rfl⟩⟩;(try first|exact ⟨rfl,_,World.drewN_drewN _ _ _⟩|exact ⟨rfl,_,Eq.trans (World.drewN_drewN _ _ _) (congrArg (World.drewN _) (Nat.add_assoc _ _ _))⟩))|(go_at_call 15;(with_reducible refine (madrigalref10_Known.calls a1 true _ A10.out).mono ?_);rintro e w' ⟨rfl,⟨nd,rfl⟩⟩;(try first|exact ⟨rfl,_,World.drewN_drewN _ _ _⟩|exact ⟨rfl,_,Eq.trans (World.drewN_drewN _ _ _) (congrArg (World.drewN _) (Nat.add_assoc _ _ _))⟩)));try go_wp2_with (first|(go_at_call 15;(with_reducible refine (madrigalref10_Known.calls a0 true _ A8.out).mono ?_);rintro e w' ⟨rfl,⟨nd,rfl⟩⟩;(try first|exact ⟨rfl,_,World.drewN_drewN _ _ _⟩|exact ⟨rfl,_,Eq.trans (World.drewN_drewN _ _ _) (congrArg (World.drewN _) (Nat.add_assoc _ _ _))⟩))|(go_at_call 15;(with_reducible refine (madrigalref10_Known.calls a1 true _ A10.out).mono ?_);rintro e w' ⟨rfl,⟨nd,rfl⟩⟩;(try first|exact ⟨rfl,_,World.drewN_drewN _ _ _⟩|exact ⟨rfl,_,Eq.trans (World.drewN_drewN _ _ _) (congrArg (World.drewN _) (Nat.add_assoc _ _ _))⟩))))
     go_meet
     case rel => exact ⟨_,(decide ((l2.length : Int) > 300)),(by first|rfl|(simp;done)|(simp [*];done)),H',⟨by first|omega|exact Nat.le_refl _⟩,⟨by repeat (first|(with_reducible first|exact HB.out|apply ba_|apply bb_|apply bc_)|exact HB.out)⟩⟩
    ·replace c11:=Bool.eq_false_iff.mpr c11
     subst c11
     have H1 : (madrigallaw22_ResampSilence.j0 k a0 a1 l2 true) = some r:=by rw [if_neg (show ¬ (false = true) by decide)] at H;exact H
     clear H
     have H:=H1
     clear H1
     have H':=ak_ H
     clear H
     go_wp2_with (first|(go_at_call 15;(with_reducible refine (madrigalref10_Known.calls a0 true _ A8.out).mono ?_);rintro e w' ⟨rfl,⟨nd,rfl⟩⟩;(try first|exact ⟨rfl,_,World.drewN_drewN _ _ _⟩|exact ⟨rfl,_,Eq.trans (World.drewN_drewN _ _ _) (congrArg (World.drewN _) (Nat.add_assoc _ _ _))⟩))|(go_at_call 15;(with_reducible refine (madrigalref10_Known.calls a1 false _ A10.out).mono ?_);rintro e w' ⟨rfl,⟨nd,rfl⟩⟩;(try first|exact ⟨rfl,_,World.drewN_drewN _ _ _⟩|exact ⟨rfl,_,Eq.trans (World.drewN_drewN _ _ _) (congrArg (World.drewN _) (Nat.add_assoc _ _ _))⟩)))
     repeat (go_quiet (first|(go_at_call 15;(with_reducible refine (madrigalref10_Known.calls a0 true _ A8.out).mono ?_);rintro e w' ⟨rfl,⟨nd,rfl⟩⟩;(try first|exact ⟨rfl,_,World.drewN_drewN _ _ _⟩|exact ⟨rfl,_,Eq.trans (World.drewN_drewN _ _ _) (congrArg (World.drewN _) (Nat.add_assoc _ _ _))⟩))|(go_at_call 15;(with_reducible refine (madrigalref10_Known.calls a1 false _ A10.out).mono ?_);rintro e w' ⟨rfl,⟨nd,rfl⟩⟩;(try first|exact ⟨rfl,_,World.drewN_drewN _ _ _⟩|exact ⟨rfl,_,Eq.trans (World.drewN_drewN _ _ _) (congrArg (World.drewN _) (Nat.add_assoc _ _ _))⟩)));try go_wp2_with (first|(go_at_call 15;(with_reducible refine (madrigalref10_Known.calls a0 true _ A8.out).mono ?_);rintro e w' ⟨rfl,⟨nd,rfl⟩⟩;(try first|exact ⟨rfl,_,World.drewN_drewN _ _ _⟩|exact ⟨rfl,_,Eq.trans (World.drewN_drewN _ _ _) (congrArg (World.drewN _) (Nat.add_assoc _ _ _))⟩))|(go_at_call 15;(with_reducible refine (madrigalref10_Known.calls a1 false _ A10.out).mono ?_);rintro e w' ⟨rfl,⟨nd,rfl⟩⟩;(try first|exact ⟨rfl,_,World.drewN_drewN _ _ _⟩|exact ⟨rfl,_,Eq.trans (World.drewN_drewN _ _ _) (congrArg (World.drewN _) (Nat.add_assoc _ _ _))⟩))))
     go_meet
     case rel => exact ⟨_,(true),(by first|rfl|(simp;done)|(simp [*];done)),H',⟨by first|omega|exact Nat.le_refl _⟩,⟨by repeat (first|(with_reducible first|exact HB.out|apply ba_|apply bb_|apply bc_)|exact HB.out)⟩⟩
   ·replace c9:=Bool.eq_false_iff.mpr c9
    subst c9
    have H1 : (madrigallaw22_ResampSilence.j0 k a0 a1 l2 true) = some r:=by rw [if_neg (show ¬ (false = true) by decide)] at H;exact H
    clear H
    have H:=H1
    clear H1
    have H':=ak_ H
    clear H
    go_wp2_with (first|(go_at_call 15;(with_reducible refine (madrigalref10_Known.calls a0 false _ A8.out).mono ?_);rintro e w' ⟨rfl,⟨nd,rfl⟩⟩;(try first|exact ⟨rfl,_,World.drewN_drewN _ _ _⟩|exact ⟨rfl,_,Eq.trans (World.drewN_drewN _ _ _) (congrArg (World.drewN _) (Nat.add_assoc _ _ _))⟩)))
    repeat (go_quiet (first|(go_at_call 15;(with_reducible refine (madrigalref10_Known.calls a0 false _ A8.out).mono ?_);rintro e w' ⟨rfl,⟨nd,rfl⟩⟩;(try first|exact ⟨rfl,_,World.drewN_drewN _ _ _⟩|exact ⟨rfl,_,Eq.trans (World.drewN_drewN _ _ _) (congrArg (World.drewN _) (Nat.add_assoc _ _ _))⟩)));try go_wp2_with (first|(go_at_call 15;(with_reducible refine (madrigalref10_Known.calls a0 false _ A8.out).mono ?_);rintro e w' ⟨rfl,⟨nd,rfl⟩⟩;(try first|exact ⟨rfl,_,World.drewN_drewN _ _ _⟩|exact ⟨rfl,_,Eq.trans (World.drewN_drewN _ _ _) (congrArg (World.drewN _) (Nat.add_assoc _ _ _))⟩))))
    go_meet
    case rel => exact ⟨_,(true),(by first|rfl|(simp;done)|(simp [*];done)),H',⟨by first|omega|exact Nat.le_refl _⟩,⟨by repeat (first|(with_reducible first|exact HB.out|apply ba_|apply bb_|apply bc_)|exact HB.out)⟩⟩
  case rest => as_aux_lemma =>
   clear HC6
   try clear c1
   try clear c2
   try clear p2
   try clear c5
   try clear c8
   try clear c9
   try clear c11
   obtain ⟨kq,x39_5,rfl,HA,HJ5,HB⟩:=hcut
   (try simp only [i64_w,i32_w])
   cases kq with
   | zero => exact absurd HA.out (by simp [madrigallaw22_ResampSilence.j0])
   | succ kj5 =>
    have H:=HA.out
    clear HA
    simp only [madrigallaw22_ResampSilence.j0] at H
    by_cases c12 : x39_5 = true
    ·subst c12
     have H1 : (some true) = some r:=by rw [if_pos rfl] at H;exact H
     clear H
     have H:=H1
     clear H1
     obtain rfl:=Option.some.inj H
     go_wp2
     repeat (go_quiet (fail);try go_wp2)
     go_ret
     exact ⟨by first|rfl|(simp [errW_none,errW_some] <;> rfl)|(simp [*,errW_none,errW_some] <;> rfl),by repeat (first|(with_reducible first|exact HB.out|apply ba_|apply bb_|apply bc_)|exact HB.out)⟩
    ·replace c12:=Bool.eq_false_iff.mpr c12
     subst c12
     have H1 : ((madrigalref10_Parts.f kj5 a0 a1).bind fun bt456 => (if bt456.2 = 0 then (none) else (if 0 ≤ (wrap64 ((wrap64 ((l2.length : Int) / bt456.2)) * bt456.2)) then (if (wrap64 ((wrap64 ((l2.length : Int) / bt456.2)) * bt456.2)) ≤ (l2.length : Int) then (madrigallaw22_ResampSilence.l0 kj5 a0 a1 (l2.take ((wrap64 ((wrap64 ((l2.length : Int) / bt456.2)) * bt456.2)) : Int).toNat) ([] : List Int) 0) else (none)) else (none)))) = some r:=by rw [if_neg (show ¬ (false = true) by decide)] at H;exact H
     clear H
     have H:=H1
     clear H1
     replace H:=Option.bind_eq_some_iff.mp H
     obtain ⟨⟨t456,t457⟩,A130,H⟩:=H
     (try dsimp only at H)
     have A13:=ak_ A130
     clear A130
     by_cases c14 : t457 = 0
     ·rw [if_pos c14] at H
      exact absurd H (by simp)
     ·rw [if_neg c14] at H
      have c14b0 : (t457 == 0) = false:=beq_eq_false_iff_ne.mpr c14
      have c14b1 : (t457 != 0) = true:=bne_iff_ne.mpr c14
      obtain ⟨ji15,hji15⟩ : ∃ j_ : Int,(wrap64 ((wrap64 ((l2.length : Int) / t457)) * t457)) = j_:=⟨_,rfl⟩
      replace H : (if 0 ≤ (ji15) then (if (ji15) ≤ (l2.length : Int) then (madrigallaw22_ResampSilence.l0 kj5 a0 a1 (l2.take ((ji15) : Int).toNat) ([] : List Int) 0) else (none)) else (none)) = some r:=by first|(rw [hji15] at H;exact H)|(simp only [hji15] at H ⊢;exact H)
      (try rw [hji15] at A13)
      have hji15w : (IntKind.i64.wrap ((wrap64 ((l2.length : Int) / t457)) * t457)) = ji15:=(i64_w _).trans hji15
      by_cases c16 : 0 ≤ (ji15)
      ·rw [if_pos c16] at H
       have c16b0:=eq_true c16
       have c16b1 : decide (0 ≤ (ji15)) = true:=decide_eq_true c16
       clear c16
       by_cases c17 : (ji15) ≤ (l2.length : Int)
       ·rw [if_pos c17] at H
        have c17b0:=eq_true c17
        have c17b1 : decide ((ji15) ≤ (l2.length : Int)) = true:=decide_eq_true c17
        clear c17
        obtain ⟨y458,hy458⟩ : ∃ y_ : List Int,y_ = (l2.take ((ji15) : Int).toNat):=⟨_,rfl⟩
        replace H : (madrigallaw22_ResampSilence.l0 kj5 a0 a1 y458 ([] : List Int) 0) = some r:=by first|(rw [hy458];with_reducible exact H)|(have H2_:=(Option.bind_some _ _).symm.trans H;rw [hy458];with_reducible exact H2_)|(have H2_:=(Option.bind_some _ _).symm.trans H;with_reducible exact H2_)|with_reducible exact H|(rw [hy458];exact H)|exact H
        have Ny458:=ak_ hy458
        clear hy458
        have H':=ak_ H
        clear H
        go_wp2_with (first|(go_at_call 17;(with_reducible refine (madrigalref10_Parts.calls kj5 a0 a1 t456 t457 _ A13.out).mono ?_);rintro e w' ⟨rfl,⟨nd,rfl⟩⟩;(try first|exact ⟨rfl,_,World.drewN_drewN _ _ _⟩|exact ⟨rfl,_,Eq.trans (World.drewN_drewN _ _ _) (congrArg (World.drewN _) (Nat.add_assoc _ _ _))⟩);have q18 : ((ji15) : Int) ≤ ((l2.length : Int) : Int):=of_decide_eq_true (by first|(with_reducible assumption)|assumption);obtain ⟨i018,hi018,_,hsz18,_⟩:=info_parts info2;have hroom18 : l2.length ≤ c2:=HC2.out;have hC18 : Kd.C (Kd.int .i64) _ A2 l2.length l2:=HR2.out;have hcut18:=cut_to (P:=Try.prog) 27 2 .i64 Try.underlying27 hi018 A2 l2.length c2 (ji15) (of_decide_eq_true (by first|(with_reducible assumption)|assumption)) q18 hroom18;have hr18:=Kd.C_take (m:=((ji15) : Int).toNat) hC18 (by omega);have hy18 : y458.length = ((ji15) : Int).toNat:=(by rw [Ny458.out,List.length_take];omega);rw [← Ny458.out] at hr18;rw [← hy18] at hcut18;have HR461:=ak_ hr18;have HC461:=ak_ (show y458.length ≤ c2 from by omega);clear hr18 hC18 hroom18 hi018 hsz18;have KY18:=ak_ hy18;clear hy18;replace q18:=eq_true q18))
        repeat (go_quiet (first|(go_at_call 17;(with_reducible refine (madrigalref10_Parts.calls kj5 a0 a1 t456 t457 _ A13.out).mono ?_);rintro e w' ⟨rfl,⟨nd,rfl⟩⟩;(try first|exact ⟨rfl,_,World.drewN_drewN _ _ _⟩|exact ⟨rfl,_,Eq.trans (World.drewN_drewN _ _ _) (congrArg (World.drewN _) (Nat.add_assoc _ _ _))⟩);have q18 : ((ji15) : Int) ≤ ((l2.length : Int) : Int):=of_decide_eq_true (by first|(with_reducible assumption)|assumption);obtain ⟨i018,hi018,_,hsz18,_⟩:=info_parts info2;have hroom18 : l2.length ≤ c2:=HC2.out;have hC18 : Kd.C (Kd.int .i64) _ A2 l2.length l2:=HR2.out;have hcut18:=cut_to (P:=Try.prog) 27 2 .i64 Try.underlying27 hi018 A2 l2.length c2 (ji15) (of_decide_eq_true (by first|(with_reducible assumption)|assumption)) q18 hroom18;have hr18:=Kd.C_take (m:=((ji15) : Int).toNat) hC18 (by omega);have hy18 : y458.length = ((ji15) : Int).toNat:=(by rw [Ny458.out,List.length_take];omega);rw [← Ny458.out] at hr18;rw [← hy18] at hcut18;have HR461:=ak_ hr18;have HC461:=ak_ (show y458.length ≤ c2 from by omega);clear hr18 hC18 hroom18 hi018 hsz18;have KY18:=ak_ hy18;clear hy18;replace q18:=eq_true q18));try go_wp2_with (first|(go_at_call 17;(with_reducible refine (madrigalref10_Parts.calls kj5 a0 a1 t456 t457 _ A13.out).mono ?_);rintro e w' ⟨rfl,⟨nd,rfl⟩⟩;(try first|exact ⟨rfl,_,World.drewN_drewN _ _ _⟩|exact ⟨rfl,_,Eq.trans (World.drewN_drewN _ _ _) (congrArg (World.drewN _) (Nat.add_assoc _ _ _))⟩);have q18 : ((ji15) : Int) ≤ ((l2.length : Int) : Int):=of_decide_eq_true (by first|(with_reducible assumption)|assumption);obtain ⟨i018,hi018,_,hsz18,_⟩:=info_parts info2;have hroom18 : l2.length ≤ c2:=HC2.out;have hC18 : Kd.C (Kd.int .i64) _ A2 l2.length l2:=HR2.out;have hcut18:=cut_to (P:=Try.prog) 27 2 .i64 Try.underlying27 hi018 A2 l2.length c2 (ji15) (of_decide_eq_true (by first|(with_reducible assumption)|assumption)) q18 hroom18;have hr18:=Kd.C_take (m:=((ji15) : Int).toNat) hC18 (by omega);have hy18 : y458.length = ((ji15) : Int).toNat:=(by rw [Ny458.out,List.length_take];omega);rw [← Ny458.out] at hr18;rw [← hy18] at hcut18;have HR461:=ak_ hr18;have HC461:=ak_ (show y458.length ≤ c2 from by omega);clear hr18 hC18 hroom18 hi018 hsz18;have KY18:=ak_ hy18;clear hy18;replace q18:=eq_true q18)))
        go_loopg [9,10] kj5 (fun kq v9 v10 w' => ∃ (x9_2 : List Int) (x10_2 : Int),v10 = .int .i64 x10_2 ∧ Aside0 (madrigallaw22_ResampSilence.l0 kq a0 a1 y458 x9_2 x10_2 = some r) ∧ Aside0 (kq ≤ kj5) ∧ Aside0 (Kd.R (Kd.int .i64) 2 w' w.heap.size (fun _ => True) v9 x9_2) ∧ Aside0 (Below w.heap.size w w'))
        case atStart => exact ⟨(([] : List Int)),(0),(by first|rfl|(simp;done)|(simp [*];done)),H',⟨Nat.le_refl _⟩,⟨by first|exact Kd.R_nil _ _ _ _ _|exact Kd.N_nil _ _ _ _ _|exact Kd.V_nil _ _ _ _ _|exact Kd.Q_nil _ _ _ _ _|exact Kd.S_nil _ _ _ _ _⟩,⟨by repeat (first|(with_reducible first|exact HB.out|apply ba_|apply bb_|apply bc_)|exact HB.out)⟩⟩
        case round => as_aux_lemma =>
         clear H'
         try clear c1
         try clear q1
         try clear c2
         try clear p2
         try clear c5
         try clear p6
         try clear c8
         try clear c9
         try clear c11
         try clear c12
         try clear c14
         try clear c14b0
         try clear c14b1
         try clear c16
         try clear c16b0
         try clear c16b1
         try clear c17
         try clear c17b0
         try clear c17b1
         try clear q18
         try clear p2
         try clear q18
         obtain ⟨x9_2,x10_2,rfl,HA,HK2,HO_9,HB⟩:=hrel
         (try simp only [i64_w,i32_w])
         cases gk with
         | zero => exact absurd HA.out (by simp [madrigallaw22_ResampSilence.l0])
         | succ k2 =>
          have H:=HA.out
          clear HA
          simp only [madrigallaw22_ResampSilence.l0] at H
          by_cases c19 : x10_2 < (y458.length : Int)
          ·rw [if_pos c19] at H
           have c19b0:=decide_eq_true c19
           clear c19
           by_cases c20 : 0 ≤ x10_2
           ·rw [if_pos c20] at H
            have c20b0:=decide_eq_true c20
            clear c20
            by_cases c21 : (rd y458 x10_2) > 30000
            ·rw [if_pos c21] at H
             have c21b0 : decide (30000 < (rd y458 x10_2)) = true:=decide_eq_true c21
             clear c21
             obtain rfl:=Option.some.inj H
             have p462 : 0 ≤ (x10_2 : Int):=of_decide_eq_true (by first|(with_reducible assumption)|assumption)
             have q462 : x10_2 < (y458.length : Int):=of_decide_eq_true (by first|(with_reducible assumption)|assumption)
             obtain ⟨ad462,e462,hx462_0⟩:=Kd.at_int HR461.out x10_2 p462 q462
             cases e462
             replace hx462_0:=(HB.out.cell (World.block_lt_of_cell? w _ hx462_0)).trans hx462_0
             replace p462:=eq_true p462
             replace q462:=eq_true q462
             go_wp2
             repeat (go_quiet (fail);try go_wp2)
             go_ret
             exact ⟨by first|rfl|(simp [errW_none,errW_some] <;> rfl)|(simp only [← hji15];first|rfl|(simp [errW_none,errW_some] <;> rfl))|(simp [*,errW_none,errW_some] <;> rfl),by repeat (first|(with_reducible first|exact HB.out|apply ba_|apply bb_|apply bc_)|exact HB.out)⟩
            ·rw [if_neg c21] at H
             have c21b0 : decide (30000 < (rd y458 x10_2)) = false:=decide_eq_false c21
             clear c21
             by_cases c22 : (rd y458 x10_2) < (-30000)
             ·rw [if_pos c22] at H
              have c22b0:=decide_eq_true c22
              clear c22
              obtain rfl:=Option.some.inj H
              have p462 : 0 ≤ (x10_2 : Int):=of_decide_eq_true (by first|(with_reducible assumption)|assumption)
              have q462 : x10_2 < (y458.length : Int):=of_decide_eq_true (by first|(with_reducible assumption)|assumption)
              obtain ⟨ad462,e462,hx462_0⟩:=Kd.at_int HR461.out x10_2 p462 q462
              cases e462
              replace hx462_0:=(HB.out.cell (World.block_lt_of_cell? w _ hx462_0)).trans hx462_0
              replace p462:=eq_true p462
              replace q462:=eq_true q462
              have p463 : 0 ≤ (x10_2 : Int):=of_decide_eq_true (by first|(with_reducible assumption)|assumption)
              have q463 : x10_2 < (y458.length : Int):=of_decide_eq_true (by first|(with_reducible assumption)|assumption)
              obtain ⟨ad463,e463,hx463_0⟩:=Kd.at_int HR461.out x10_2 p463 q463
              obtain rfl : ad462 = ad463:=(by injection e463)
              replace hx463_0:=(HB.out.cell (World.block_lt_of_cell? w _ hx463_0)).trans hx463_0
              replace p463:=eq_true p463
              replace q463:=eq_true q463
              go_wp2
              repeat (go_quiet (fail);try go_wp2)
              go_ret
              exact ⟨by first|rfl|(simp [errW_none,errW_some] <;> rfl)|(simp only [← hji15];first|rfl|(simp [errW_none,errW_some] <;> rfl))|(simp [*,errW_none,errW_some] <;> rfl),by repeat (first|(with_reducible first|exact HB.out|apply ba_|apply bb_|apply bc_)|exact HB.out)⟩
             ·rw [if_neg c22] at H
              have c22b0:=decide_eq_false c22
              clear c22
              by_cases c23 : x9_2.length < 17592186044416
              ·rw [if_pos c23] at H
               have LMc23:=ak_ c23
               clear c23
               obtain ⟨y465,hy465⟩ : ∃ y_ : List Int,y_ = (x9_2 ++ [wrap64 (-(rd y458 x10_2))]):=⟨_,rfl⟩
               replace H : (madrigallaw22_ResampSilence.l0 k2 a0 a1 y458 y465 (wrap64 (x10_2 + 1))) = some r:=by first|(rw [hy465];with_reducible exact H)|(have H2_:=(Option.bind_some _ _).symm.trans H;rw [hy465];with_reducible exact H2_)|(have H2_:=(Option.bind_some _ _).symm.trans H;with_reducible exact H2_)|with_reducible exact H|(rw [hy465];exact H)|exact H
               have Ny465:=ak_ hy465
               clear hy465
               have H':=ak_ H
               clear H
               have p462 : 0 ≤ (x10_2 : Int):=of_decide_eq_true (by first|(with_reducible assumption)|assumption)
               have q462 : x10_2 < (y458.length : Int):=of_decide_eq_true (by first|(with_reducible assumption)|assumption)
               obtain ⟨ad462,e462,hx462_0⟩:=Kd.at_int HR461.out x10_2 p462 q462
               cases e462
               replace hx462_0:=(HB.out.cell (World.block_lt_of_cell? w _ hx462_0)).trans hx462_0
               replace p462:=eq_true p462
               replace q462:=eq_true q462
               have p463 : 0 ≤ (x10_2 : Int):=of_decide_eq_true (by first|(with_reducible assumption)|assumption)
               have q463 : x10_2 < (y458.length : Int):=of_decide_eq_true (by first|(with_reducible assumption)|assumption)
               obtain ⟨ad463,e463,hx463_0⟩:=Kd.at_int HR461.out x10_2 p463 q463
               obtain rfl : ad462 = ad463:=(by injection e463)
               replace hx463_0:=(HB.out.cell (World.block_lt_of_cell? w _ hx463_0)).trans hx463_0
               replace p463:=eq_true p463
               replace q463:=eq_true q463
               have p464 : 0 ≤ (x10_2 : Int):=of_decide_eq_true (by first|(with_reducible assumption)|assumption)
               have q464 : x10_2 < (y458.length : Int):=of_decide_eq_true (by first|(with_reducible assumption)|assumption)
               obtain ⟨ad464,e464,hx464_0⟩:=Kd.at_int HR461.out x10_2 p464 q464
               obtain rfl : ad462 = ad464:=(by injection e464)
               replace hx464_0:=(HB.out.cell (World.block_lt_of_cell? w _ hx464_0)).trans hx464_0
               replace p464:=eq_true p464
               replace q464:=eq_true q464
               go_wp2_with (first|((with_reducible refine gate_builtin (b:=.append) (xs:=#[.tmp 72,.tmp 78]) rfl ?_);(try (refine gate_guard (by rfl) ?_;dsimp only));at_builtin;refine Kd.R_append (Kd.int .i64) (w0:=w) w.heap.size rfl (.tmp 72) (.tmp 78) 27 2 (.int .i64 0) 8 rfl Try.underlying27 info2 rfl (by decide) (by omega) u9 x9_2 (wrap64 (-(rd y458 x10_2))) [.int .i64 (wrap64 (-(rd y458 x10_2)))] (fun _ => True) (fun _ => False) rfl rfl ?aP (fun _ hk => hk.elim) ?aF ?aO ?aB ?aS ?aL ?_;(case aP => exact rfl);(case aB => exact (by repeat (first|(with_reducible first|exact HB.out|apply ba_|apply bb_|apply bc_)|exact HB.out)));(case aF => exact (fun _ _ => trivial));(case aO => exact (by (with_reducible repeat (first|apply ra_|apply rb_|apply rc_));exact HO_9.out));(case aS => exact (below_size (by repeat (first|(with_reducible first|exact HB.out|apply ba_|apply bb_|apply bc_)|exact HB.out))));(case aL => have:=LMc23.out;omega);intro v466 w24 ho hb hg hat;rw [← Ny465.out] at ho;have n0_:=ak_ (hb);have n1_:=ak_ (ho);clear HB;clear HO_9;have HB:=n0_;have HO467:=n1_;clear n0_ n1_;clear ho hb hg hat))
               repeat (go_quiet (first|((with_reducible refine gate_builtin (b:=.append) (xs:=#[.tmp 72,.tmp 78]) rfl ?_);(try (refine gate_guard (by rfl) ?_;dsimp only));at_builtin;refine Kd.R_append (Kd.int .i64) (w0:=w) w.heap.size rfl (.tmp 72) (.tmp 78) 27 2 (.int .i64 0) 8 rfl Try.underlying27 info2 rfl (by decide) (by omega) u9 x9_2 (wrap64 (-(rd y458 x10_2))) [.int .i64 (wrap64 (-(rd y458 x10_2)))] (fun _ => True) (fun _ => False) rfl rfl ?aP (fun _ hk => hk.elim) ?aF ?aO ?aB ?aS ?aL ?_;(case aP => exact rfl);(case aB => exact (by repeat (first|(with_reducible first|exact HB.out|apply ba_|apply bb_|apply bc_)|exact HB.out)));(case aF => exact (fun _ _ => trivial));(case aO => exact (by (with_reducible repeat (first|apply ra_|apply rb_|apply rc_));exact HO_9.out));(case aS => exact (below_size (by repeat (first|(with_reducible first|exact HB.out|apply ba_|apply bb_|apply bc_)|exact HB.out))));(case aL => have:=LMc23.out;omega);intro v466 w24 ho hb hg hat;rw [← Ny465.out] at ho;have n0_:=ak_ (hb);have n1_:=ak_ (ho);clear HB;clear HO_9;have HB:=n0_;have HO467:=n1_;clear n0_ n1_;clear ho hb hg hat));try go_wp2_with (first|((with_reducible refine gate_builtin (b:=.append) (xs:=#[.tmp 72,.tmp 78]) rfl ?_);(try (refine gate_guard (by rfl) ?_;dsimp only));at_builtin;refine Kd.R_append (Kd.int .i64) (w0:=w) w.heap.size rfl (.tmp 72) (.tmp 78) 27 2 (.int .i64 0) 8 rfl Try.underlying27 info2 rfl (by decide) (by omega) u9 x9_2 (wrap64 (-(rd y458 x10_2))) [.int .i64 (wrap64 (-(rd y458 x10_2)))] (fun _ => True) (fun _ => False) rfl rfl ?aP (fun _ hk => hk.elim) ?aF ?aO ?aB ?aS ?aL ?_;(case aP => exact rfl);(case aB => exact (by repeat (first|(with_reducible first|exact HB.out|apply ba_|apply bb_|apply bc_)|exact HB.out)));(case aF => exact (fun _ _ => trivial));(case aO => exact (by (with_reducible repeat (first|apply ra_|apply rb_|apply rc_));exact HO_9.out));(case aS => exact (below_size (by repeat (first|(with_reducible first|exact HB.out|apply ba_|apply bb_|apply bc_)|exact HB.out))));(case aL => have:=LMc23.out;omega);intro v466 w24 ho hb hg hat;rw [← Ny465.out] at ho;have n0_:=ak_ (hb);have n1_:=ak_ (ho);clear HB;clear HO_9;have HB:=n0_;have HO467:=n1_;clear n0_ n1_;clear ho hb hg hat)))
               go_roundg k2
               case measure => have:=HJ5.out;have:=HK2.out;omega
               case rel => exact ⟨(y465),(wrap64 (x10_2 + 1)),(by first|rfl|(simp;done)|(simp [*];done)),H',⟨by have:=HJ5.out;have:=HK2.out;omega⟩,⟨by (with_reducible repeat (first|apply ra_|apply rb_|apply rc_));exact HO467.out⟩,⟨by repeat (first|(with_reducible first|exact HB.out|apply ba_|apply bb_|apply bc_)|exact HB.out)⟩⟩
              ·rw [if_neg c23] at H
               exact absurd H (by simp)
           ·rw [if_neg c20] at H
            exact absurd H (by simp)
          ·rw [if_neg c19] at H
           have c19b0:=decide_eq_false c19
           clear c19
           by_cases c25 : resamp_Good.f a0 a1 = some true
           ·rw [if_pos c25] at H
            have c25b0 : (resamp_Good.f a0 a1 == some true) = true:=beq_iff_eq.mpr c25
            have c25b1 : (resamp_Good.f a0 a1 != some true) = false:=bne_eq_false_iff_eq.mpr c25
            clear c25
            replace H:=Option.bind_eq_some_iff.mp H
            obtain ⟨⟨t468,t469,t470,t472⟩,A260,H⟩:=H
            (try dsimp only at H)
            have A26:=ak_ A260
            clear A260
            replace H:=Option.bind_eq_some_iff.mp H
            obtain ⟨⟨t473,t474,t475,t477⟩,A270,H⟩:=H
            (try dsimp only at H)
            have A27:=ak_ A270
            clear A270
            replace H:=Option.bind_eq_some_iff.mp H
            obtain ⟨⟨t478,t479,t480,t482⟩,A280,H⟩:=H
            (try dsimp only at H)
            have A28:=ak_ A280
            clear A280
            replace H:=Option.bind_eq_some_iff.mp H
            obtain ⟨⟨t483,t486,t487,t488,t489⟩,A290,H⟩:=H
            (try dsimp only at H)
            have A29:=ak_ A290
            clear A290
            replace H:=Option.bind_eq_some_iff.mp H
            obtain ⟨⟨t490,t493,t494,t495,t496⟩,A300,H⟩:=H
            (try dsimp only at H)
            have A30:=ak_ A300
            clear A300
            by_cases c31 : 0 ≤ (y458.length : Int)
            ·rw [if_pos c31] at H
             have c31b0:=eq_true c31
             have c31b1 : decide (0 ≤ (y458.length : Int)) = true:=decide_eq_true c31
             clear c31
             by_cases c32 : ((y458.length : Int) : Int).toNat ≤ 35184372088832
             ·rw [if_pos c32] at H
              have c32b0:=eq_true c32
              have c32b1 : decide (((y458.length : Int) : Int).toNat ≤ 35184372088832) = true:=decide_eq_true c32
              clear c32
              obtain ⟨y497,hy497⟩ : ∃ y_ : List Int,y_ = (List.replicate ((y458.length : Int) : Int).toNat 0):=⟨_,rfl⟩
              replace H : ((resamp_Sampler_Run.f k2 t478 t479 t480 y497).bind fun bt500 => (if (t483.length : Int) = (t490.length : Int) then (if 0 ≤ (t483.length : Int) then (if ((t483.length : Int) : Int).toNat ≤ 35184372088832 then ((madrigallaw22_same.f k2 bt500.1 (List.replicate ((t483.length : Int) : Int).toNat 0)).bind fun t510 => (madrigallaw22_ResampSilence.j2 k2 t483 t490 (!t510))) else (none)) else (none)) else (madrigallaw22_ResampSilence.j2 k2 t483 t490 true))) = some r:=by first|(rw [hy497];with_reducible exact H)|(have H2_:=(Option.bind_some _ _).symm.trans H;rw [hy497];with_reducible exact H2_)|(have H2_:=(Option.bind_some _ _).symm.trans H;with_reducible exact H2_)|with_reducible exact H|(rw [hy497];exact H)|exact H
              have Ny497:=ak_ hy497
              clear hy497
              replace H:=Option.bind_eq_some_iff.mp H
              obtain ⟨⟨t500,t503,t504,t505,t506⟩,A330,H⟩:=H
              (try dsimp only at H)
              have A33:=ak_ A330
              clear A330
              have HC34:=ak_ H
              clear H
              go_upto_region 22 with (first|((with_reducible refine gate_callee (f:=12) rfl ?_);refine goesL_ (some 83) rfl rfl Try.func12 (by kernel_rfl) rfl #[.int .i64 a0,.int .i64 a1] rfl (by (try simp only [List.map_toArray,List.map_cons,List.map_nil]);first|done|rfl|(simp only [List.length_drop,List.length_take];rfl)) ?_;(with_reducible refine (resamp_New1.calls a0 a1 t468 t469 t470 t472 w _ ?side1 A26.out).mono ?_);(case side1 => repeat (first|(with_reducible first|exact HB.out|apply ba_|apply bb_|apply bc_)|exact HB.out));rintro e w35 ⟨g471,rfl,hi,hb,hb2,hge⟩;refine ⟨_,rfl,?_⟩;have n0_:=ak_ (Kd.R_below (by (with_reducible repeat (first|apply ra_|apply rb_|apply rc_));exact HO_9.out) hb2);have n1_:=ak_ (hb);have n2_:=ak_ (hi);clear HO_9;clear HB;have HO_9:=n0_;have HB:=n1_;have HI471:=n2_;clear n0_ n1_ n2_;(try clear hb);(try clear hb2);(try clear hi);(try clear hge))|((with_reducible refine gate_callee (f:=12) rfl ?_);refine goesL_ (some 89) rfl rfl Try.func12 (by kernel_rfl) rfl #[.int .i64 a0,.int .i64 a1] rfl (by (try simp only [List.map_toArray,List.map_cons,List.map_nil]);first|done|rfl|(simp only [List.length_drop,List.length_take];rfl)) ?_;(with_reducible refine (resamp_New1.calls a0 a1 t473 t474 t475 t477 w _ ?side1 A27.out).mono ?_);(case side1 => repeat (first|(with_reducible first|exact HB.out|apply ba_|apply bb_|apply bc_|refine below_set ?_ (IsS53.ge HI471.out))|exact HB.out));rintro e w36 ⟨g476,rfl,hi,hb,hb2,hge⟩;refine ⟨_,rfl,?_⟩;have n0_:=ak_ (Kd.R_below (by (with_reducible repeat (first|apply ra_|apply rb_|apply rc_));exact HO_9.out) hb2);have n1_:=ak_ (IsS53.below (by repeat (first|(with_reducible first|exact HI471.out|apply IsS53.alloc|apply IsS53.drewN|apply IsS53.drew)|exact HI471.out)) hb2);have n2_:=ak_ (Nat.ne_of_gt (Nat.lt_of_lt_of_le (IsS53.lt (show IsS53 w _ g471 t468 t469 t470 from by repeat (first|(with_reducible first|exact HI471.out|apply IsS53.alloc|apply IsS53.drewN|apply IsS53.drew)|exact HI471.out))) hge));have n3_:=ak_ (hb);have n4_:=ak_ (hi);clear HO_9;clear HI471;clear HB;have HO_9:=n0_;have HI471:=n1_;have NS476_471:=n2_;have HB:=n3_;have HI476:=n4_;clear n0_ n1_ n2_ n3_ n4_;(try clear hb);(try clear hb2);(try clear hi);(try clear hge))|((with_reducible refine gate_callee (f:=12) rfl ?_);refine goesL_ (some 95) rfl rfl Try.func12 (by kernel_rfl) rfl #[.int .i64 a0,.int .i64 a1] rfl (by (try simp only [List.map_toArray,List.map_cons,List.map_nil]);first|done|rfl|(simp only [List.length_drop,List.length_take];rfl)) ?_;(with_reducible refine (resamp_New1.calls a0 a1 t478 t479 t480 t482 w _ ?side1 A28.out).mono ?_);(case side1 => repeat (first|(with_reducible first|exact HB.out|apply ba_|apply bb_|apply bc_|refine below_set ?_ (IsS53.ge HI471.out)|refine below_set ?_ (IsS53.ge HI476.out))|exact HB.out));rintro e w37 ⟨g481,rfl,hi,hb,hb2,hge⟩;refine ⟨_,rfl,?_⟩;have n0_:=ak_ (Kd.R_below (by (with_reducible repeat (first|apply ra_|apply rb_|apply rc_));exact HO_9.out) hb2);have n1_:=ak_ (IsS53.below (by repeat (first|(with_reducible first|exact HI471.out|apply IsS53.alloc|apply IsS53.drewN|apply IsS53.drew)|exact HI471.out)) hb2);have n2_:=ak_ (IsS53.below (by repeat (first|(with_reducible first|exact HI476.out|apply IsS53.alloc|apply IsS53.drewN|apply IsS53.drew)|exact HI476.out)) hb2);have n3_:=ak_ (Nat.ne_of_gt (Nat.lt_of_lt_of_le (IsS53.lt (show IsS53 w _ g471 t468 t469 t470 from by repeat (first|(with_reducible first|exact HI471.out|apply IsS53.alloc|apply IsS53.drewN|apply IsS53.drew)|exact HI471.out))) hge));have n4_:=ak_ (Nat.ne_of_gt (Nat.lt_of_lt_of_le (IsS53.lt (show IsS53 w _ g476 t473 t474 t475 from by repeat (first|(with_reducible first|exact HI476.out|apply IsS53.alloc|apply IsS53.drewN|apply IsS53.drew)|exact HI476.out))) hge));have n5_:=ak_ (hb);have n6_:=ak_ (hi);clear HO_9;clear HI471;clear HI476;clear HB;have HO_9:=n0_;have HI471:=n1_;have HI476:=n2_;have NS481_471:=n3_;have NS481_476:=n4_;have HB:=n5_;have HI481:=n6_;clear n0_ n1_ n2_ n3_ n4_ n5_ n6_;(try clear hb);(try clear hb2);(try clear hi);(try clear hge))|(go_at_call 13;(with_reducible refine (resamp_Sampler_Run.calls k2 g471 t468 t469 t470 _ _ y458 t483 t486 t487 t488 t489 w _ ?side1 ?side2 ?side3 ?side4 ?side5 A29.out).mono ?_);(case side1 => repeat (first|(with_reducible first|exact HI471.out|apply IsS53.alloc|apply IsS53.drewN|apply IsS53.drew)|exact HI471.out));(case side2 => repeat (first|(with_reducible first|exact HB.out|apply ba_|apply bb_|apply bc_|refine below_set ?_ (IsS53.ge HI471.out)|refine below_set ?_ (IsS53.ge HI476.out)|refine below_set ?_ (IsS53.ge HI481.out))|exact HB.out));(case side3 => repeat (first|exact (Kd.C_below HR461.out HB.out)|(with_reducible refine Kd.C_alloc ?_ _)|(with_reducible refine Kd.C_drewN ?_ _)|(with_reducible refine Kd.C_drew ?_)));(case side4 => exact HC461.out);(case side5 => exact Kd.far_C 0 HR461.out (IsS53.ge HI471.out));rintro e w38 ⟨v484,rfl,ho0,hi,hb,hk⟩;have n0_:=ak_ (Kd.R_mono (Kd.R_told (Kd.R_oldK (IsS53.apart (show IsS53 w _ g471 t468 t469 t470 from by repeat (first|(with_reducible first|exact HI471.out|apply IsS53.alloc|apply IsS53.drewN|apply IsS53.drew)|exact HI471.out)) (by (with_reducible repeat (first|apply ra_|apply rb_|apply rc_));exact HO_9.out) (by decide)) hk) (Kd.R_base ho0)) (fun _ h_ => h_.1));have n1_:=ak_ (IsS53.keepB (show IsS53 w _ g476 t473 t474 t475 from by repeat (first|(with_reducible first|exact HI476.out|apply IsS53.alloc|apply IsS53.drewN|apply IsS53.drew)|exact HI476.out)) hk NS476_471.out);have n2_:=ak_ (IsS53.keepB (show IsS53 w _ g481 t478 t479 t480 from by repeat (first|(with_reducible first|exact HI481.out|apply IsS53.alloc|apply IsS53.drewN|apply IsS53.drew)|exact HI481.out)) hk NS481_471.out);have n3_:=ak_ (Kd.R_lower (Kd.R_new' ho0 (Kd.R_lt (by (with_reducible repeat (first|apply ra_|apply rb_|apply rc_));exact HO_9.out))) (below_size (by repeat (first|(with_reducible first|exact HB.out|apply ba_|apply bb_|apply bc_|refine below_set ?_ (IsS53.ge HI471.out)|refine below_set ?_ (IsS53.ge HI476.out)|refine below_set ?_ (IsS53.ge HI481.out))|exact HB.out))));have n4_:=ak_ (hb);have n5_:=ak_ (hi);clear HO_9;clear HI476;clear HI481;clear HB;clear HI471;have HO_9:=n0_;have HI476:=n1_;have HI481:=n2_;have HO485:=n3_;have HB:=n4_;have HI471:=n5_;clear n0_ n1_ n2_ n3_ n4_ n5_;(try clear hb);(try clear hk);(try clear hi);(try clear ho0);obtain ⟨Ao39,co39,eo39⟩:=Kd.R_slice HO_9.out;subst eo39)|(go_at_call 13;(with_reducible refine (resamp_Sampler_Run.calls k2 g476 t473 t474 t475 _ _ x9_2 t490 t493 t494 t495 t496 w _ ?side1 ?side2 ?side3 ?side4 ?side5 A30.out).mono ?_);(case side1 => repeat (first|(with_reducible first|exact HI476.out|apply IsS53.alloc|apply IsS53.drewN|apply IsS53.drew)|exact HI476.out));(case side2 => repeat (first|(with_reducible first|exact HB.out|apply ba_|apply bb_|apply bc_|refine below_set ?_ (IsS53.ge HI471.out)|refine below_set ?_ (IsS53.ge HI476.out)|refine below_set ?_ (IsS53.ge HI481.out))|exact HB.out));(case side3 => repeat (first|exact (Kd.R_reads' HO_9.out).2.2|(with_reducible refine Kd.C_alloc ?_ _)|(with_reducible refine Kd.C_drewN ?_ _)|(with_reducible refine Kd.C_drew ?_)));(case side4 => exact (Kd.R_reads' HO_9.out).2.1);(case side5 => exact far_slice (IsS53.own_ne HI476.out HO_9.out (by decide)));rintro e w40 ⟨v491,rfl,ho0,hi,hb,hk⟩;have n0_:=ak_ (Kd.R_mono (Kd.R_told (Kd.R_oldK (IsS53.apart (show IsS53 w _ g476 t473 t474 t475 from by repeat (first|(with_reducible first|exact HI476.out|apply IsS53.alloc|apply IsS53.drewN|apply IsS53.drew)|exact HI476.out)) (by (with_reducible repeat (first|apply ra_|apply rb_|apply rc_));exact HO_9.out) (by decide)) hk) (Kd.R_base ho0)) (fun _ h_ => h_.1));have n1_:=ak_ (IsS53.keepB (show IsS53 w _ g471 t487 t488 t489 from by repeat (first|(with_reducible first|exact HI471.out|apply IsS53.alloc|apply IsS53.drewN|apply IsS53.drew)|exact HI471.out)) hk (Ne.symm NS476_471.out));have n2_:=ak_ (IsS53.keepB (show IsS53 w _ g481 t478 t479 t480 from by repeat (first|(with_reducible first|exact HI481.out|apply IsS53.alloc|apply IsS53.drewN|apply IsS53.drew)|exact HI481.out)) hk NS481_476.out);have n3_:=ak_ (Kd.R_mono (Kd.R_told (Kd.R_oldK (IsS53.apart (show IsS53 w _ g476 t473 t474 t475 from by repeat (first|(with_reducible first|exact HI476.out|apply IsS53.alloc|apply IsS53.drewN|apply IsS53.drew)|exact HI476.out)) (by (with_reducible repeat (first|apply ra_|apply rb_|apply rc_));exact HO485.out) (by decide)) hk) (Kd.R_base ho0)) (fun _ h_ => h_.1));have n4_:=ak_ (Kd.R_lower (Kd.R_new' (Kd.R_new' ho0 (Kd.R_lt (by (with_reducible repeat (first|apply ra_|apply rb_|apply rc_));exact HO_9.out))) (Kd.R_lt (by (with_reducible repeat (first|apply ra_|apply rb_|apply rc_));exact HO485.out))) (below_size (by repeat (first|(with_reducible first|exact HB.out|apply ba_|apply bb_|apply bc_|refine below_set ?_ (IsS53.ge HI471.out)|refine below_set ?_ (IsS53.ge HI476.out)|refine below_set ?_ (IsS53.ge HI481.out))|exact HB.out))));have n5_:=ak_ (hb);have n6_:=ak_ (hi);clear HO_9;clear HI471;clear HI481;clear HO485;clear HB;clear HI476;have HO_9:=n0_;have HI471:=n1_;have HI481:=n2_;have HO485:=n3_;have HO492:=n4_;have HB:=n5_;have HI476:=n6_;clear n0_ n1_ n2_ n3_ n4_ n5_ n6_;(try clear hb);(try clear hk);(try clear hi);(try clear ho0))|((with_reducible refine gate_dst (N:=124) rfl ?_);(try (refine gate_guard (by rfl) ?_;dsimp only));refine Kd.R_make (Kd.int .i64) _ 2 rfl (N:=124) rfl 27 _ _ rfl (y458.length : Int) rfl rfl Try.underlying27 (.int .i64 0) 8 info2 rfl (by decide) (by omega) 0 (ok:=fun _ => True) (okp:=fun _ => True) rfl (fun _ hk => hk) trivial (of_decide_eq_true (by first|(with_reducible assumption)|assumption)) (Nat.le_trans (Nat.mul_le_mul_right _ (of_decide_eq_true (by first|(with_reducible assumption)|assumption) : (y458.length : Int).toNat ≤ 35184372088832)) (by omega)) (Below.refl _ _) (Nat.le_refl _) ?_;intro v498 w41 ho42 hb hg_ hnew_;clear hg_ hnew_;(first|rw [← Ny497.out] at ho42|(simp only [Int.reduceToNat] at ho42;rw [← Ny497.out] at ho42));have n0_:=ak_ (Kd.R_elder' (by (with_reducible repeat (first|apply ra_|apply rb_|apply rc_));exact HO_9.out) (Kd.R_base ho42) hb);have n1_:=ak_ (Kd.R_elder' (by (with_reducible repeat (first|apply ra_|apply rb_|apply rc_));exact HO485.out) (Kd.R_base ho42) hb);have n2_:=ak_ (Kd.R_elder' (by (with_reducible repeat (first|apply ra_|apply rb_|apply rc_));exact HO492.out) (Kd.R_base ho42) hb);have n3_:=ak_ (Kd.R_lower (Kd.R_new' (Kd.R_new' (Kd.R_new' ho42 (Kd.R_lt (by (with_reducible repeat (first|apply ra_|apply rb_|apply rc_));exact HO_9.out))) (Kd.R_lt (by (with_reducible repeat (first|apply ra_|apply rb_|apply rc_));exact HO485.out))) (Kd.R_lt (by (with_reducible repeat (first|apply ra_|apply rb_|apply rc_));exact HO492.out))) (below_size (by repeat (first|(with_reducible first|exact HB.out|apply ba_|apply bb_|apply bc_|refine below_set ?_ (IsS53.ge HI471.out)|refine below_set ?_ (IsS53.ge HI476.out)|refine below_set ?_ (IsS53.ge HI481.out))|exact HB.out))));have n4_:=ak_ (IsS53.below (by repeat (first|(with_reducible first|exact HI471.out|apply IsS53.alloc|apply IsS53.drewN|apply IsS53.drew)|exact HI471.out)) hb);have n5_:=ak_ (IsS53.below (by repeat (first|(with_reducible first|exact HI476.out|apply IsS53.alloc|apply IsS53.drewN|apply IsS53.drew)|exact HI476.out)) hb);have n6_:=ak_ (IsS53.below (by repeat (first|(with_reducible first|exact HI481.out|apply IsS53.alloc|apply IsS53.drewN|apply IsS53.drew)|exact HI481.out)) hb);have n7_:=ak_ (below_step (by repeat (first|(with_reducible first|exact HB.out|apply ba_|apply bb_|apply bc_|refine below_set ?_ (IsS53.ge HI471.out)|refine below_set ?_ (IsS53.ge HI476.out)|refine below_set ?_ (IsS53.ge HI481.out))|exact HB.out)) hb);clear HO_9;clear HO485;clear HO492;clear HI471;clear HI476;clear HI481;clear HB;have HO_9:=n0_;have HO485:=n1_;have HO492:=n2_;have HO499:=n3_;have HI471:=n4_;have HI476:=n5_;have HI481:=n6_;have HB:=n7_;clear n0_ n1_ n2_ n3_ n4_ n5_ n6_ n7_;clear hb ho42;obtain ⟨Ao43,co43,eo43⟩:=Kd.R_slice HO499.out;subst eo43)|(go_at_call 13;(with_reducible refine (resamp_Sampler_Run.calls k2 g481 t478 t479 t480 _ _ y497 t500 t503 t504 t505 t506 w _ ?side1 ?side2 ?side3 ?side4 ?side5 A33.out).mono ?_);(case side1 => repeat (first|(with_reducible first|exact HI481.out|apply IsS53.alloc|apply IsS53.drewN|apply IsS53.drew)|exact HI481.out));(case side2 => repeat (first|(with_reducible first|exact HB.out|apply ba_|apply bb_|apply bc_|refine below_set ?_ (IsS53.ge HI471.out)|refine below_set ?_ (IsS53.ge HI476.out)|refine below_set ?_ (IsS53.ge HI481.out))|exact HB.out));(case side3 => repeat (first|exact (Kd.R_reads' HO499.out).2.2|(with_reducible refine Kd.C_alloc ?_ _)|(with_reducible refine Kd.C_drewN ?_ _)|(with_reducible refine Kd.C_drew ?_)));(case side4 => exact (Kd.R_reads' HO499.out).2.1);(case side5 => exact far_slice (IsS53.own_ne HI481.out HO499.out (by decide)));rintro e w44 ⟨v501,rfl,ho0,hi,hb,hk⟩;have n0_:=ak_ (Kd.R_mono (Kd.R_told (Kd.R_oldK (IsS53.apart (show IsS53 w _ g481 t478 t479 t480 from by repeat (first|(with_reducible first|exact HI481.out|apply IsS53.alloc|apply IsS53.drewN|apply IsS53.drew)|exact HI481.out)) (by (with_reducible repeat (first|apply ra_|apply rb_|apply rc_));exact HO_9.out) (by decide)) hk) (Kd.R_base ho0)) (fun _ h_ => h_.1));have n1_:=ak_ (IsS53.keepB (show IsS53 w _ g471 t487 t488 t489 from by repeat (first|(with_reducible first|exact HI471.out|apply IsS53.alloc|apply IsS53.drewN|apply IsS53.drew)|exact HI471.out)) hk (Ne.symm NS481_471.out));have n2_:=ak_ (IsS53.keepB (show IsS53 w _ g476 t494 t495 t496 from by repeat (first|(with_reducible first|exact HI476.out|apply IsS53.alloc|apply IsS53.drewN|apply IsS53.drew)|exact HI476.out)) hk (Ne.symm NS481_476.out));have n3_:=ak_ (Kd.R_mono (Kd.R_told (Kd.R_oldK (IsS53.apart (show IsS53 w _ g481 t478 t479 t480 from by repeat (first|(with_reducible first|exact HI481.out|apply IsS53.alloc|apply IsS53.drewN|apply IsS53.drew)|exact HI481.out)) (by (with_reducible repeat (first|apply ra_|apply rb_|apply rc_));exact HO485.out) (by decide)) hk) (Kd.R_base ho0)) (fun _ h_ => h_.1));have n4_:=ak_ (Kd.R_mono (Kd.R_told (Kd.R_oldK (IsS53.apart (show IsS53 w _ g481 t478 t479 t480 from by repeat (first|(with_reducible first|exact HI481.out|apply IsS53.alloc|apply IsS53.drewN|apply IsS53.drew)|exact HI481.out)) (by (with_reducible repeat (first|apply ra_|apply rb_|apply rc_));exact HO492.out) (by decide)) hk) (Kd.R_base ho0)) (fun _ h_ => h_.1));have n5_:=ak_ (Kd.R_mono (Kd.R_told (Kd.R_oldK (IsS53.apart (show IsS53 w _ g481 t478 t479 t480 from by repeat (first|(with_reducible first|exact HI481.out|apply IsS53.alloc|apply IsS53.drewN|apply IsS53.drew)|exact HI481.out)) (by (with_reducible repeat (first|apply ra_|apply rb_|apply rc_));exact HO499.out) (by decide)) hk) (Kd.R_base ho0)) (fun _ h_ => h_.1));have n6_:=ak_ (Kd.R_lower (Kd.R_new' (Kd.R_new' (Kd.R_new' (Kd.R_new' ho0 (Kd.R_lt (by (with_reducible repeat (first|apply ra_|apply rb_|apply rc_));exact HO_9.out))) (Kd.R_lt (by (with_reducible repeat (first|apply ra_|apply rb_|apply rc_));exact HO485.out))) (Kd.R_lt (by (with_reducible repeat (first|apply ra_|apply rb_|apply rc_));exact HO492.out))) (Kd.R_lt (by (with_reducible repeat (first|apply ra_|apply rb_|apply rc_));exact HO499.out))) (below_size (by repeat (first|(with_reducible first|exact HB.out|apply ba_|apply bb_|apply bc_|refine below_set ?_ (IsS53.ge HI471.out)|refine below_set ?_ (IsS53.ge HI476.out)|refine below_set ?_ (IsS53.ge HI481.out))|exact HB.out))));have n7_:=ak_ (hb);have n8_:=ak_ (hi);clear HO_9;clear HI471;clear HI476;clear HO485;clear HO492;clear HO499;clear HB;clear HI481;have HO_9:=n0_;have HI471:=n1_;have HI476:=n2_;have HO485:=n3_;have HO492:=n4_;have HO499:=n5_;have HO502:=n6_;have HB:=n7_;have HI481:=n8_;clear n0_ n1_ n2_ n3_ n4_ n5_ n6_ n7_ n8_;(try clear hb);(try clear hk);(try clear hi);(try clear ho0)))
              repeat (go_quiet (first|((with_reducible refine gate_callee (f:=12) rfl ?_);refine goesL_ (some 83) rfl rfl Try.func12 (by kernel_rfl) rfl #[.int .i64 a0,.int .i64 a1] rfl (by (try simp only [List.map_toArray,List.map_cons,List.map_nil]);first|done|rfl|(simp only [List.length_drop,List.length_take];rfl)) ?_;(with_reducible refine (resamp_New1.calls a0 a1 t468 t469 t470 t472 w _ ?side1 A26.out).mono ?_);(case side1 => repeat (first|(with_reducible first|exact HB.out|apply ba_|apply bb_|apply bc_)|exact HB.out));rintro e w35 ⟨g471,rfl,hi,hb,hb2,hge⟩;refine ⟨_,rfl,?_⟩;have n0_:=ak_ (Kd.R_below (by (with_reducible repeat (first|apply ra_|apply rb_|apply rc_));exact HO_9.out) hb2);have n1_:=ak_ (hb);have n2_:=ak_ (hi);clear HO_9;clear HB;have HO_9:=n0_;have HB:=n1_;have HI471:=n2_;clear n0_ n1_ n2_;(try clear hb);(try clear hb2);(try clear hi);(try clear hge))|((with_reducible refine gate_callee (f:=12) rfl ?_);refine goesL_ (some 89) rfl rfl Try.func12 (by kernel_rfl) rfl #[.int .i64 a0,.int .i64 a1] rfl (by (try simp only [List.map_toArray,List.map_cons,List.map_nil]);first|done|rfl|(simp only [List.length_drop,List.length_take];rfl)) ?_;(with_reducible refine (resamp_New1.calls a0 a1 t473 t474 t475 t477 w _ ?side1 A27.out).mono ?_);(case side1 => repeat (first|(with_reducible first|exact HB.out|apply ba_|apply bb_|apply bc_|refine below_set ?_ (IsS53.ge HI471.out))|exact HB.out));rintro e w36 ⟨g476,rfl,hi,hb,hb2,hge⟩;refine ⟨_,rfl,?_⟩;have n0_:=ak_ (Kd.R_below (by (with_reducible repeat (first|apply ra_|apply rb_|apply rc_));exact HO_9.out) hb2);have n1_:=ak_ (IsS53.below (by repeat (first|(with_reducible first|exact HI471.out|apply IsS53.alloc|apply IsS53.drewN|apply IsS53.drew)|exact HI471.out)) hb2);have n2_:=ak_ (Nat.ne_of_gt (Nat.lt_of_lt_of_le (IsS53.lt (show IsS53 w _ g471 t468 t469 t470 from by repeat (first|(with_reducible first|exact HI471.out|apply IsS53.alloc|apply IsS53.drewN|apply IsS53.drew)|exact HI471.out))) hge));have n3_:=ak_ (hb);have n4_:=ak_ (hi);clear HO_9;clear HI471;clear HB;have HO_9:=n0_;have HI471:=n1_;have NS476_471:=n2_;have HB:=n3_;have HI476:=n4_;clear n0_ n1_ n2_ n3_ n4_;(try clear hb);(try clear hb2);(try clear hi);(try clear hge))|((with_reducible refine gate_callee (f:=12) rfl ?_);refine goesL_ (some 95) rfl rfl Try.func12 (by kernel_rfl) rfl #[.int .i64 a0,.int .i64 a1] rfl (by (try simp only [List.map_toArray,List.map_cons,List.map_nil]);first|done|rfl|(simp only [List.length_drop,List.length_take];rfl)) ?_;(with_reducible refine (resamp_New1.calls a0 a1 t478 t479 t480 t482 w _ ?side1 A28.out).mono ?_);(case side1 => repeat (first|(with_reducible first|exact HB.out|apply ba_|apply bb_|apply bc_|refine below_set ?_ (IsS53.ge HI471.out)|refine below_set ?_ (IsS53.ge HI476.out))|exact HB.out));rintro e w37 ⟨g481,rfl,hi,hb,hb2,hge⟩;refine ⟨_,rfl,?_⟩;have n0_:=ak_ (Kd.R_below (by (with_reducible repeat (first|apply ra_|apply rb_|apply rc_));exact HO_9.out) hb2);have n1_:=ak_ (IsS53.below (by repeat (first|(with_reducible first|exact HI471.out|apply IsS53.alloc|apply IsS53.drewN|apply IsS53.drew)|exact HI471.out)) hb2);have n2_:=ak_ (IsS53.below (by repeat (first|(with_reducible first|exact HI476.out|apply IsS53.alloc|apply IsS53.drewN|apply IsS53.drew)|exact HI476.out)) hb2);have n3_:=ak_ (Nat.ne_of_gt (Nat.lt_of_lt_of_le (IsS53.lt (show IsS53 w _ g471 t468 t469 t470 from by repeat (first|(with_reducible first|exact HI471.out|apply IsS53.alloc|apply IsS53.drewN|apply IsS53.drew)|exact HI471.out))) hge));have n4_:=ak_ (Nat.ne_of_gt (Nat.lt_of_lt_of_le (IsS53.lt (show IsS53 w _ g476 t473 t474 t475 from by repeat (first|(with_reducible first|exact HI476.out|apply IsS53.alloc|apply IsS53.drewN|apply IsS53.drew)|exact HI476.out))) hge));have n5_:=ak_ (hb);have n6_:=ak_ (hi);clear HO_9;clear HI471;clear HI476;clear HB;have HO_9:=n0_;have HI471:=n1_;have HI476:=n2_;have NS481_471:=n3_;have NS481_476:=n4_;have HB:=n5_;have HI481:=n6_;clear n0_ n1_ n2_ n3_ n4_ n5_ n6_;(try clear hb);(try clear hb2);(try clear hi);(try clear hge))|(go_at_call 13;(with_reducible refine (resamp_Sampler_Run.calls k2 g471 t468 t469 t470 _ _ y458 t483 t486 t487 t488 t489 w _ ?side1 ?side2 ?side3 ?side4 ?side5 A29.out).mono ?_);(case side1 => repeat (first|(with_reducible first|exact HI471.out|apply IsS53.alloc|apply IsS53.drewN|apply IsS53.drew)|exact HI471.out));(case side2 => repeat (first|(with_reducible first|exact HB.out|apply ba_|apply bb_|apply bc_|refine below_set ?_ (IsS53.ge HI471.out)|refine below_set ?_ (IsS53.ge HI476.out)|refine below_set ?_ (IsS53.ge HI481.out))|exact HB.out));(case side3 => repeat (first|exact (Kd.C_below HR461.out HB.out)|(with_reducible refine Kd.C_alloc ?_ _)|(with_reducible refine Kd.C_drewN ?_ _)|(with_reducible refine Kd.C_drew ?_)));(case side4 => exact HC461.out);(case side5 => exact Kd.far_C 0 HR461.out (IsS53.ge HI471.out));rintro e w38 ⟨v484,rfl,ho0,hi,hb,hk⟩;have n0_:=ak_ (Kd.R_mono (Kd.R_told (Kd.R_oldK (IsS53.apart (show IsS53 w _ g471 t468 t469 t470 from by repeat (first|(with_reducible first|exact HI471.out|apply IsS53.alloc|apply IsS53.drewN|apply IsS53.drew)|exact HI471.out)) (by (with_reducible repeat (first|apply ra_|apply rb_|apply rc_));exact HO_9.out) (by decide)) hk) (Kd.R_base ho0)) (fun _ h_ => h_.1));have n1_:=ak_ (IsS53.keepB (show IsS53 w _ g476 t473 t474 t475 from by repeat (first|(with_reducible first|exact HI476.out|apply IsS53.alloc|apply IsS53.drewN|apply IsS53.drew)|exact HI476.out)) hk NS476_471.out);have n2_:=ak_ (IsS53.keepB (show IsS53 w _ g481 t478 t479 t480 from by repeat (first|(with_reducible first|exact HI481.out|apply IsS53.alloc|apply IsS53.drewN|apply IsS53.drew)|exact HI481.out)) hk NS481_471.out);have n3_:=ak_ (Kd.R_lower (Kd.R_new' ho0 (Kd.R_lt (by (with_reducible repeat (first|apply ra_|apply rb_|apply rc_));exact HO_9.out))) (below_size (by repeat (first|(with_reducible first|exact HB.out|apply ba_|apply bb_|apply bc_|refine below_set ?_ (IsS53.ge HI471.out)|refine below_set ?_ (IsS53.ge HI476.out)|refine below_set ?_ (IsS53.ge HI481.out))|exact HB.out))));have n4_:=ak_ (hb);have n5_:=ak_ (hi);clear HO_9;clear HI476;clear HI481;clear HB;clear HI471;have HO_9:=n0_;have HI476:=n1_;have HI481:=n2_;have HO485:=n3_;have HB:=n4_;have HI471:=n5_;clear n0_ n1_ n2_ n3_ n4_ n5_;(try clear hb);(try clear hk);(try clear hi);(try clear ho0);obtain ⟨Ao39,co39,eo39⟩:=Kd.R_slice HO_9.out;subst eo39)|(go_at_call 13;(with_reducible refine (resamp_Sampler_Run.calls k2 g476 t473 t474 t475 _ _ x9_2 t490 t493 t494 t495 t496 w _ ?side1 ?side2 ?side3 ?side4 ?side5 A30.out).mono ?_);(case side1 => repeat (first|(with_reducible first|exact HI476.out|apply IsS53.alloc|apply IsS53.drewN|apply IsS53.drew)|exact HI476.out));(case side2 => repeat (first|(with_reducible first|exact HB.out|apply ba_|apply bb_|apply bc_|refine below_set ?_ (IsS53.ge HI471.out)|refine below_set ?_ (IsS53.ge HI476.out)|refine below_set ?_ (IsS53.ge HI481.out))|exact HB.out));(case side3 => repeat (first|exact (Kd.R_reads' HO_9.out).2.2|(with_reducible refine Kd.C_alloc ?_ _)|(with_reducible refine Kd.C_drewN ?_ _)|(with_reducible refine Kd.C_drew ?_)));(case side4 => exact (Kd.R_reads' HO_9.out).2.1);(case side5 => exact far_slice (IsS53.own_ne HI476.out HO_9.out (by decide)));rintro e w40 ⟨v491,rfl,ho0,hi,hb,hk⟩;have n0_:=ak_ (Kd.R_mono (Kd.R_told (Kd.R_oldK (IsS53.apart (show IsS53 w _ g476 t473 t474 t475 from by repeat (first|(with_reducible first|exact HI476.out|apply IsS53.alloc|apply IsS53.drewN|apply IsS53.drew)|exact HI476.out)) (by (with_reducible repeat (first|apply ra_|apply rb_|apply rc_));exact HO_9.out) (by decide)) hk) (Kd.R_base ho0)) (fun _ h_ => h_.1));have n1_:=ak_ (IsS53.keepB (show IsS53 w _ g471 t487 t488 t489 from by repeat (first|(with_reducible first|exact HI471.out|apply IsS53.alloc|apply IsS53.drewN|apply IsS53.drew)|exact HI471.out)) hk (Ne.symm NS476_471.out));have n2_:=ak_ (IsS53.keepB (show IsS53 w _ g481 t478 t479 t480 from by repeat (first|(with_reducible first|exact HI481.out|apply IsS53.alloc|apply IsS53.drewN|apply IsS53.drew)|exact HI481.out)) hk NS481_476.out);have n3_:=ak_ (Kd.R_mono (Kd.R_told (Kd.R_oldK (IsS53.apart (show IsS53 w _ g476 t473 t474 t475 from by repeat (first|(with_reducible first|exact HI476.out|apply IsS53.alloc|apply IsS53.drewN|apply IsS53.drew)|exact HI476.out)) (by (with_reducible repeat (first|apply ra_|apply rb_|apply rc_));exact HO485.out) (by decide)) hk) (Kd.R_base ho0)) (fun _ h_ => h_.1));have n4_:=ak_ (Kd.R_lower (Kd.R_new' (Kd.R_new' ho0 (Kd.R_lt (by (with_reducible repeat (first|apply ra_|apply rb_|apply rc_));exact HO_9.out))) (Kd.R_lt (by (with_reducible repeat (first|apply ra_|apply rb_|apply rc_));exact HO485.out))) (below_size (by repeat (first|(with_reducible first|exact HB.out|apply ba_|apply bb_|apply bc_|refine below_set ?_ (IsS53.ge HI471.out)|refine below_set ?_ (IsS53.ge HI476.out)|refine below_set ?_ (IsS53.ge HI481.out))|exact HB.out))));have n5_:=ak_ (hb);have n6_:=ak_ (hi);clear HO_9;clear HI471;clear HI481;clear HO485;clear HB;clear HI476;have HO_9:=n0_;have HI471:=n1_;have HI481:=n2_;have HO485:=n3_;have HO492:=n4_;have HB:=n5_;have HI476:=n6_;clear n0_ n1_ n2_ n3_ n4_ n5_ n6_;(try clear hb);(try clear hk);(try clear hi);(try clear ho0))|((with_reducible refine gate_dst (N:=124) rfl ?_);(try (refine gate_guard (by rfl) ?_;dsimp only));refine Kd.R_make (Kd.int .i64) _ 2 rfl (N:=124) rfl 27 _ _ rfl (y458.length : Int) rfl rfl Try.underlying27 (.int .i64 0) 8 info2 rfl (by decide) (by omega) 0 (ok:=fun _ => True) (okp:=fun _ => True) rfl (fun _ hk => hk) trivial (of_decide_eq_true (by first|(with_reducible assumption)|assumption)) (Nat.le_trans (Nat.mul_le_mul_right _ (of_decide_eq_true (by first|(with_reducible assumption)|assumption) : (y458.length : Int).toNat ≤ 35184372088832)) (by omega)) (Below.refl _ _) (Nat.le_refl _) ?_;intro v498 w41 ho42 hb hg_ hnew_;clear hg_ hnew_;(first|rw [← Ny497.out] at ho42|(simp only [Int.reduceToNat] at ho42;rw [← Ny497.out] at ho42));have n0_:=ak_ (Kd.R_elder' (by (with_reducible repeat (first|apply ra_|apply rb_|apply rc_));exact HO_9.out) (Kd.R_base ho42) hb);have n1_:=ak_ (Kd.R_elder' (by (with_reducible repeat (first|apply ra_|apply rb_|apply rc_));exact HO485.out) (Kd.R_base ho42) hb);have n2_:=ak_ (Kd.R_elder' (by (with_reducible repeat (first|apply ra_|apply rb_|apply rc_));exact HO492.out) (Kd.R_base ho42) hb);have n3_:=ak_ (Kd.R_lower (Kd.R_new' (Kd.R_new' (Kd.R_new' ho42 (Kd.R_lt (by (with_reducible repeat (first|apply ra_|apply rb_|apply rc_));exact HO_9.out))) (Kd.R_lt (by (with_reducible repeat (first|apply ra_|apply rb_|apply rc_));exact HO485.out))) (Kd.R_lt (by (with_reducible repeat (first|apply ra_|apply rb_|apply rc_));exact HO492.out))) (below_size (by repeat (first|(with_reducible first|exact HB.out|apply ba_|apply bb_|apply bc_|refine below_set ?_ (IsS53.ge HI471.out)|refine below_set ?_ (IsS53.ge HI476.out)|refine below_set ?_ (IsS53.ge HI481.out))|exact HB.out))));have n4_:=ak_ (IsS53.below (by repeat (first|(with_reducible first|exact HI471.out|apply IsS53.alloc|apply IsS53.drewN|apply IsS53.drew)|exact HI471.out)) hb);have n5_:=ak_ (IsS53.below (by repeat (first|(with_reducible first|exact HI476.out|apply IsS53.alloc|apply IsS53.drewN|apply IsS53.drew)|exact HI476.out)) hb);have n6_:=ak_ (IsS53.below (by repeat (first|(with_reducible first|exact HI481.out|apply IsS53.alloc|apply IsS53.drewN|apply IsS53.drew)|exact HI481.out)) hb);have n7_:=ak_ (below_step (by repeat (first|(with_reducible first|exact HB.out|apply ba_|apply bb_|apply bc_|refine below_set ?_ (IsS53.ge HI471.out)|refine below_set ?_ (IsS53.ge HI476.out)|refine below_set ?_ (IsS53.ge HI481.out))|exact HB.out)) hb);clear HO_9;clear HO485;clear HO492;clear HI471;clear HI476;clear HI481;clear HB;have HO_9:=n0_;have HO485:=n1_;have HO492:=n2_;have HO499:=n3_;have HI471:=n4_;have HI476:=n5_;have HI481:=n6_;have HB:=n7_;clear n0_ n1_ n2_ n3_ n4_ n5_ n6_ n7_;clear hb ho42;obtain ⟨Ao43,co43,eo43⟩:=Kd.R_slice HO499.out;subst eo43)|(go_at_call 13;(with_reducible refine (resamp_Sampler_Run.calls k2 g481 t478 t479 t480 _ _ y497 t500 t503 t504 t505 t506 w _ ?side1 ?side2 ?side3 ?side4 ?side5 A33.out).mono ?_);(case side1 => repeat (first|(with_reducible first|exact HI481.out|apply IsS53.alloc|apply IsS53.drewN|apply IsS53.drew)|exact HI481.out));(case side2 => repeat (first|(with_reducible first|exact HB.out|apply ba_|apply bb_|apply bc_|refine below_set ?_ (IsS53.ge HI471.out)|refine below_set ?_ (IsS53.ge HI476.out)|refine below_set ?_ (IsS53.ge HI481.out))|exact HB.out));(case side3 => repeat (first|exact (Kd.R_reads' HO499.out).2.2|(with_reducible refine Kd.C_alloc ?_ _)|(with_reducible refine Kd.C_drewN ?_ _)|(with_reducible refine Kd.C_drew ?_)));(case side4 => exact (Kd.R_reads' HO499.out).2.1);(case side5 => exact far_slice (IsS53.own_ne HI481.out HO499.out (by decide)));rintro e w44 ⟨v501,rfl,ho0,hi,hb,hk⟩;have n0_:=ak_ (Kd.R_mono (Kd.R_told (Kd.R_oldK (IsS53.apart (show IsS53 w _ g481 t478 t479 t480 from by repeat (first|(with_reducible first|exact HI481.out|apply IsS53.alloc|apply IsS53.drewN|apply IsS53.drew)|exact HI481.out)) (by (with_reducible repeat (first|apply ra_|apply rb_|apply rc_));exact HO_9.out) (by decide)) hk) (Kd.R_base ho0)) (fun _ h_ => h_.1));have n1_:=ak_ (IsS53.keepB (show IsS53 w _ g471 t487 t488 t489 from by repeat (first|(with_reducible first|exact HI471.out|apply IsS53.alloc|apply IsS53.drewN|apply IsS53.drew)|exact HI471.out)) hk (Ne.symm NS481_471.out));have n2_:=ak_ (IsS53.keepB (show IsS53 w _ g476 t494 t495 t496 from by repeat (first|(with_reducible first|exact HI476.out|apply IsS53.alloc|apply IsS53.drewN|apply IsS53.drew)|exact HI476.out)) hk (Ne.symm NS481_476.out));have n3_:=ak_ (Kd.R_mono (Kd.R_told (Kd.R_oldK (IsS53.apart (show IsS53 w _ g481 t478 t479 t480 from by repeat (first|(with_reducible first|exact HI481.out|apply IsS53.alloc|apply IsS53.drewN|apply IsS53.drew)|exact HI481.out)) (by (with_reducible repeat (first|apply ra_|apply rb_|apply rc_));exact HO485.out) (by decide)) hk) (Kd.R_base ho0)) (fun _ h_ => h_.1));have n4_:=ak_ (Kd.R_mono (Kd.R_told (Kd.R_oldK (IsS53.apart (show IsS53 w _ g481 t478 t479 t480 from by repeat (first|(with_reducible first|exact HI481.out|apply IsS53.alloc|apply IsS53.drewN|apply IsS53.drew)|exact HI481.out)) (by (with_reducible repeat (first|apply ra_|apply rb_|apply rc_));exact HO492.out) (by decide)) hk) (Kd.R_base ho0)) (fun _ h_ => h_.1));have n5_:=ak_ (Kd.R_mono (Kd.R_told (Kd.R_oldK (IsS53.apart (show IsS53 w _ g481 t478 t479 t480 from by repeat (first|(with_reducible first|exact HI481.out|apply IsS53.alloc|apply IsS53.drewN|apply IsS53.drew)|exact HI481.out)) (by (with_reducible repeat (first|apply ra_|apply rb_|apply rc_));exact HO499.out) (by decide)) hk) (Kd.R_base ho0)) (fun _ h_ => h_.1));have n6_:=ak_ (Kd.R_lower (Kd.R_new' (Kd.R_new' (Kd.R_new' (Kd.R_new' ho0 (Kd.R_lt (by (with_reducible repeat (first|apply ra_|apply rb_|apply rc_));exact HO_9.out))) (Kd.R_lt (by (with_reducible repeat (first|apply ra_|apply rb_|apply rc_));exact HO485.out))) (Kd.R_lt (by (with_reducible repeat (first|apply ra_|apply rb_|apply rc_));exact HO492.out))) (Kd.R_lt (by (with_reducible repeat (first|apply ra_|apply rb_|apply rc_));exact HO499.out))) (below_size (by repeat (first|(with_reducible first|exact HB.out|apply ba_|apply bb_|apply bc_|refine below_set ?_ (IsS53.ge HI471.out)|refine below_set ?_ (IsS53.ge HI476.out)|refine below_set ?_ (IsS53.ge HI481.out))|exact HB.out))));have n7_:=ak_ (hb);have n8_:=ak_ (hi);clear HO_9;clear HI471;clear HI476;clear HO485;clear HO492;clear HO499;clear HB;clear HI481;have HO_9:=n0_;have HI471:=n1_;have HI476:=n2_;have HO485:=n3_;have HO492:=n4_;have HO499:=n5_;have HO502:=n6_;have HB:=n7_;have HI481:=n8_;clear n0_ n1_ n2_ n3_ n4_ n5_ n6_ n7_ n8_;(try clear hb);(try clear hk);(try clear hi);(try clear ho0)));go_upto_region 22 with (first|((with_reducible refine gate_callee (f:=12) rfl ?_);refine goesL_ (some 83) rfl rfl Try.func12 (by kernel_rfl) rfl #[.int .i64 a0,.int .i64 a1] rfl (by (try simp only [List.map_toArray,List.map_cons,List.map_nil]);first|done|rfl|(simp only [List.length_drop,List.length_take];rfl)) ?_;(with_reducible refine (resamp_New1.calls a0 a1 t468 t469 t470 t472 w _ ?side1 A26.out).mono ?_);(case side1 => repeat (first|(with_reducible first|exact HB.out|apply ba_|apply bb_|apply bc_)|exact HB.out));rintro e w35 ⟨g471,rfl,hi,hb,hb2,hge⟩;refine ⟨_,rfl,?_⟩;have n0_:=ak_ (Kd.R_below (by (with_reducible repeat (first|apply ra_|apply rb_|apply rc_));exact HO_9.out) hb2);have n1_:=ak_ (hb);have n2_:=ak_ (hi);clear HO_9;clear HB;have HO_9:=n0_;have HB:=n1_;have HI471:=n2_;clear n0_ n1_ n2_;(try clear hb);(try clear hb2);(try clear hi);(try clear hge))|((with_reducible refine gate_callee (f:=12) rfl ?_);refine goesL_ (some 89) rfl rfl Try.func12 (by kernel_rfl) rfl #[.int .i64 a0,.int .i64 a1] rfl (by (try simp only [List.map_toArray,List.map_cons,List.map_nil]);first|done|rfl|(simp only [List.length_drop,List.length_take];rfl)) ?_;(with_reducible refine (resamp_New1.calls a0 a1 t473 t474 t475 t477 w _ ?side1 A27.out).mono ?_);(case side1 => repeat (first|(with_reducible first|exact HB.out|apply ba_|apply bb_|apply bc_|refine below_set ?_ (IsS53.ge HI471.out))|exact HB.out));rintro e w36 ⟨g476,rfl,hi,hb,hb2,hge⟩;refine ⟨_,rfl,?_⟩;have n0_:=ak_ (Kd.R_below (by (with_reducible repeat (first|apply ra_|apply rb_|apply rc_));exact HO_9.out) hb2);have n1_:=ak_ (IsS53.below (by repeat (first|(with_reducible first|exact HI471.out|apply IsS53.alloc|apply IsS53.drewN|apply IsS53.drew)|exact HI471.out)) hb2);have n2_:=ak_ (Nat.ne_of_gt (Nat.lt_of_lt_of_le (IsS53.lt (show IsS53 w _ g471 t468 t469 t470 from by repeat (first|(with_reducible first|exact HI471.out|apply IsS53.alloc|apply IsS53.drewN|apply IsS53.drew)|exact HI471.out))) hge));have n3_:=ak_ (hb);have n4_:=ak_ (hi);clear HO_9;clear HI471;clear HB;have HO_9:=n0_;have HI471:=n1_;have NS476_471:=n2_;have HB:=n3_;have HI476:=n4_;clear n0_ n1_ n2_ n3_ n4_;(try clear hb);(try clear hb2);(try clear hi);(try clear hge))|((with_reducible refine gate_callee (f:=12) rfl ?_);refine goesL_ (some 95) rfl rfl Try.func12 (by kernel_rfl) rfl #[.int .i64 a0,.int .i64 a1] rfl (by (try simp only [List.map_toArray,List.map_cons,List.map_nil]);first|done|rfl|(simp only [List.length_drop,List.length_take];rfl)) ?_;(with_reducible refine (resamp_New1.calls a0 a1 t478 t479 t480 t482 w _ ?side1 A28.out).mono ?_);(case side1 => repeat (first|(with_reducible first|exact HB.out|apply ba_|apply bb_|apply bc_|refine below_set ?_ (IsS53.ge HI471.out)|refine below_set ?_ (IsS53.ge HI476.out))|exact HB.out));rintro e w37 ⟨g481,rfl,hi,hb,hb2,hge⟩;refine ⟨_,rfl,?_⟩;have n0_:=ak_ (Kd.R_below (by (with_reducible repeat (first|apply ra_|apply rb_|apply rc_));exact HO_9.out) hb2);have n1_:=ak_ (IsS53.below (by repeat (first|(with_reducible first|exact HI471.out|apply IsS53.alloc|apply IsS53.drewN|apply IsS53.drew)|exact HI471.out)) hb2);have n2_:=ak_ (IsS53.below (by repeat (first|(with_reducible first|exact HI476.out|apply IsS53.alloc|apply IsS53.drewN|apply IsS53.drew)|exact HI476.out)) hb2);have n3_:=ak_ (Nat.ne_of_gt (Nat.lt_of_lt_of_le (IsS53.lt (show IsS53 w _ g471 t468 t469 t470 from by repeat (first|(with_reducible first|exact HI471.out|apply IsS53.alloc|apply IsS53.drewN|apply IsS53.drew)|exact HI471.out))) hge));have n4_:=ak_ (Nat.ne_of_gt (Nat.lt_of_lt_of_le (IsS53.lt (show IsS53 w _ g476 t473 t474 t475 from by repeat (first|(with_reducible first|exact HI476.out|apply IsS53.alloc|apply IsS53.drewN|apply IsS53.drew)|exact HI476.out))) hge));have n5_:=ak_ (hb);have n6_:=ak_ (hi);clear HO_9;clear HI471;clear HI476;clear HB;have HO_9:=n0_;have HI471:=n1_;have HI476:=n2_;have NS481_471:=n3_;have NS481_476:=n4_;have HB:=n5_;have HI481:=n6_;clear n0_ n1_ n2_ n3_ n4_ n5_ n6_;(try clear hb);(try clear hb2);(try clear hi);(try clear hge))|(go_at_call 13;(with_reducible refine (resamp_Sampler_Run.calls k2 g471 t468 t469 t470 _ _ y458 t483 t486 t487 t488 t489 w _ ?side1 ?side2 ?side3 ?side4 ?side5 A29.out).mono ?_);(case side1 => repeat (first|(with_reducible first|exact HI471.out|apply IsS53.alloc|apply IsS53.drewN|apply IsS53.drew)|exact HI471.out));(case side2 => repeat (first|(with_reducible first|exact HB.out|apply ba_|apply bb_|apply bc_|refine below_set ?_ (IsS53.ge HI471.out)|refine below_set ?_ (IsS53.ge HI476.out)|refine below_set ?_ (IsS53.ge HI481.out))|exact HB.out));(case side3 => repeat (first|exact (Kd.C_below HR461.out HB.out)|(with_reducible refine Kd.C_alloc ?_ _)|(with_reducible refine Kd.C_drewN ?_ _)|(with_reducible refine Kd.C_drew ?_)));(case side4 => exact HC461.out);(case side5 => exact Kd.far_C 0 HR461.out (IsS53.ge HI471.out));rintro e w38 ⟨v484,rfl,ho0,hi,hb,hk⟩;have n0_:=ak_ (Kd.R_mono (Kd.R_told (Kd.R_oldK (IsS53.apart (show IsS53 w _ g471 t468 t469 t470 from by repeat (first|(with_reducible first|exact HI471.out|apply IsS53.alloc|apply IsS53.drewN|apply IsS53.drew)|exact HI471.out)) (by (with_reducible repeat (first|apply ra_|apply rb_|apply rc_));exact HO_9.out) (by decide)) hk) (Kd.R_base ho0)) (fun _ h_ => h_.1));have n1_:=ak_ (IsS53.keepB (show IsS53 w _ g476 t473 t474 t475 from by repeat (first|(with_reducible first|exact HI476.out|apply IsS53.alloc|apply IsS53.drewN|apply IsS53.drew)|exact HI476.out)) hk NS476_471.out);have n2_:=ak_ (IsS53.keepB (show IsS53 w _ g481 t478 t479 t480 from by repeat (first|(with_reducible first|exact HI481.out|apply IsS53.alloc|apply IsS53.drewN|apply IsS53.drew)|exact HI481.out)) hk NS481_471.out);have n3_:=ak_ (Kd.R_lower (Kd.R_new' ho0 (Kd.R_lt (by (with_reducible repeat (first|apply ra_|apply rb_|apply rc_));exact HO_9.out))) (below_size (by repeat (first|(with_reducible first|exact HB.out|apply ba_|apply bb_|apply bc_|refine below_set ?_ (IsS53.ge HI471.out)|refine below_set ?_ (IsS53.ge HI476.out)|refine below_set ?_ (IsS53.ge HI481.out))|exact HB.out))));have n4_:=ak_ (hb);have n5_:=ak_ (hi);clear HO_9;clear HI476;clear HI481;clear HB;clear HI471;have HO_9:=n0_;have HI476:=n1_;have HI481:=n2_;have HO485:=n3_;have HB:=n4_;have HI471:=n5_;clear n0_ n1_ n2_ n3_ n4_ n5_;(try clear hb);(try clear hk);(try clear hi);(try clear ho0);obtain ⟨Ao39,co39,eo39⟩:=Kd.R_slice HO_9.out;subst eo39)|(go_at_call 13;(with_reducible refine (resamp_Sampler_Run.calls k2 g476 t473 t474 t475 _ _ x9_2 t490 t493 t494 t495 t496 w _ ?side1 ?side2 ?side3 ?side4 ?side5 A30.out).mono ?_);(case side1 => repeat (first|(with_reducible first|exact HI476.out|apply IsS53.alloc|apply IsS53.drewN|apply IsS53.drew)|exact HI476.out));(case side2 => repeat (first|(with_reducible first|exact HB.out|apply ba_|apply bb_|apply bc_|refine below_set ?_ (IsS53.ge HI471.out)|refine below_set ?_ (IsS53.ge HI476.out)|refine below_set ?_ (IsS53.ge HI481.out))|exact HB.out));(case side3 => repeat (first|exact (Kd.R_reads' HO_9.out).2.2|(with_reducible refine Kd.C_alloc ?_ _)|(with_reducible refine Kd.C_drewN ?_ _)|(with_reducible refine Kd.C_drew ?_)));(case side4 => exact (Kd.R_reads' HO_9.out).2.1);(case side5 => exact far_slice (IsS53.own_ne HI476.out HO_9.out (by decide)));rintro e w40 ⟨v491,rfl,ho0,hi,hb,hk⟩;have n0_:=ak_ (Kd.R_mono (Kd.R_told (Kd.R_oldK (IsS53.apart (show IsS53 w _ g476 t473 t474 t475 from by repeat (first|(with_reducible first|exact HI476.out|apply IsS53.alloc|apply IsS53.drewN|apply IsS53.drew)|exact HI476.out)) (by (with_reducible repeat (first|apply ra_|apply rb_|apply rc_));exact HO_9.out) (by decide)) hk) (Kd.R_base ho0)) (fun _ h_ => h_.1));have n1_:=ak_ (IsS53.keepB (show IsS53 w _ g471 t487 t488 t489 from by repeat (first|(with_reducible first|exact HI471.out|apply IsS53.alloc|apply IsS53.drewN|apply IsS53.drew)|exact HI471.out)) hk (Ne.symm NS476_471.out));have n2_:=ak_ (IsS53.keepB (show IsS53 w _ g481 t478 t479 t480 from by repeat (first|(with_reducible first|exact HI481.out|apply IsS53.alloc|apply IsS53.drewN|apply IsS53.drew)|exact HI481.out)) hk NS481_476.out);have n3_:=ak_ (Kd.R_mono (Kd.R_told (Kd.R_oldK (IsS53.apart (show IsS53 w _ g476 t473 t474 t475 from by repeat (first|(with_reducible first|exact HI476.out|apply IsS53.alloc|apply IsS53.drewN|apply IsS53.drew)|exact HI476.out)) (by (with_reducible repeat (first|apply ra_|apply rb_|apply rc_));exact HO485.out) (by decide)) hk) (Kd.R_base ho0)) (fun _ h_ => h_.1));have n4_:=ak_ (Kd.R_lower (Kd.R_new' (Kd.R_new' ho0 (Kd.R_lt (by (with_reducible repeat (first|apply ra_|apply rb_|apply rc_));exact HO_9.out))) (Kd.R_lt (by (with_reducible repeat (first|apply ra_|apply rb_|apply rc_));exact HO485.out))) (below_size (by repeat (first|(with_reducible first|exact HB.out|apply ba_|apply bb_|apply bc_|refine below_set ?_ (IsS53.ge HI471.out)|refine below_set ?_ (IsS53.ge HI476.out)|refine below_set ?_ (IsS53.ge HI481.out))|exact HB.out))));have n5_:=ak_ (hb);have n6_:=ak_ (hi);clear HO_9;clear HI471;clear HI481;clear HO485;clear HB;clear HI476;have HO_9:=n0_;have HI471:=n1_;have HI481:=n2_;have HO485:=n3_;have HO492:=n4_;have HB:=n5_;have HI476:=n6_;clear n0_ n1_ n2_ n3_ n4_ n5_ n6_;(try clear hb);(try clear hk);(try clear hi);(try clear ho0))|((with_reducible refine gate_dst (N:=124) rfl ?_);(try (refine gate_guard (by rfl) ?_;dsimp only));refine Kd.R_make (Kd.int .i64) _ 2 rfl (N:=124) rfl 27 _ _ rfl (y458.length : Int) rfl rfl Try.underlying27 (.int .i64 0) 8 info2 rfl (by decide) (by omega) 0 (ok:=fun _ => True) (okp:=fun _ => True) rfl (fun _ hk => hk) trivial (of_decide_eq_true (by first|(with_reducible assumption)|assumption)) (Nat.le_trans (Nat.mul_le_mul_right _ (of_decide_eq_true (by first|(with_reducible assumption)|assumption) : (y458.length : Int).toNat ≤ 35184372088832)) (by omega)) (Below.refl _ _) (Nat.le_refl _) ?_;intro v498 w41 ho42 hb hg_ hnew_;clear hg_ hnew_;(first|rw [← Ny497.out] at ho42|(simp only [Int.reduceToNat] at ho42;rw [← Ny497.out] at ho42));have n0_:=ak_ (Kd.R_elder' (by (with_reducible repeat (first|apply ra_|apply rb_|apply rc_));exact HO_9.out) (Kd.R_base ho42) hb);have n1_:=ak_ (Kd.R_elder' (by (with_reducible repeat (first|apply ra_|apply rb_|apply rc_));exact HO485.out) (Kd.R_base ho42) hb);have n2_:=ak_ (Kd.R_elder' (by (with_reducible repeat (first|apply ra_|apply rb_|apply rc_));exact HO492.out) (Kd.R_base ho42) hb);have n3_:=ak_ (Kd.R_lower (Kd.R_new' (Kd.R_new' (Kd.R_new' ho42 (Kd.R_lt (by (with_reducible repeat (first|apply ra_|apply rb_|apply rc_));exact HO_9.out))) (Kd.R_lt (by (with_reducible repeat (first|apply ra_|apply rb_|apply rc_));exact HO485.out))) (Kd.R_lt (by (with_reducible repeat (first|apply ra_|apply rb_|apply rc_));exact HO492.out))) (below_size (by repeat (first|(with_reducible first|exact HB.out|apply ba_|apply bb_|apply bc_|refine below_set ?_ (IsS53.ge HI471.out)|refine below_set ?_ (IsS53.ge HI476.out)|refine below_set ?_ (IsS53.ge HI481.out))|exact HB.out))));have n4_:=ak_ (IsS53.below (by repeat (first|(with_reducible first|exact HI471.out|apply IsS53.alloc|apply IsS53.drewN|apply IsS53.drew)|exact HI471.out)) hb);have n5_:=ak_ (IsS53.below (by repeat (first|(with_reducible first|exact HI476.out|apply IsS53.alloc|apply IsS53.drewN|apply IsS53.drew)|exact HI476.out)) hb);have n6_:=ak_ (IsS53.below (by repeat (first|(with_reducible first|exact HI481.out|apply IsS53.alloc|apply IsS53.drewN|apply IsS53.drew)|exact HI481.out)) hb);have n7_:=ak_ (below_step (by repeat (first|(with_reducible first|exact HB.out|apply ba_|apply bb_|apply bc_|refine below_set ?_ (IsS53.ge HI471.out)|refine below_set ?_ (IsS53.ge HI476.out)|refine below_set ?_ (IsS53.ge HI481.out))|exact HB.out)) hb);clear HO_9;clear HO485;clear HO492;clear HI471;clear HI476;clear HI481;clear HB;have HO_9:=n0_;have HO485:=n1_;have HO492:=n2_;have HO499:=n3_;have HI471:=n4_;have HI476:=n5_;have HI481:=n6_;have HB:=n7_;clear n0_ n1_ n2_ n3_ n4_ n5_ n6_ n7_;clear hb ho42;obtain ⟨Ao43,co43,eo43⟩:=Kd.R_slice HO499.out;subst eo43)|(go_at_call 13;(with_reducible refine (resamp_Sampler_Run.calls k2 g481 t478 t479 t480 _ _ y497 t500 t503 t504 t505 t506 w _ ?side1 ?side2 ?side3 ?side4 ?side5 A33.out).mono ?_);(case side1 => repeat (first|(with_reducible first|exact HI481.out|apply IsS53.alloc|apply IsS53.drewN|apply IsS53.drew)|exact HI481.out));(case side2 => repeat (first|(with_reducible first|exact HB.out|apply ba_|apply bb_|apply bc_|refine below_set ?_ (IsS53.ge HI471.out)|refine below_set ?_ (IsS53.ge HI476.out)|refine below_set ?_ (IsS53.ge HI481.out))|exact HB.out));(case side3 => repeat (first|exact (Kd.R_reads' HO499.out).2.2|(with_reducible refine Kd.C_alloc ?_ _)|(with_reducible refine Kd.C_drewN ?_ _)|(with_reducible refine Kd.C_drew ?_)));(case side4 => exact (Kd.R_reads' HO499.out).2.1);(case side5 => exact far_slice (IsS53.own_ne HI481.out HO499.out (by decide)));rintro e w44 ⟨v501,rfl,ho0,hi,hb,hk⟩;have n0_:=ak_ (Kd.R_mono (Kd.R_told (Kd.R_oldK (IsS53.apart (show IsS53 w _ g481 t478 t479 t480 from by repeat (first|(with_reducible first|exact HI481.out|apply IsS53.alloc|apply IsS53.drewN|apply IsS53.drew)|exact HI481.out)) (by (with_reducible repeat (first|apply ra_|apply rb_|apply rc_));exact HO_9.out) (by decide)) hk) (Kd.R_base ho0)) (fun _ h_ => h_.1));have n1_:=ak_ (IsS53.keepB (show IsS53 w _ g471 t487 t488 t489 from by repeat (first|(with_reducible first|exact HI471.out|apply IsS53.alloc|apply IsS53.drewN|apply IsS53.drew)|exact HI471.out)) hk (Ne.symm NS481_471.out));have n2_:=ak_ (IsS53.keepB (show IsS53 w _ g476 t494 t495 t496 from by repeat (first|(with_reducible first|exact HI476.out|apply IsS53.alloc|apply IsS53.drewN|apply IsS53.drew)|exact HI476.out)) hk (Ne.symm NS481_476.out));have n3_:=ak_ (Kd.R_mono (Kd.R_told (Kd.R_oldK (IsS53.apart (show IsS53 w _ g481 t478 t479 t480 from by repeat (first|(with_reducible first|exact HI481.out|apply IsS53.alloc|apply IsS53.drewN|apply IsS53.drew)|exact HI481.out)) (by (with_reducible repeat (first|apply ra_|apply rb_|apply rc_));exact HO485.out) (by decide)) hk) (Kd.R_base ho0)) (fun _ h_ => h_.1));have n4_:=ak_ (Kd.R_mono (Kd.R_told (Kd.R_oldK (IsS53.apart (show IsS53 w _ g481 t478 t479 t480 from by repeat (first|(with_reducible first|exact HI481.out|apply IsS53.alloc|apply IsS53.drewN|apply IsS53.drew)|exact HI481.out)) (by (with_reducible repeat (first|apply ra_|apply rb_|apply rc_));exact HO492.out) (by decide)) hk) (Kd.R_base ho0)) (fun _ h_ => h_.1));have n5_:=ak_ (Kd.R_mono (Kd.R_told (Kd.R_oldK (IsS53.apart (show IsS53 w _ g481 t478 t479 t480 from by repeat (first|(with_reducible first|exact HI481.out|apply IsS53.alloc|apply IsS53.drewN|apply IsS53.drew)|exact HI481.out)) (by (with_reducible repeat (first|apply ra_|apply rb_|apply rc_));exact HO499.out) (by decide)) hk) (Kd.R_base ho0)) (fun _ h_ => h_.1));have n6_:=ak_ (Kd.R_lower (Kd.R_new' (Kd.R_new' (Kd.R_new' (Kd.R_new' ho0 (Kd.R_lt (by (with_reducible repeat (first|apply ra_|apply rb_|apply rc_));exact HO_9.out))) (Kd.R_lt (by (with_reducible repeat (first|apply ra_|apply rb_|apply rc_));exact HO485.out))) (Kd.R_lt (by (with_reducible repeat (first|apply ra_|apply rb_|apply rc_));exact HO492.out))) (Kd.R_lt (by (with_reducible repeat (first|apply ra_|apply rb_|apply rc_));exact HO499.out))) (below_size (by repeat (first|(with_reducible first|exact HB.out|apply ba_|apply bb_|apply bc_|refine below_set ?_ (IsS53.ge HI471.out)|refine below_set ?_ (IsS53.ge HI476.out)|refine below_set ?_ (IsS53.ge HI481.out))|exact HB.out))));have n7_:=ak_ (hb);have n8_:=ak_ (hi);clear HO_9;clear HI471;clear HI476;clear HO485;clear HO492;clear HO499;clear HB;clear HI481;have HO_9:=n0_;have HI471:=n1_;have HI476:=n2_;have HO485:=n3_;have HO492:=n4_;have HO499:=n5_;have HO502:=n6_;have HB:=n7_;have HI481:=n8_;clear n0_ n1_ n2_ n3_ n4_ n5_ n6_ n7_ n8_;(try clear hb);(try clear hk);(try clear hi);(try clear ho0))))
              (try simp only [Act.put,List.setIfInBounds_toArray,List.set_cons_zero,List.set_cons_succ])
              go_cut [140] (fun v140 wc => ∃ (kq : Nat) (x140_33 : Bool),v140 = .bool x140_33 ∧ Aside0 (madrigallaw22_ResampSilence.j2 kq t483 t490 x140_33 = some r) ∧ Aside0 (kq ≤ k2) ∧ Aside0 (Kd.R (Kd.int .i64) 2 wc w.heap.size (fun k_ => some k_ ≠ (v491 : Value).ownBlock) v484 t483) ∧ Aside0 (Kd.R (Kd.int .i64) 2 wc w.heap.size (fun k_ => some k_ ≠ (v484 : Value).ownBlock) v491 t490) ∧ Aside0 (Below w.heap.size w wc))
              case first =>
               have H:=HC34.out
               clear HC34
               by_cases c45 : (t483.length : Int) = (t490.length : Int)
               ·rw [if_pos c45] at H
                have c45b0 : ((t483.length : Int) == (t490.length : Int)) = true:=beq_iff_eq.mpr c45
                have c45b1 : ((t483.length : Int) != (t490.length : Int)) = false:=bne_eq_false_iff_eq.mpr c45
                have c45b2 : (t483.length == t490.length) = true:=by first|simpa using c45|(simp at c45 ⊢;omega)
                clear c45
                (first|rw [c45b0]|(simp only [i64_w,i32_w];rw [c45b0])|skip)
                by_cases c46 : 0 ≤ (t483.length : Int)
                ·rw [if_pos c46] at H
                 have c46b0:=eq_true c46
                 have c46b1 : decide (0 ≤ (t483.length : Int)) = true:=decide_eq_true c46
                 clear c46
                 by_cases c47 : ((t483.length : Int) : Int).toNat ≤ 35184372088832
                 ·rw [if_pos c47] at H
                  have c47b0:=eq_true c47
                  have c47b1 : decide (((t483.length : Int) : Int).toNat ≤ 35184372088832) = true:=decide_eq_true c47
                  clear c47
                  obtain ⟨y507,hy507⟩ : ∃ y_ : List Int,y_ = (List.replicate ((t483.length : Int) : Int).toNat 0):=⟨_,rfl⟩
                  replace H : ((madrigallaw22_same.f k2 t500 y507).bind fun t510 => (madrigallaw22_ResampSilence.j2 k2 t483 t490 (!t510))) = some r:=by first|(rw [hy507];with_reducible exact H)|(have H2_:=(Option.bind_some _ _).symm.trans H;rw [hy507];with_reducible exact H2_)|(have H2_:=(Option.bind_some _ _).symm.trans H;with_reducible exact H2_)|with_reducible exact H|(rw [hy507];exact H)|exact H
                  have Ny507:=ak_ hy507
                  clear hy507
                  replace H:=Option.bind_eq_some_iff.mp H
                  obtain ⟨t510,A480,H⟩:=H
                  (try dsimp only at H)
                  have A48:=ak_ A480
                  clear A480
                  have H':=ak_ H
                  clear H
                  obtain ⟨Ao49,co49,eo49⟩:=Kd.R_slice HO485.out
                  subst eo49
                  obtain ⟨Ao50,co50,eo50⟩:=Kd.R_slice HO492.out
                  subst eo50
                  go_wp2_with (first|((with_reducible refine gate_dst (N:=137) rfl ?_);(try (refine gate_guard (by rfl) ?_;dsimp only));refine Kd.R_make (Kd.int .i64) _ 2 rfl (N:=137) rfl 27 _ _ rfl (t483.length : Int) rfl rfl Try.underlying27 (.int .i64 0) 8 info2 rfl (by decide) (by omega) 0 (ok:=fun _ => True) (okp:=fun _ => True) rfl (fun _ hk => hk) trivial (of_decide_eq_true (by first|(with_reducible assumption)|assumption)) (Nat.le_trans (Nat.mul_le_mul_right _ (of_decide_eq_true (by first|(with_reducible assumption)|assumption) : (t483.length : Int).toNat ≤ 35184372088832)) (by omega)) (Below.refl _ _) (Nat.le_refl _) ?_;intro v508 w51 ho52 hb hg_ hnew_;clear hg_ hnew_;(first|rw [← Ny507.out] at ho52|(simp only [Int.reduceToNat] at ho52;rw [← Ny507.out] at ho52));have n0_:=ak_ (Kd.R_elder' (by (with_reducible repeat (first|apply ra_|apply rb_|apply rc_));exact HO_9.out) (Kd.R_base ho52) hb);have n1_:=ak_ (Kd.R_elder' (by (with_reducible repeat (first|apply ra_|apply rb_|apply rc_));exact HO485.out) (Kd.R_base ho52) hb);have n2_:=ak_ (Kd.R_elder' (by (with_reducible repeat (first|apply ra_|apply rb_|apply rc_));exact HO492.out) (Kd.R_base ho52) hb);have n3_:=ak_ (Kd.R_elder' (by (with_reducible repeat (first|apply ra_|apply rb_|apply rc_));exact HO499.out) (Kd.R_base ho52) hb);have n4_:=ak_ (Kd.R_elder' (by (with_reducible repeat (first|apply ra_|apply rb_|apply rc_));exact HO502.out) (Kd.R_base ho52) hb);have n5_:=ak_ (Kd.R_lower (Kd.R_new' (Kd.R_new' (Kd.R_new' (Kd.R_new' (Kd.R_new' ho52 (Kd.R_lt (by (with_reducible repeat (first|apply ra_|apply rb_|apply rc_));exact HO_9.out))) (Kd.R_lt (by (with_reducible repeat (first|apply ra_|apply rb_|apply rc_));exact HO485.out))) (Kd.R_lt (by (with_reducible repeat (first|apply ra_|apply rb_|apply rc_));exact HO492.out))) (Kd.R_lt (by (with_reducible repeat (first|apply ra_|apply rb_|apply rc_));exact HO499.out))) (Kd.R_lt (by (with_reducible repeat (first|apply ra_|apply rb_|apply rc_));exact HO502.out))) (below_size (by repeat (first|(with_reducible first|exact HB.out|apply ba_|apply bb_|apply bc_|refine below_set ?_ (IsS53.ge HI471.out)|refine below_set ?_ (IsS53.ge HI476.out)|refine below_set ?_ (IsS53.ge HI481.out))|exact HB.out))));have n6_:=ak_ (IsS53.below (by repeat (first|(with_reducible first|exact HI471.out|apply IsS53.alloc|apply IsS53.drewN|apply IsS53.drew)|exact HI471.out)) hb);have n7_:=ak_ (IsS53.below (by repeat (first|(with_reducible first|exact HI476.out|apply IsS53.alloc|apply IsS53.drewN|apply IsS53.drew)|exact HI476.out)) hb);have n8_:=ak_ (IsS53.below (by repeat (first|(with_reducible first|exact HI481.out|apply IsS53.alloc|apply IsS53.drewN|apply IsS53.drew)|exact HI481.out)) hb);have n9_:=ak_ (below_step (by repeat (first|(with_reducible first|exact HB.out|apply ba_|apply bb_|apply bc_|refine below_set ?_ (IsS53.ge HI471.out)|refine below_set ?_ (IsS53.ge HI476.out)|refine below_set ?_ (IsS53.ge HI481.out))|exact HB.out)) hb);clear HO_9;clear HO485;clear HO492;clear HO499;clear HO502;clear HI471;clear HI476;clear HI481;clear HB;have HO_9:=n0_;have HO485:=n1_;have HO492:=n2_;have HO499:=n3_;have HO502:=n4_;have HO509:=n5_;have HI471:=n6_;have HI476:=n7_;have HI481:=n8_;have HB:=n9_;clear n0_ n1_ n2_ n3_ n4_ n5_ n6_ n7_ n8_ n9_;clear hb ho52;obtain ⟨Ao53,co53,eo53⟩:=Kd.R_slice HO502.out;subst eo53;obtain ⟨Ao54,co54,eo54⟩:=Kd.R_slice HO509.out;subst eo54)|(go_at_call 18;(with_reducible refine (madrigallaw22_same.calls k2 _ _ t500 _ _ y507 t510 _ ?side1 ?side2 ?side3 ?side4 A48.out).mono ?_);(case side1 => repeat (first|exact (Kd.R_reads' HO502.out).2.2|(with_reducible refine Kd.C_alloc ?_ _)|(with_reducible refine Kd.C_drewN ?_ _)|(with_reducible refine Kd.C_drew ?_)));(case side2 => exact (Kd.R_reads' HO502.out).2.1);(case side3 => repeat (first|exact (Kd.R_reads' HO509.out).2.2|(with_reducible refine Kd.C_alloc ?_ _)|(with_reducible refine Kd.C_drewN ?_ _)|(with_reducible refine Kd.C_drew ?_)));(case side4 => exact (Kd.R_reads' HO509.out).2.1);rintro e w' ⟨rfl,⟨nd,rfl⟩⟩;(try first|exact ⟨rfl,_,World.drewN_drewN _ _ _⟩|exact ⟨rfl,_,Eq.trans (World.drewN_drewN _ _ _) (congrArg (World.drewN _) (Nat.add_assoc _ _ _))⟩)))
                  repeat (go_quiet (first|((with_reducible refine gate_dst (N:=137) rfl ?_);(try (refine gate_guard (by rfl) ?_;dsimp only));refine Kd.R_make (Kd.int .i64) _ 2 rfl (N:=137) rfl 27 _ _ rfl (t483.length : Int) rfl rfl Try.underlying27 (.int .i64 0) 8 info2 rfl (by decide) (by omega) 0 (ok:=fun _ => True) (okp:=fun _ => True) rfl (fun _ hk => hk) trivial (of_decide_eq_true (by first|(with_reducible assumption)|assumption)) (Nat.le_trans (Nat.mul_le_mul_right _ (of_decide_eq_true (by first|(with_reducible assumption)|assumption) : (t483.length : Int).toNat ≤ 35184372088832)) (by omega)) (Below.refl _ _) (Nat.le_refl _) ?_;intro v508 w51 ho52 hb hg_ hnew_;clear hg_ hnew_;(first|rw [← Ny507.out] at ho52|(simp only [Int.reduceToNat] at ho52;rw [← Ny507.out] at ho52));have n0_:=ak_ (Kd.R_elder' (by (with_reducible repeat (first|apply ra_|apply rb_|apply rc_));exact HO_9.out) (Kd.R_base ho52) hb);have n1_:=ak_ (Kd.R_elder' (by (with_reducible repeat (first|apply ra_|apply rb_|apply rc_));exact HO485.out) (Kd.R_base ho52) hb);have n2_:=ak_ (Kd.R_elder' (by (with_reducible repeat (first|apply ra_|apply rb_|apply rc_));exact HO492.out) (Kd.R_base ho52) hb);have n3_:=ak_ (Kd.R_elder' (by (with_reducible repeat (first|apply ra_|apply rb_|apply rc_));exact HO499.out) (Kd.R_base ho52) hb);have n4_:=ak_ (Kd.R_elder' (by (with_reducible repeat (first|apply ra_|apply rb_|apply rc_));exact HO502.out) (Kd.R_base ho52) hb);have n5_:=ak_ (Kd.R_lower (Kd.R_new' (Kd.R_new' (Kd.R_new' (Kd.R_new' (Kd.R_new' ho52 (Kd.R_lt (by (with_reducible repeat (first|apply ra_|apply rb_|apply rc_));exact HO_9.out))) (Kd.R_lt (by (with_reducible repeat (first|apply ra_|apply rb_|apply rc_));exact HO485.out))) (Kd.R_lt (by (with_reducible repeat (first|apply ra_|apply rb_|apply rc_));exact HO492.out))) (Kd.R_lt (by (with_reducible repeat (first|apply ra_|apply rb_|apply rc_));exact HO499.out))) (Kd.R_lt (by (with_reducible repeat (first|apply ra_|apply rb_|apply rc_));exact HO502.out))) (below_size (by repeat (first|(with_reducible first|exact HB.out|apply ba_|apply bb_|apply bc_|refine below_set ?_ (IsS53.ge HI471.out)|refine below_set ?_ (IsS53.ge HI476.out)|refine below_set ?_ (IsS53.ge HI481.out))|exact HB.out))));have n6_:=ak_ (IsS53.below (by repeat (first|(with_reducible first|exact HI471.out|apply IsS53.alloc|apply IsS53.drewN|apply IsS53.drew)|exact HI471.out)) hb);have n7_:=ak_ (IsS53.below (by repeat (first|(with_reducible first|exact HI476.out|apply IsS53.alloc|apply IsS53.drewN|apply IsS53.drew)|exact HI476.out)) hb);have n8_:=ak_ (IsS53.below (by repeat (first|(with_reducible first|exact HI481.out|apply IsS53.alloc|apply IsS53.drewN|apply IsS53.drew)|exact HI481.out)) hb);have n9_:=ak_ (below_step (by repeat (first|(with_reducible first|exact HB.out|apply ba_|apply bb_|apply bc_|refine below_set ?_ (IsS53.ge HI471.out)|refine below_set ?_ (IsS53.ge HI476.out)|refine below_set ?_ (IsS53.ge HI481.out))|exact HB.out)) hb);clear HO_9;clear HO485;clear HO492;clear HO499;clear HO502;clear HI471;clear HI476;clear HI481;clear HB;have HO_9:=n0_;have HO485:=n1_;have HO492:=n2_;have HO499:=n3_;have HO502:=n4_;have HO509:=n5_;have HI471:=n6_;have HI476:=n7_;have HI481:=n8_;have HB:=n9_;clear n0_ n1_ n2_ n3_ n4_ n5_ n6_ n7_ n8_ n9_;clear hb ho52;obtain ⟨Ao53,co53,eo53⟩:=Kd.R_slice HO502.out;subst eo53;obtain ⟨Ao54,co54,eo54⟩:=Kd.R_slice HO509.out;subst eo54)|(go_at_call 18;(with_reducible refine (madrigallaw22_same.calls k2 _ _ t500 _ _ y507 t510 _ ?side1 ?side2 ?side3 ?side4 A48.out).mono ?_);(case side1 => repeat (first|exact (Kd.R_reads' HO502.out).2.2|(with_reducible refine Kd.C_alloc ?_ _)|(with_reducible refine Kd.C_drewN ?_ _)|(with_reducible refine Kd.C_drew ?_)));(case side2 => exact (Kd.R_reads' HO502.out).2.1);(case side3 => repeat (first|exact (Kd.R_reads' HO509.out).2.2|(with_reducible refine Kd.C_alloc ?_ _)|(with_reducible refine Kd.C_drewN ?_ _)|(with_reducible refine Kd.C_drew ?_)));(case side4 => exact (Kd.R_reads' HO509.out).2.1);rintro e w' ⟨rfl,⟨nd,rfl⟩⟩;(try first|exact ⟨rfl,_,World.drewN_drewN _ _ _⟩|exact ⟨rfl,_,Eq.trans (World.drewN_drewN _ _ _) (congrArg (World.drewN _) (Nat.add_assoc _ _ _))⟩)));try go_wp2_with (first|((with_reducible refine gate_dst (N:=137) rfl ?_);(try (refine gate_guard (by rfl) ?_;dsimp only));refine Kd.R_make (Kd.int .i64) _ 2 rfl (N:=137) rfl 27 _ _ rfl (t483.length : Int) rfl rfl Try.underlying27 (.int .i64 0) 8 info2 rfl (by decide) (by omega) 0 (ok:=fun _ => True) (okp:=fun _ => True) rfl (fun _ hk => hk) trivial (of_decide_eq_true (by first|(with_reducible assumption)|assumption)) (Nat.le_trans (Nat.mul_le_mul_right _ (of_decide_eq_true (by first|(with_reducible assumption)|assumption) : (t483.length : Int).toNat ≤ 35184372088832)) (by omega)) (Below.refl _ _) (Nat.le_refl _) ?_;intro v508 w51 ho52 hb hg_ hnew_;clear hg_ hnew_;(first|rw [← Ny507.out] at ho52|(simp only [Int.reduceToNat] at ho52;rw [← Ny507.out] at ho52));have n0_:=ak_ (Kd.R_elder' (by (with_reducible repeat (first|apply ra_|apply rb_|apply rc_));exact HO_9.out) (Kd.R_base ho52) hb);have n1_:=ak_ (Kd.R_elder' (by (with_reducible repeat (first|apply ra_|apply rb_|apply rc_));exact HO485.out) (Kd.R_base ho52) hb);have n2_:=ak_ (Kd.R_elder' (by (with_reducible repeat (first|apply ra_|apply rb_|apply rc_));exact HO492.out) (Kd.R_base ho52) hb);have n3_:=ak_ (Kd.R_elder' (by (with_reducible repeat (first|apply ra_|apply rb_|apply rc_));exact HO499.out) (Kd.R_base ho52) hb);have n4_:=ak_ (Kd.R_elder' (by (with_reducible repeat (first|apply ra_|apply rb_|apply rc_));exact HO502.out) (Kd.R_base ho52) hb);have n5_:=ak_ (Kd.R_lower (Kd.R_new' (Kd.R_new' (Kd.R_new' (Kd.R_new' (Kd.R_new' ho52 (Kd.R_lt (by (with_reducible repeat (first|apply ra_|apply rb_|apply rc_));exact HO_9.out))) (Kd.R_lt (by (with_reducible repeat (first|apply ra_|apply rb_|apply rc_));exact HO485.out))) (Kd.R_lt (by (with_reducible repeat (first|apply ra_|apply rb_|apply rc_));exact HO492.out))) (Kd.R_lt (by (with_reducible repeat (first|apply ra_|apply rb_|apply rc_));exact HO499.out))) (Kd.R_lt (by (with_reducible repeat (first|apply ra_|apply rb_|apply rc_));exact HO502.out))) (below_size (by repeat (first|(with_reducible first|exact HB.out|apply ba_|apply bb_|apply bc_|refine below_set ?_ (IsS53.ge HI471.out)|refine below_set ?_ (IsS53.ge HI476.out)|refine below_set ?_ (IsS53.ge HI481.out))|exact HB.out))));have n6_:=ak_ (IsS53.below (by repeat (first|(with_reducible first|exact HI471.out|apply IsS53.alloc|apply IsS53.drewN|apply IsS53.drew)|exact HI471.out)) hb);have n7_:=ak_ (IsS53.below (by repeat (first|(with_reducible first|exact HI476.out|apply IsS53.alloc|apply IsS53.drewN|apply IsS53.drew)|exact HI476.out)) hb);have n8_:=ak_ (IsS53.below (by repeat (first|(with_reducible first|exact HI481.out|apply IsS53.alloc|apply IsS53.drewN|apply IsS53.drew)|exact HI481.out)) hb);have n9_:=ak_ (below_step (by repeat (first|(with_reducible first|exact HB.out|apply ba_|apply bb_|apply bc_|refine below_set ?_ (IsS53.ge HI471.out)|refine below_set ?_ (IsS53.ge HI476.out)|refine below_set ?_ (IsS53.ge HI481.out))|exact HB.out)) hb);clear HO_9;clear HO485;clear HO492;clear HO499;clear HO502;clear HI471;clear HI476;clear HI481;clear HB;have HO_9:=n0_;have HO485:=n1_;have HO492:=n2_;have HO499:=n3_;have HO502:=n4_;have HO509:=n5_;have HI471:=n6_;have HI476:=n7_;have HI481:=n8_;have HB:=n9_;clear n0_ n1_ n2_ n3_ n4_ n5_ n6_ n7_ n8_ n9_;clear hb ho52;obtain ⟨Ao53,co53,eo53⟩:=Kd.R_slice HO502.out;subst eo53;obtain ⟨Ao54,co54,eo54⟩:=Kd.R_slice HO509.out;subst eo54)|(go_at_call 18;(with_reducible refine (madrigallaw22_same.calls k2 _ _ t500 _ _ y507 t510 _ ?side1 ?side2 ?side3 ?side4 A48.out).mono ?_);(case side1 => repeat (first|exact (Kd.R_reads' HO502.out).2.2|(with_reducible refine Kd.C_alloc ?_ _)|(with_reducible refine Kd.C_drewN ?_ _)|(with_reducible refine Kd.C_drew ?_)));(case side2 => exact (Kd.R_reads' HO502.out).2.1);(case side3 => repeat (first|exact (Kd.R_reads' HO509.out).2.2|(with_reducible refine Kd.C_alloc ?_ _)|(with_reducible refine Kd.C_drewN ?_ _)|(with_reducible refine Kd.C_drew ?_)));(case side4 => exact (Kd.R_reads' HO509.out).2.1);rintro e w' ⟨rfl,⟨nd,rfl⟩⟩;(try first|exact ⟨rfl,_,World.drewN_drewN _ _ _⟩|exact ⟨rfl,_,Eq.trans (World.drewN_drewN _ _ _) (congrArg (World.drewN _) (Nat.add_assoc _ _ _))⟩))))
                  go_meet
                  case rel => exact ⟨_,(!t510),(by first|rfl|(simp;done)|(simp [*];done)),H',⟨by have:=HJ5.out;have:=HK2.out;first|omega|exact Nat.le_refl _⟩,⟨by (with_reducible repeat (first|apply ra_|apply rb_|apply rc_));exact Kd.R_mono HO485.out (fun _ hk => hk.1.1.1.2)⟩,⟨by (with_reducible repeat (first|apply ra_|apply rb_|apply rc_));exact Kd.R_mono HO492.out (fun _ hk => hk.1.1.1.2)⟩,⟨by repeat (first|(with_reducible first|exact HB.out|apply ba_|apply bb_|apply bc_|refine below_set ?_ (IsS53.ge HI471.out)|refine below_set ?_ (IsS53.ge HI476.out)|refine below_set ?_ (IsS53.ge HI481.out))|exact HB.out)⟩⟩
                 ·rw [if_neg c47] at H
                  exact absurd H (by simp)
                ·rw [if_neg c46] at H
                 exact absurd H (by simp)
               ·rw [if_neg c45] at H
                have c45b0 : ((t483.length : Int) == (t490.length : Int)) = false:=beq_eq_false_iff_ne.mpr c45
                have c45b1 : ((t483.length : Int) != (t490.length : Int)) = true:=bne_iff_ne.mpr c45
                have c45b2 : (t483.length == t490.length) = false:=by first|simpa using c45|(simp at c45 ⊢;omega)
                (first|rw [c45b0]|(simp only [i64_w,i32_w];rw [c45b0])|skip)
                have H':=ak_ H
                clear H
                obtain ⟨Ao55,co55,eo55⟩:=Kd.R_slice HO485.out
                subst eo55
                obtain ⟨Ao56,co56,eo56⟩:=Kd.R_slice HO492.out
                subst eo56
                go_wp2
                repeat (go_quiet (fail);try go_wp2)
                go_meet
                case rel => exact ⟨_,(true),(by first|rfl|(simp;done)|(simp [*];done)),H',⟨by have:=HJ5.out;have:=HK2.out;first|omega|exact Nat.le_refl _⟩,⟨by (with_reducible repeat (first|apply ra_|apply rb_|apply rc_));exact Kd.R_mono HO485.out (fun _ hk => hk.1.1.2)⟩,⟨by (with_reducible repeat (first|apply ra_|apply rb_|apply rc_));exact Kd.R_mono HO492.out (fun _ hk => hk.1.1.2)⟩,⟨by repeat (first|(with_reducible first|exact HB.out|apply ba_|apply bb_|apply bc_|refine below_set ?_ (IsS53.ge HI471.out)|refine below_set ?_ (IsS53.ge HI476.out)|refine below_set ?_ (IsS53.ge HI481.out))|exact HB.out)⟩⟩
              case rest => as_aux_lemma =>
               clear HC34
               try clear c1
               try clear q1
               try clear c2
               try clear p2
               try clear c3
               try clear c4
               try clear p4
               try clear q4
               try clear hx4
               try clear c5
               try clear p6
               try clear c8
               try clear c9
               try clear c11
               try clear c12
               try clear c14
               try clear c14b0
               try clear c14b1
               try clear c16
               try clear c16b0
               try clear c16b1
               try clear c17
               try clear c17b0
               try clear c17b1
               try clear q18
               try clear c19
               try clear c19b0
               try clear c20
               try clear c20b0
               try clear c21
               try clear c21b0
               try clear c22
               try clear c22b0
               try clear c23
               try clear c25
               try clear c25b0
               try clear c25b1
               try clear c31
               try clear c31b0
               try clear c31b1
               try clear c32
               try clear c32b0
               try clear c32b1
               try clear c45
               try clear c45b0
               try clear c45b1
               try clear c45b2
               try clear c46
               try clear c46b0
               try clear c46b1
               try clear p46
               try clear q46
               try clear hx46
               try clear c47
               try clear c47b0
               try clear c47b1
               try clear hx462_0
               try clear hx463_0
               try clear hx464_0
               try clear p2
               try clear p462
               try clear p463
               try clear p464
               try clear p6
               try clear q1
               try clear q18
               try clear q462
               try clear q463
               try clear q464
               obtain ⟨kq,x140_33,rfl,HA,HJ33,HO_17,HO_19,HB⟩:=hcut
               (try simp only [i64_w,i32_w])
               cases kq with
               | zero => exact absurd HA.out (by simp [madrigallaw22_ResampSilence.j2])
               | succ kj33 =>
                have H:=HA.out
                clear HA
                simp only [madrigallaw22_ResampSilence.j2] at H
                by_cases c57 : x140_33 = true
                ·subst c57
                 have H1 : (none) = some r:=by rw [if_pos rfl] at H;exact H
                 clear H
                 have H:=H1
                 clear H1
                 exact absurd H (by simp)
                ·replace c57:=Bool.eq_false_iff.mpr c57
                 subst c57
                 have H1 : (madrigallaw22_ResampSilence.l1 kj33 t483 t490 0) = some r:=by rw [if_neg (show ¬ (false = true) by decide)] at H;exact H
                 clear H
                 have H:=H1
                 clear H1
                 have H':=ak_ H
                 clear H
                 go_wp2
                 repeat (go_quiet (fail);try go_wp2)
                 go_loopg [23] kj33 (fun kq v23 w' => ∃ (x23_4 : Int),v23 = .int .i64 x23_4 ∧ Aside0 (madrigallaw22_ResampSilence.l1 kq t483 t490 x23_4 = some r) ∧ Aside0 (kq ≤ kj33) ∧ Aside0 (Kd.R (Kd.int .i64) 2 w' w.heap.size (fun k_ => some k_ ≠ (v491 : Value).ownBlock) v484 t483) ∧ Aside0 (Kd.R (Kd.int .i64) 2 w' w.heap.size (fun k_ => some k_ ≠ (v484 : Value).ownBlock) v491 t490) ∧ Aside0 (Below w.heap.size w w'))
                 case atStart => exact ⟨(0),(by first|rfl|(simp;done)|(simp [*];done)),H',⟨Nat.le_refl _⟩,⟨by (with_reducible repeat (first|apply ra_|apply rb_|apply rc_));exact HO_17.out⟩,⟨by (with_reducible repeat (first|apply ra_|apply rb_|apply rc_));exact HO_19.out⟩,⟨by repeat (first|(with_reducible first|exact HB.out|apply ba_|apply bb_|apply bc_)|exact HB.out)⟩⟩
                 case round => as_aux_lemma =>
                  clear H'
                  try clear c1
                  try clear q1
                  try clear c2
                  try clear p2
                  try clear c3
                  try clear c4
                  try clear p4
                  try clear q4
                  try clear hx4
                  try clear c5
                  try clear p6
                  try clear c8
                  try clear c9
                  try clear c11
                  try clear c12
                  try clear c14
                  try clear c14b0
                  try clear c14b1
                  try clear c16
                  try clear c16b0
                  try clear c16b1
                  try clear c17
                  try clear c17b0
                  try clear c17b1
                  try clear q18
                  try clear c19
                  try clear c19b0
                  try clear c20
                  try clear c20b0
                  try clear c21
                  try clear c21b0
                  try clear c22
                  try clear c22b0
                  try clear c23
                  try clear c25
                  try clear c25b0
                  try clear c25b1
                  try clear c31
                  try clear c31b0
                  try clear c31b1
                  try clear c32
                  try clear c32b0
                  try clear c32b1
                  try clear c45
                  try clear c45b0
                  try clear c45b1
                  try clear c45b2
                  try clear c46
                  try clear c46b0
                  try clear c46b1
                  try clear p46
                  try clear q46
                  try clear hx46
                  try clear c47
                  try clear c47b0
                  try clear c47b1
                  try clear c57
                  try clear hx462_0
                  try clear hx463_0
                  try clear hx464_0
                  try clear p2
                  try clear p4
                  try clear p46
                  try clear p462
                  try clear p463
                  try clear p464
                  try clear p6
                  try clear q1
                  try clear q18
                  try clear q4
                  try clear q46
                  try clear q462
                  try clear q463
                  try clear q464
                  obtain ⟨x23_4,rfl,HA,HK4,HO_17,HO_19,HB⟩:=hrel
                  (try simp only [i64_w,i32_w])
                  cases gk with
                  | zero => exact absurd HA.out (by simp [madrigallaw22_ResampSilence.l1])
                  | succ k4 =>
                   have H:=HA.out
                   clear HA
                   simp only [madrigallaw22_ResampSilence.l1] at H
                   by_cases c58 : x23_4 < (t483.length : Int)
                   ·rw [if_pos c58] at H
                    have c58b0:=decide_eq_true c58
                    clear c58
                    by_cases c59 : 0 ≤ x23_4
                    ·rw [if_pos c59] at H
                     have c59b0:=decide_eq_true c59
                     clear c59
                     by_cases c60 : x23_4 < (t490.length : Int)
                     ·rw [if_pos c60] at H
                      have c60b0:=decide_eq_true c60
                      clear c60
                      by_cases c61 : (wrap64 ((rd t483 x23_4) + (rd t490 x23_4))) > 1
                      ·rw [if_pos c61] at H
                       have c61b0 : decide (1 < (wrap64 ((rd t483 x23_4) + (rd t490 x23_4)))) = true:=decide_eq_true c61
                       clear c61
                       by_cases c62 : (rd t483 x23_4) < 32767
                       ·rw [if_pos c62] at H
                        have c62b0:=decide_eq_true c62
                        clear c62
                        by_cases c63 : (rd t490 x23_4) < 32767
                        ·rw [if_pos c63] at H
                         exact absurd H (by simp)
                        ·rw [if_neg c63] at H
                         have c63b0:=decide_eq_false c63
                         clear c63
                         have H':=ak_ H
                         clear H
                         obtain ⟨Ao64,co64,eo64⟩:=Kd.R_slice HO_17.out
                         subst eo64
                         have p511 : 0 ≤ (x23_4 : Int):=of_decide_eq_true (by first|(with_reducible assumption)|assumption)
                         have q511 : x23_4 < (t483.length : Int):=of_decide_eq_true (by first|(with_reducible assumption)|assumption)
                         obtain ⟨ad511,e511,hx511_0⟩:=Kd.at_int (Kd.R_reads' HO_17.out).2.2 x23_4 p511 q511
                         cases e511
                         replace p511:=eq_true p511
                         replace q511:=eq_true q511
                         obtain ⟨Ao65,co65,eo65⟩:=Kd.R_slice HO_19.out
                         subst eo65
                         have p512 : 0 ≤ (x23_4 : Int):=of_decide_eq_true (by first|(with_reducible assumption)|assumption)
                         have q512 : x23_4 < (t490.length : Int):=of_decide_eq_true (by first|(with_reducible assumption)|assumption)
                         obtain ⟨ad512,e512,hx512_0⟩:=Kd.at_int (Kd.R_reads' HO_19.out).2.2 x23_4 p512 q512
                         cases e512
                         replace p512:=eq_true p512
                         replace q512:=eq_true q512
                         have p513 : 0 ≤ (x23_4 : Int):=of_decide_eq_true (by first|(with_reducible assumption)|assumption)
                         have q513 : x23_4 < (t483.length : Int):=of_decide_eq_true (by first|(with_reducible assumption)|assumption)
                         obtain ⟨ad513,e513,hx513_0⟩:=Kd.at_int (Kd.R_reads' HO_17.out).2.2 x23_4 p513 q513
                         obtain rfl : ad511 = ad513:=(by injection e513)
                         replace p513:=eq_true p513
                         replace q513:=eq_true q513
                         have p514 : 0 ≤ (x23_4 : Int):=of_decide_eq_true (by first|(with_reducible assumption)|assumption)
                         have q514 : x23_4 < (t490.length : Int):=of_decide_eq_true (by first|(with_reducible assumption)|assumption)
                         obtain ⟨ad514,e514,hx514_0⟩:=Kd.at_int (Kd.R_reads' HO_19.out).2.2 x23_4 p514 q514
                         obtain rfl : ad512 = ad514:=(by injection e514)
                         replace p514:=eq_true p514
                         replace q514:=eq_true q514
                         go_wp2
                         repeat (go_quiet (fail);try go_wp2)
                         go_roundg k4
                         case measure => have:=HJ5.out;have:=HK2.out;have:=HJ33.out;have:=HK4.out;omega
                         case rel => exact ⟨(wrap64 (x23_4 + 1)),(by first|rfl|(simp;done)|(simp [*];done)),H',⟨by have:=HJ5.out;have:=HK2.out;have:=HJ33.out;have:=HK4.out;omega⟩,⟨by (with_reducible repeat (first|apply ra_|apply rb_|apply rc_));exact HO_17.out⟩,⟨by (with_reducible repeat (first|apply ra_|apply rb_|apply rc_));exact HO_19.out⟩,⟨by repeat (first|(with_reducible first|exact HB.out|apply ba_|apply bb_|apply bc_)|exact HB.out)⟩⟩
                       ·rw [if_neg c62] at H
                        have c62b0:=decide_eq_false c62
                        clear c62
                        have H':=ak_ H
                        clear H
                        obtain ⟨Ao66,co66,eo66⟩:=Kd.R_slice HO_17.out
                        subst eo66
                        have p511 : 0 ≤ (x23_4 : Int):=of_decide_eq_true (by first|(with_reducible assumption)|assumption)
                        have q511 : x23_4 < (t483.length : Int):=of_decide_eq_true (by first|(with_reducible assumption)|assumption)
                        obtain ⟨ad511,e511,hx511_0⟩:=Kd.at_int (Kd.R_reads' HO_17.out).2.2 x23_4 p511 q511
                        cases e511
                        replace p511:=eq_true p511
                        replace q511:=eq_true q511
                        obtain ⟨Ao67,co67,eo67⟩:=Kd.R_slice HO_19.out
                        subst eo67
                        have p512 : 0 ≤ (x23_4 : Int):=of_decide_eq_true (by first|(with_reducible assumption)|assumption)
                        have q512 : x23_4 < (t490.length : Int):=of_decide_eq_true (by first|(with_reducible assumption)|assumption)
                        obtain ⟨ad512,e512,hx512_0⟩:=Kd.at_int (Kd.R_reads' HO_19.out).2.2 x23_4 p512 q512
                        cases e512
                        replace p512:=eq_true p512
                        replace q512:=eq_true q512
                        have p513 : 0 ≤ (x23_4 : Int):=of_decide_eq_true (by first|(with_reducible assumption)|assumption)
                        have q513 : x23_4 < (t483.length : Int):=of_decide_eq_true (by first|(with_reducible assumption)|assumption)
                        obtain ⟨ad513,e513,hx513_0⟩:=Kd.at_int (Kd.R_reads' HO_17.out).2.2 x23_4 p513 q513
                        obtain rfl : ad511 = ad513:=(by injection e513)
                        replace p513:=eq_true p513
                        replace q513:=eq_true q513
                        go_wp2
                        repeat (go_quiet (fail);try go_wp2)
                        go_roundg k4
                        case measure => have:=HJ5.out;have:=HK2.out;have:=HJ33.out;have:=HK4.out;omega
                        case rel => exact ⟨(wrap64 (x23_4 + 1)),(by first|rfl|(simp;done)|(simp [*];done)),H',⟨by have:=HJ5.out;have:=HK2.out;have:=HJ33.out;have:=HK4.out;omega⟩,⟨by (with_reducible repeat (first|apply ra_|apply rb_|apply rc_));exact HO_17.out⟩,⟨by (with_reducible repeat (first|apply ra_|apply rb_|apply rc_));exact HO_19.out⟩,⟨by repeat (first|(with_reducible first|exact HB.out|apply ba_|apply bb_|apply bc_)|exact HB.out)⟩⟩
                      ·rw [if_neg c61] at H
                       have c61b0 : decide (1 < (wrap64 ((rd t483 x23_4) + (rd t490 x23_4)))) = false:=decide_eq_false c61
                       clear c61
                       by_cases c68 : (wrap64 ((rd t483 x23_4) + (rd t490 x23_4))) < (-1)
                       ·rw [if_pos c68] at H
                        have c68b0:=decide_eq_true c68
                        clear c68
                        by_cases c69 : (rd t483 x23_4) < 32767
                        ·rw [if_pos c69] at H
                         have c69b0:=decide_eq_true c69
                         clear c69
                         by_cases c70 : (rd t490 x23_4) < 32767
                         ·rw [if_pos c70] at H
                          exact absurd H (by simp)
                         ·rw [if_neg c70] at H
                          have c70b0:=decide_eq_false c70
                          clear c70
                          have H':=ak_ H
                          clear H
                          obtain ⟨Ao71,co71,eo71⟩:=Kd.R_slice HO_17.out
                          subst eo71
                          have p511 : 0 ≤ (x23_4 : Int):=of_decide_eq_true (by first|(with_reducible assumption)|assumption)
                          have q511 : x23_4 < (t483.length : Int):=of_decide_eq_true (by first|(with_reducible assumption)|assumption)
                          obtain ⟨ad511,e511,hx511_0⟩:=Kd.at_int (Kd.R_reads' HO_17.out).2.2 x23_4 p511 q511
                          cases e511
                          replace p511:=eq_true p511
                          replace q511:=eq_true q511
                          obtain ⟨Ao72,co72,eo72⟩:=Kd.R_slice HO_19.out
                          subst eo72
                          have p512 : 0 ≤ (x23_4 : Int):=of_decide_eq_true (by first|(with_reducible assumption)|assumption)
                          have q512 : x23_4 < (t490.length : Int):=of_decide_eq_true (by first|(with_reducible assumption)|assumption)
                          obtain ⟨ad512,e512,hx512_0⟩:=Kd.at_int (Kd.R_reads' HO_19.out).2.2 x23_4 p512 q512
                          cases e512
                          replace p512:=eq_true p512
                          replace q512:=eq_true q512
                          have p515 : 0 ≤ (x23_4 : Int):=of_decide_eq_true (by first|(with_reducible assumption)|assumption)
                          have q515 : x23_4 < (t483.length : Int):=of_decide_eq_true (by first|(with_reducible assumption)|assumption)
                          obtain ⟨ad515,e515,hx515_0⟩:=Kd.at_int (Kd.R_reads' HO_17.out).2.2 x23_4 p515 q515
                          obtain rfl : ad511 = ad515:=(by injection e515)
                          replace p515:=eq_true p515
                          replace q515:=eq_true q515
                          have p516 : 0 ≤ (x23_4 : Int):=of_decide_eq_true (by first|(with_reducible assumption)|assumption)
                          have q516 : x23_4 < (t490.length : Int):=of_decide_eq_true (by first|(with_reducible assumption)|assumption)
                          obtain ⟨ad516,e516,hx516_0⟩:=Kd.at_int (Kd.R_reads' HO_19.out).2.2 x23_4 p516 q516
                          obtain rfl : ad512 = ad516:=(by injection e516)
                          replace p516:=eq_true p516
                          replace q516:=eq_true q516
                          go_wp2
                          repeat (go_quiet (fail);try go_wp2)
                          go_roundg k4
                          case measure => have:=HJ5.out;have:=HK2.out;have:=HJ33.out;have:=HK4.out;omega
                          case rel => exact ⟨(wrap64 (x23_4 + 1)),(by first|rfl|(simp;done)|(simp [*];done)),H',⟨by have:=HJ5.out;have:=HK2.out;have:=HJ33.out;have:=HK4.out;omega⟩,⟨by (with_reducible repeat (first|apply ra_|apply rb_|apply rc_));exact HO_17.out⟩,⟨by (with_reducible repeat (first|apply ra_|apply rb_|apply rc_));exact HO_19.out⟩,⟨by repeat (first|(with_reducible first|exact HB.out|apply ba_|apply bb_|apply bc_)|exact HB.out)⟩⟩
                        ·rw [if_neg c69] at H
                         have c69b0:=decide_eq_false c69
                         clear c69
                         have H':=ak_ H
                         clear H
                         obtain ⟨Ao73,co73,eo73⟩:=Kd.R_slice HO_17.out
                         subst eo73
                         have p511 : 0 ≤ (x23_4 : Int):=of_decide_eq_true (by first|(with_reducible assumption)|assumption)
                         have q511 : x23_4 < (t483.length : Int):=of_decide_eq_true (by first|(with_reducible assumption)|assumption)
                         obtain ⟨ad511,e511,hx511_0⟩:=Kd.at_int (Kd.R_reads' HO_17.out).2.2 x23_4 p511 q511
                         cases e511
                         replace p511:=eq_true p511
                         replace q511:=eq_true q511
                         obtain ⟨Ao74,co74,eo74⟩:=Kd.R_slice HO_19.out
                         subst eo74
                         have p512 : 0 ≤ (x23_4 : Int):=of_decide_eq_true (by first|(with_reducible assumption)|assumption)
                         have q512 : x23_4 < (t490.length : Int):=of_decide_eq_true (by first|(with_reducible assumption)|assumption)
                         obtain ⟨ad512,e512,hx512_0⟩:=Kd.at_int (Kd.R_reads' HO_19.out).2.2 x23_4 p512 q512
                         cases e512
                         replace p512:=eq_true p512
                         replace q512:=eq_true q512
                         have p515 : 0 ≤ (x23_4 : Int):=of_decide_eq_true (by first|(with_reducible assumption)|assumption)
                         have q515 : x23_4 < (t483.length : Int):=of_decide_eq_true (by first|(with_reducible assumption)|assumption)
                         obtain ⟨ad515,e515,hx515_0⟩:=Kd.at_int (Kd.R_reads' HO_17.out).2.2 x23_4 p515 q515
                         obtain rfl : ad511 = ad515:=(by injection e515)
                         replace p515:=eq_true p515
                         replace q515:=eq_true q515
                         go_wp2
                         repeat (go_quiet (fail);try go_wp2)
                         go_roundg k4
                         case measure => have:=HJ5.out;have:=HK2.out;have:=HJ33.out;have:=HK4.out;omega
                         case rel => exact ⟨(wrap64 (x23_4 + 1)),(by first|rfl|(simp;done)|(simp [*];done)),H',⟨by have:=HJ5.out;have:=HK2.out;have:=HJ33.out;have:=HK4.out;omega⟩,⟨by (with_reducible repeat (first|apply ra_|apply rb_|apply rc_));exact HO_17.out⟩,⟨by (with_reducible repeat (first|apply ra_|apply rb_|apply rc_));exact HO_19.out⟩,⟨by repeat (first|(with_reducible first|exact HB.out|apply ba_|apply bb_|apply bc_)|exact HB.out)⟩⟩
                       ·rw [if_neg c68] at H
                        have c68b0:=decide_eq_false c68
                        clear c68
                        have H':=ak_ H
                        clear H
                        obtain ⟨Ao75,co75,eo75⟩:=Kd.R_slice HO_17.out
                        subst eo75
                        have p511 : 0 ≤ (x23_4 : Int):=of_decide_eq_true (by first|(with_reducible assumption)|assumption)
                        have q511 : x23_4 < (t483.length : Int):=of_decide_eq_true (by first|(with_reducible assumption)|assumption)
                        obtain ⟨ad511,e511,hx511_0⟩:=Kd.at_int (Kd.R_reads' HO_17.out).2.2 x23_4 p511 q511
                        cases e511
                        replace p511:=eq_true p511
                        replace q511:=eq_true q511
                        obtain ⟨Ao76,co76,eo76⟩:=Kd.R_slice HO_19.out
                        subst eo76
                        have p512 : 0 ≤ (x23_4 : Int):=of_decide_eq_true (by first|(with_reducible assumption)|assumption)
                        have q512 : x23_4 < (t490.length : Int):=of_decide_eq_true (by first|(with_reducible assumption)|assumption)
                        obtain ⟨ad512,e512,hx512_0⟩:=Kd.at_int (Kd.R_reads' HO_19.out).2.2 x23_4 p512 q512
                        cases e512
                        replace p512:=eq_true p512
                        replace q512:=eq_true q512
                        go_wp2
                        repeat (go_quiet (fail);try go_wp2)
                        go_roundg k4
                        case measure => have:=HJ5.out;have:=HK2.out;have:=HJ33.out;have:=HK4.out;omega
                        case rel => exact ⟨(wrap64 (x23_4 + 1)),(by first|rfl|(simp;done)|(simp [*];done)),H',⟨by have:=HJ5.out;have:=HK2.out;have:=HJ33.out;have:=HK4.out;omega⟩,⟨by (with_reducible repeat (first|apply ra_|apply rb_|apply rc_));exact HO_17.out⟩,⟨by (with_reducible repeat (first|apply ra_|apply rb_|apply rc_));exact HO_19.out⟩,⟨by repeat (first|(with_reducible first|exact HB.out|apply ba_|apply bb_|apply bc_)|exact HB.out)⟩⟩
                     ·rw [if_neg c60] at H
                      exact absurd H (by simp)
                    ·rw [if_neg c59] at H
                     exact absurd H (by simp)
                   ·rw [if_neg c58] at H
                    have c58b0:=decide_eq_false c58
                    clear c58
                    obtain rfl:=Option.some.inj H
                    obtain ⟨Ao77,co77,eo77⟩:=Kd.R_slice HO_17.out
                    subst eo77
                    go_wp2
                    repeat (go_quiet (fail);try go_wp2)
                    go_ret
                    exact ⟨by first|rfl|(simp [errW_none,errW_some] <;> rfl)|(simp only [← hji15];first|rfl|(simp [errW_none,errW_some] <;> rfl))|(simp [*,errW_none,errW_some] <;> rfl),by repeat (first|(with_reducible first|exact HB.out|apply ba_|apply bb_|apply bc_)|exact HB.out)⟩
             ·rw [if_neg c32] at H
              exact absurd H (by simp)
            ·rw [if_neg c31] at H
             exact absurd H (by simp)
           ·rw [if_neg c25] at H
            have c25b0 : (resamp_Good.f a0 a1 == some true) = false:=beq_eq_false_iff_ne.mpr c25
            have c25b1 : (resamp_Good.f a0 a1 != some true) = true:=bne_iff_ne.mpr c25
            replace H:=Option.bind_eq_some_iff.mp H
            obtain ⟨t518,A780,H⟩:=H
            (try dsimp only at H)
            have A78:=ak_ A780
            clear A780
            replace H:=Option.bind_eq_some_iff.mp H
            obtain ⟨t520,A790,H⟩:=H
            (try dsimp only at H)
            have A79:=ak_ A790
            clear A790
            replace H:=Option.bind_eq_some_iff.mp H
            obtain ⟨t522,A800,H⟩:=H
            (try dsimp only at H)
            have A80:=ak_ A800
            clear A800
            exact absurd H (by simp)
       ·rw [if_neg c17] at H
        exact absurd H (by simp)
      ·rw [if_neg c16] at H
       exact absurd H (by simp)
 ·replace c5:=Bool.eq_false_iff.mpr c5
  subst c5
  have H1 : (none) = some r:=by rw [if_neg (show ¬ (false = true) by decide)] at H;exact H
  clear H
  have H:=H1
  clear H1
  exact absurd H (by simp)

/-- THE ONE PURE STATEMENT of madrigallaw22_ResampSilence. -/
def madrigallaw22_ResampSilence.Pure : Prop:=∀ (a0 : Int) (a1 : Int) (l2 : List Int),(Lit.int .i64 a0).wf = true → (Lit.int .i64 a1).wf = true → l2.length ≤ maxLen → l2.length * 8 ≤ 140737488351232 → (∀ x ∈ l2,(Lit.int .i64 x).wf = true) → ∃ k,madrigallaw22_ResampSilence.f k a0 a1 l2 = some true
theorem madrigallaw22_ResampSilence.walk (P : madrigallaw22_ResampSilence.Pure) (a0 : Int) (a1 : Int) (a2 : Option Addr) (len2 cap2 : Nat) (z2 : List Int) (w : World) (w0 : (Lit.int .i64 a0).wf = true) (w1 : (Lit.int .i64 a1).wf = true) (w2 : (a2 = none ∧ len2 = 0 ∧ cap2 = 0 ∧ z2 = []) ∨ ∃ x,a2 = some x ∧ len2 ≤ cap2 ∧ cap2 ≤ maxLen ∧ z2.length = cap2 ∧ (∀ i,i < z2.length → w.cell? (x.add i) = some (.int .i64 (z2.getD i 0))) ∧ ∀ n ∈ z2,(Lit.int .i64 n).wf = true) (y2 : len2 * 8 ≤ 140737488351232) :
  Calls Try.prog 8 #[.int .i64 a0,.int .i64 a1,.slice a2 len2 cap2] w fun e w' => e = .returned (.bool true) ∧ Below w.heap.size w w':=by
 obtain ⟨l2,rfl,hr2,hm2,hw2,hc2⟩:=ReadsInt.ofRowC w2
 obtain ⟨k,h⟩:=P a0 a1 l2 w0 w1 hm2 y2 hw2
 refine (madrigallaw22_ResampSilence.calls k a0 a1 _ _ l2 true w (Kd.C_of_reads (d:=(0 : Int)) (h1:=fun _ => rfl) hr2) hc2 h).mono ?_
 rintro e w' ⟨rfl,hd⟩
 exact ⟨rfl,hd⟩

end Go.Proofs.Ytcicenmmpbgmoaa.P
