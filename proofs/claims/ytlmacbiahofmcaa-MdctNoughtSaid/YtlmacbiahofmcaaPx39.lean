/- The machine side of the laws of one chapter, without conditions: each call of a Go function comes to what the Lean function of its name answers. Written for this claim by a program of the prover. -/
import Derived.Test.YtlmacbiahofmcaaPx0
import Derived.Test.YtlmacbiahofmcaaPx1
import Derived.Test.YtlmacbiahofmcaaPx10
import Derived.Test.YtlmacbiahofmcaaPx12
import Derived.Test.YtlmacbiahofmcaaPx15
import Derived.Test.YtlmacbiahofmcaaPx20
namespace Go.Proofs.Ytlmacbiahofmcaa.P
open Go.RowKit Go.Proofs.YtlmacbiahofmcaaW.PrintWords Go.Proofs.YtlmacbiahofmcaaW.PrintLast Go.Proofs.YtlmacbiahofmcaaW.PrintMore
attribute [local go_sem] max2_int min2_int max_two min_two max_three min_three max_four min_four   -- for this text's walks alone
set_option linter.unusedVariables false
set_option linter.unusedSimpArgs false

/-! ### madrigallaw15_MdctNought: function 7 -/
mutual
def madrigallaw15_MdctNought.j0 : Nat → List Int → Int → Int → Bool → Option (Bool)
 | 0,_,_,_,_ => none
 | k + 1,x0,x1,x5,x28 => if x28 = true then (some true) else (if 0 ≤ (wrap64 (2 * x5)) then (if (wrap64 (2 * x5) : Int).toNat ≤ 35184372088832 then ((mdct_Forward.f k (List.replicate (wrap64 (2 * x5) : Int).toNat 0) x1).bind fun bt541 => (if 0 ≤ x5 then (if (x5 : Int).toNat ≤ 35184372088832 then ((mdct_Inverse.f k (List.replicate (x5 : Int).toNat 0) x1).bind fun bt548 => (if bt541.2 = 0 then (if bt548.2 = 0 then ((madrigallaw15_same.f k bt541.1 (List.replicate (x5 : Int).toNat 0)).bind fun t555 => (if t555 = true then ((madrigallaw15_same.f k bt548.1 (List.replicate (wrap64 (2 * x5) : Int).toNat 0)).bind fun t559 => (madrigallaw15_MdctNought.j1 k x0 x1 x5 (!t559))) else (madrigallaw15_MdctNought.j1 k x0 x1 x5 true))) else (madrigallaw15_MdctNought.j1 k x0 x1 x5 true)) else (madrigallaw15_MdctNought.j1 k x0 x1 x5 true))) else (none)) else (none))) else (none)) else (none))
def madrigallaw15_MdctNought.j1 : Nat → List Int → Int → Int → Bool → Option (Bool)
 | 0,_,_,_,_ => none
 | k + 1,x0,x1,x5,x64 => if x64 = true then (none) else (madrigallaw15_MdctNought.l0 k x0 x1 x5 ([] : List Int) 0)
def madrigallaw15_MdctNought.l0 : Nat → List Int → Int → Int → List Int → Int → Option (Bool)
 | 0,_,_,_,_,_ => none
 | k + 1,x0,x1,x5,x10,x11 => if x11 < x5 then (if 0 ≤ x11 then (if x11 < (x0.length : Int) then (if (rd x0 x11) < (-17179869184) then (some true) else (if (rd x0 x11) > 17179869184 then (some true) else (if x10.length < 17592186044416 then (madrigallaw15_MdctNought.l0 k x0 x1 x5 (x10 ++ [wrap64 (-(rd x0 x11))]) (wrap64 (x11 + 1))) else (none)))) else (none)) else (none)) else ((mdct_Inverse.f k x0 x1).bind fun bt566 => ((mdct_Inverse.f k x10 x1).bind fun bt570 => (madrigallaw15_MdctNought.l1 k bt566.1 bt570.1 0)))
def madrigallaw15_MdctNought.l1 : Nat → List Int → List Int → Int → Option (Bool)
 | 0,_,_,_ => none
 | k + 1,x12,x14,x16 => if x16 < (x12.length : Int) then (if 0 ≤ x16 then (if x16 < (x14.length : Int) then (if (wrap64 ((rd x12 x16) + (rd x14 x16))) > 1 then (none) else (if (wrap64 ((rd x12 x16) + (rd x14 x16))) < (-1) then (none) else (madrigallaw15_MdctNought.l1 k x12 x14 (wrap64 (x16 + 1))))) else (none)) else (none)) else (some true)
end
def madrigallaw15_MdctNought.f (k : Nat) (l0 : List Int) (a1 : Int) : Option (Bool):=(madrigallaw15_awake.f k).bind fun t536 => (if t536 = true then (if (l0.length : Int) > 120 then (madrigallaw15_MdctNought.j0 k l0 a1 (l0.length : Int) true) else ((mdct_Good.f (l0.length : Int) a1).bind fun t537 => (madrigallaw15_MdctNought.j0 k l0 a1 (l0.length : Int) (!t537)))) else (none))
theorem madrigallaw15_MdctNought.mono_l : ∀ k,(∀ y0 y1 y2 y3,LeO (madrigallaw15_MdctNought.j0 k y0 y1 y2 y3) (madrigallaw15_MdctNought.j0 (k + 1) y0 y1 y2 y3)) ∧ (∀ y0 y1 y2 y3,LeO (madrigallaw15_MdctNought.j1 k y0 y1 y2 y3) (madrigallaw15_MdctNought.j1 (k + 1) y0 y1 y2 y3)) ∧ (∀ y0 y1 y2 y3 y4,LeO (madrigallaw15_MdctNought.l0 k y0 y1 y2 y3 y4) (madrigallaw15_MdctNought.l0 (k + 1) y0 y1 y2 y3 y4)) ∧ (∀ y0 y1 y2,LeO (madrigallaw15_MdctNought.l1 k y0 y1 y2) (madrigallaw15_MdctNought.l1 (k + 1) y0 y1 y2))
 | 0 => ⟨fun _ _ _ _ r h => by simp [madrigallaw15_MdctNought.j0] at h,fun _ _ _ _ r h => by simp [madrigallaw15_MdctNought.j1] at h,fun _ _ _ _ _ r h => by simp [madrigallaw15_MdctNought.l0] at h,fun _ _ _ r h => by simp [madrigallaw15_MdctNought.l1] at h⟩
 | k + 1 => by
  obtain ⟨ih0,ih1,ih2,ih3⟩:=madrigallaw15_MdctNought.mono_l k
  refine ⟨?_,?_,?_,?_⟩
  all_goals (intros;first|unfold madrigallaw15_MdctNought.j0|unfold madrigallaw15_MdctNought.j1|unfold madrigallaw15_MdctNought.l0|unfold madrigallaw15_MdctNought.l1)
  all_goals (repeat' first|(with_reducible first|exact ih0 _ _ _ _|exact ih1 _ _ _ _|exact ih2 _ _ _ _ _|exact ih3 _ _ _|exact madrigallaw15_awake.mono _|exact madrigallaw15_same.mono _ _ _|exact mdct_Forward.mono _ _ _|exact mdct_Inverse.mono _ _ _|exact LeO.refl _|exact LeO.none _|refine LeO.ite ?_ ?_|refine LeO.bind ?_ (fun _ => ?_))|exact ih0 _ _ _ _|exact ih1 _ _ _ _|exact ih2 _ _ _ _ _|exact ih3 _ _ _|exact madrigallaw15_awake.mono _|exact madrigallaw15_same.mono _ _ _|exact mdct_Forward.mono _ _ _|exact mdct_Inverse.mono _ _ _|exact LeO.none _|refine LeO.ite ?_ ?_|refine LeO.bind ?_ (fun _ => ?_))
theorem madrigallaw15_MdctNought.mono : ∀ a0 a1 k,LeO (madrigallaw15_MdctNought.f k a0 a1) (madrigallaw15_MdctNought.f (k + 1) a0 a1):=by
 intro a0 a1 k
 obtain ⟨ih0,ih1,ih2,ih3⟩:=madrigallaw15_MdctNought.mono_l k
 unfold madrigallaw15_MdctNought.f
 repeat' first|(with_reducible first|exact ih0 _ _ _ _|exact ih1 _ _ _ _|exact ih2 _ _ _ _ _|exact ih3 _ _ _|exact madrigallaw15_awake.mono _|exact madrigallaw15_same.mono _ _ _|exact mdct_Forward.mono _ _ _|exact mdct_Inverse.mono _ _ _|exact LeO.refl _|exact LeO.none _|refine LeO.ite ?_ ?_|refine LeO.bind ?_ (fun _ => ?_))|exact ih0 _ _ _ _|exact ih1 _ _ _ _|exact ih2 _ _ _ _ _|exact ih3 _ _ _|exact madrigallaw15_awake.mono _|exact madrigallaw15_same.mono _ _ _|exact mdct_Forward.mono _ _ _|exact mdct_Inverse.mono _ _ _|exact LeO.none _|refine LeO.ite ?_ ?_|refine LeO.bind ?_ (fun _ => ?_)
set_option maxHeartbeats 8000000 in
set_option maxRecDepth 100000 in
theorem madrigallaw15_MdctNought.calls (k : Nat) (A0 : Option Addr) (c0 : Nat) (l0 : List Int) (a1 : Int) (r : Bool) (w : World) (hr0 : Kd.C (Kd.int .i64) w A0 l0.length l0) (hc0 : l0.length ≤ c0) (h : madrigallaw15_MdctNought.f k l0 a1 = some r) :
  Calls Try.prog 7 #[.slice A0 l0.length c0,.int .i64 a1] w fun e w' => e = .returned (.bool r) ∧ Below w.heap.size w w':=by
 have HR0:=ak_ hr0
 have HC0:=ak_ hc0
 clear hr0 hc0
 have HB:=ak_ (Below.refl w.heap.size w)
 have H : ((madrigallaw15_awake.f k).bind fun t536 => (if t536 = true then (if (l0.length : Int) > 120 then (madrigallaw15_MdctNought.j0 k l0 a1 (l0.length : Int) true) else ((mdct_Good.f (l0.length : Int) a1).bind fun t537 => (madrigallaw15_MdctNought.j0 k l0 a1 (l0.length : Int) (!t537)))) else (none))) = some r:=h
 clear h
 replace H:=Option.bind_eq_some_iff.mp H
 obtain ⟨t536,A30,H⟩:=H
 (try dsimp only at H)
 have A3:=ak_ A30
 clear A30
 by_cases c4 : t536 = true
 ·subst c4
  have H1 : (if (l0.length : Int) > 120 then (madrigallaw15_MdctNought.j0 k l0 a1 (l0.length : Int) true) else ((mdct_Good.f (l0.length : Int) a1).bind fun t537 => (madrigallaw15_MdctNought.j0 k l0 a1 (l0.length : Int) (!t537)))) = some r:=by rw [if_pos rfl] at H;exact H
  clear H
  have H:=H1
  clear H1
  have HC5:=ak_ H
  clear H
  go_enter Try.func7,Try.ntmps7
  go_upto_region 4 with (first|(go_at_call 9;(with_reducible refine (madrigallaw15_awake.calls k  true _ A3.out).mono ?_);rintro e w6 ⟨rfl,hb⟩;have n0_:=ak_ (below_step (by repeat (first|(with_reducible first|exact HB.out|apply ba_|apply bb_|apply bc_)|exact HB.out)) hb);clear HB;have HB:=n0_;clear n0_;(try clear hb)))
  repeat (go_quiet (first|(go_at_call 9;(with_reducible refine (madrigallaw15_awake.calls k  true _ A3.out).mono ?_);rintro e w6 ⟨rfl,hb⟩;have n0_:=ak_ (below_step (by repeat (first|(with_reducible first|exact HB.out|apply ba_|apply bb_|apply bc_)|exact HB.out)) hb);clear HB;have HB:=n0_;clear n0_;(try clear hb)));go_upto_region 4 with (first|(go_at_call 9;(with_reducible refine (madrigallaw15_awake.calls k  true _ A3.out).mono ?_);rintro e w6 ⟨rfl,hb⟩;have n0_:=ak_ (below_step (by repeat (first|(with_reducible first|exact HB.out|apply ba_|apply bb_|apply bc_)|exact HB.out)) hb);clear HB;have HB:=n0_;clear n0_;(try clear hb))))
  (try simp only [Act.put,List.setIfInBounds_toArray,List.set_cons_zero,List.set_cons_succ])
  go_cut [28] (fun v28 wc => ∃ (kq : Nat) (x28_4 : Bool),v28 = .bool x28_4 ∧ Aside0 (madrigallaw15_MdctNought.j0 kq l0 a1 (l0.length : Int) x28_4 = some r) ∧ Aside0 (kq ≤ k) ∧ Aside0 (Below w.heap.size w wc))
  case first =>
   have H:=HC5.out
   clear HC5
   by_cases c7 : (l0.length : Int) > 120
   ·rw [if_pos c7] at H
    have c7b0 : decide (120 < (l0.length : Int)) = true:=decide_eq_true c7
    have c7b1 : decide (120 < l0.length) = true:=decide_eq_true (by omega)
    clear c7
    (first|rw [c7b0]|(simp only [i64_w,i32_w];rw [c7b0])|skip)
    have H':=ak_ H
    clear H
    go_wp2
    repeat (go_quiet (fail);try go_wp2)
    refine Met.intro ?_
    go_step
    (repeat apply Exists.intro)
    first|refine ⟨?rel69,rfl⟩|(refine ⟨?rel69,?st69⟩;case' st69 => (first|rw [c7b0]|simp only [c7b0]))
    case rel69 => exact ⟨_,(true),(by first|rfl|(simp;done)|(simp [*];done)),H',⟨by first|omega|exact Nat.le_refl _⟩,⟨by repeat (first|(with_reducible first|exact HB.out|apply ba_|apply bb_|apply bc_)|exact HB.out)⟩⟩
   ·rw [if_neg c7] at H
    have c7b0 : decide (120 < (l0.length : Int)) = false:=decide_eq_false c7
    have c7b1 : decide (120 < l0.length) = false:=decide_eq_false (by omega)
    clear c7
    (first|rw [c7b0]|(simp only [i64_w,i32_w];rw [c7b0])|skip)
    replace H:=Option.bind_eq_some_iff.mp H
    obtain ⟨t537,A80,H⟩:=H
    (try dsimp only at H)
    have A8:=ak_ A80
    clear A80
    have H':=ak_ H
    clear H
    go_wp2_with (first|(go_at_call 16;(with_reducible refine (mdct_Good.calls (l0.length : Int) a1 t537 _ A8.out).mono ?_);rintro e w' ⟨rfl,⟨nd,rfl⟩⟩;(try first|exact ⟨rfl,_,World.drewN_drewN _ _ _⟩|exact ⟨rfl,_,Eq.trans (World.drewN_drewN _ _ _) (congrArg (World.drewN _) (Nat.add_assoc _ _ _))⟩)))
    repeat (go_quiet (first|(go_at_call 16;(with_reducible refine (mdct_Good.calls (l0.length : Int) a1 t537 _ A8.out).mono ?_);rintro e w' ⟨rfl,⟨nd,rfl⟩⟩;(try first|exact ⟨rfl,_,World.drewN_drewN _ _ _⟩|exact ⟨rfl,_,Eq.trans (World.drewN_drewN _ _ _) (congrArg (World.drewN _) (Nat.add_assoc _ _ _))⟩)));try go_wp2_with (first|(go_at_call 16;(with_reducible refine (mdct_Good.calls (l0.length : Int) a1 t537 _ A8.out).mono ?_);rintro e w' ⟨rfl,⟨nd,rfl⟩⟩;(try first|exact ⟨rfl,_,World.drewN_drewN _ _ _⟩|exact ⟨rfl,_,Eq.trans (World.drewN_drewN _ _ _) (congrArg (World.drewN _) (Nat.add_assoc _ _ _))⟩))))
    refine Met.intro ?_
    go_step
    (repeat apply Exists.intro)
    first|refine ⟨?rel85,rfl⟩|(refine ⟨?rel85,?st85⟩;case' st85 => (first|rw [c7b0]|simp only [c7b0]))
    case rel85 => exact ⟨_,(!t537),(by first|rfl|(simp;done)|(simp [*];done)),H',⟨by first|omega|exact Nat.le_refl _⟩,⟨by repeat (first|(with_reducible first|exact HB.out|apply ba_|apply bb_|apply bc_)|exact HB.out)⟩⟩
  case rest => as_aux_lemma =>
   clear HC5
   try clear p2
   try clear c4
   try clear c7
   try clear c7b0
   try clear c7b1
   obtain ⟨kq,x28_4,rfl,HA,HJ4,HB⟩:=hcut
   (try simp only [i64_w,i32_w])
   cases kq with
   | zero => exact absurd HA.out (by simp [madrigallaw15_MdctNought.j0])
   | succ kj4 =>
    have H:=HA.out
    clear HA
    simp only [madrigallaw15_MdctNought.j0] at H
    by_cases c9 : x28_4 = true
    ·subst c9
     have H1 : (some true) = some r:=by rw [if_pos rfl] at H;exact H
     clear H
     have H:=H1
     clear H1
     obtain rfl:=Option.some.inj H
     go_wp2
     repeat (go_quiet (fail);try go_wp2)
     go_ret
     exact ⟨by first|rfl|(simp [errW_none,errW_some] <;> rfl)|(simp [*,errW_none,errW_some] <;> rfl),by repeat (first|(with_reducible first|exact HB.out|apply ba_|apply bb_|apply bc_)|exact HB.out)⟩
    ·replace c9:=Bool.eq_false_iff.mpr c9
     subst c9
     have H1 : (if 0 ≤ (wrap64 (2 * (l0.length : Int))) then (if (wrap64 (2 * (l0.length : Int)) : Int).toNat ≤ 35184372088832 then ((mdct_Forward.f kj4 (List.replicate (wrap64 (2 * (l0.length : Int)) : Int).toNat 0) a1).bind fun bt541 => (if 0 ≤ (l0.length : Int) then (if ((l0.length : Int) : Int).toNat ≤ 35184372088832 then ((mdct_Inverse.f kj4 (List.replicate ((l0.length : Int) : Int).toNat 0) a1).bind fun bt548 => (if bt541.2 = 0 then (if bt548.2 = 0 then ((madrigallaw15_same.f kj4 bt541.1 (List.replicate ((l0.length : Int) : Int).toNat 0)).bind fun t555 => (if t555 = true then ((madrigallaw15_same.f kj4 bt548.1 (List.replicate (wrap64 (2 * (l0.length : Int)) : Int).toNat 0)).bind fun t559 => (madrigallaw15_MdctNought.j1 kj4 l0 a1 (l0.length : Int) (!t559))) else (madrigallaw15_MdctNought.j1 kj4 l0 a1 (l0.length : Int) true))) else (madrigallaw15_MdctNought.j1 kj4 l0 a1 (l0.length : Int) true)) else (madrigallaw15_MdctNought.j1 kj4 l0 a1 (l0.length : Int) true))) else (none)) else (none))) else (none)) else (none)) = some r:=by rw [if_neg (show ¬ (false = true) by decide)] at H;exact H
     clear H
     have H:=H1
     clear H1
     obtain ⟨ji10,hji10⟩ : ∃ j_ : Int,(wrap64 (2 * (l0.length : Int))) = j_:=⟨_,rfl⟩
     replace H : (if 0 ≤ (ji10) then (if (ji10 : Int).toNat ≤ 35184372088832 then ((mdct_Forward.f kj4 (List.replicate (ji10 : Int).toNat 0) a1).bind fun bt541 => (if 0 ≤ (l0.length : Int) then (if ((l0.length : Int) : Int).toNat ≤ 35184372088832 then ((mdct_Inverse.f kj4 (List.replicate ((l0.length : Int) : Int).toNat 0) a1).bind fun bt548 => (if bt541.2 = 0 then (if bt548.2 = 0 then ((madrigallaw15_same.f kj4 bt541.1 (List.replicate ((l0.length : Int) : Int).toNat 0)).bind fun t555 => (if t555 = true then ((madrigallaw15_same.f kj4 bt548.1 (List.replicate (ji10 : Int).toNat 0)).bind fun t559 => (madrigallaw15_MdctNought.j1 kj4 l0 a1 (l0.length : Int) (!t559))) else (madrigallaw15_MdctNought.j1 kj4 l0 a1 (l0.length : Int) true))) else (madrigallaw15_MdctNought.j1 kj4 l0 a1 (l0.length : Int) true)) else (madrigallaw15_MdctNought.j1 kj4 l0 a1 (l0.length : Int) true))) else (none)) else (none))) else (none)) else (none)) = some r:=by first|(rw [hji10] at H;exact H)|(simp only [hji10] at H ⊢;exact H)
     have hji10w : (IntKind.i64.wrap (2 * (l0.length : Int))) = ji10:=(i64_w _).trans hji10
     by_cases c11 : 0 ≤ (ji10)
     ·rw [if_pos c11] at H
      have c11b0:=eq_true c11
      have c11b1 : decide (0 ≤ (ji10)) = true:=decide_eq_true c11
      clear c11
      by_cases c12 : (ji10 : Int).toNat ≤ 35184372088832
      ·rw [if_pos c12] at H
       have c12b0:=eq_true c12
       have c12b1 : decide ((ji10 : Int).toNat ≤ 35184372088832) = true:=decide_eq_true c12
       clear c12
       obtain ⟨y538,hy538⟩ : ∃ y_ : List Int,y_ = (List.replicate (ji10 : Int).toNat 0):=⟨_,rfl⟩
       replace H : ((mdct_Forward.f kj4 y538 a1).bind fun bt541 => (if 0 ≤ (l0.length : Int) then (if ((l0.length : Int) : Int).toNat ≤ 35184372088832 then ((mdct_Inverse.f kj4 (List.replicate ((l0.length : Int) : Int).toNat 0) a1).bind fun bt548 => (if bt541.2 = 0 then (if bt548.2 = 0 then ((madrigallaw15_same.f kj4 bt541.1 (List.replicate ((l0.length : Int) : Int).toNat 0)).bind fun t555 => (if t555 = true then ((madrigallaw15_same.f kj4 bt548.1 (List.replicate (ji10 : Int).toNat 0)).bind fun t559 => (madrigallaw15_MdctNought.j1 kj4 l0 a1 (l0.length : Int) (!t559))) else (madrigallaw15_MdctNought.j1 kj4 l0 a1 (l0.length : Int) true))) else (madrigallaw15_MdctNought.j1 kj4 l0 a1 (l0.length : Int) true)) else (madrigallaw15_MdctNought.j1 kj4 l0 a1 (l0.length : Int) true))) else (none)) else (none))) = some r:=by first|(rw [hy538];with_reducible exact H)|(have H2_:=(Option.bind_some _ _).symm.trans H;rw [hy538];with_reducible exact H2_)|(have H2_:=(Option.bind_some _ _).symm.trans H;with_reducible exact H2_)|with_reducible exact H|(rw [hy538];exact H)|exact H
       have Ny538:=ak_ hy538
       clear hy538
       replace H:=Option.bind_eq_some_iff.mp H
       obtain ⟨⟨t541,t542⟩,A130,H⟩:=H
       (try dsimp only at H)
       have A13:=ak_ A130
       clear A130
       by_cases c14 : 0 ≤ (l0.length : Int)
       ·rw [if_pos c14] at H
        have c14b0:=eq_true c14
        have c14b1 : decide (0 ≤ (l0.length : Int)) = true:=decide_eq_true c14
        clear c14
        by_cases c15 : ((l0.length : Int) : Int).toNat ≤ 35184372088832
        ·rw [if_pos c15] at H
         have c15b0:=eq_true c15
         have c15b1 : decide (((l0.length : Int) : Int).toNat ≤ 35184372088832) = true:=decide_eq_true c15
         clear c15
         obtain ⟨y545,hy545⟩ : ∃ y_ : List Int,y_ = (List.replicate ((l0.length : Int) : Int).toNat 0):=⟨_,rfl⟩
         replace H : ((mdct_Inverse.f kj4 y545 a1).bind fun bt548 => (if t542 = 0 then (if bt548.2 = 0 then ((madrigallaw15_same.f kj4 t541 (List.replicate ((l0.length : Int) : Int).toNat 0)).bind fun t555 => (if t555 = true then ((madrigallaw15_same.f kj4 bt548.1 (List.replicate (ji10 : Int).toNat 0)).bind fun t559 => (madrigallaw15_MdctNought.j1 kj4 l0 a1 (l0.length : Int) (!t559))) else (madrigallaw15_MdctNought.j1 kj4 l0 a1 (l0.length : Int) true))) else (madrigallaw15_MdctNought.j1 kj4 l0 a1 (l0.length : Int) true)) else (madrigallaw15_MdctNought.j1 kj4 l0 a1 (l0.length : Int) true))) = some r:=by first|(rw [hy545];with_reducible exact H)|(have H2_:=(Option.bind_some _ _).symm.trans H;rw [hy545];with_reducible exact H2_)|(have H2_:=(Option.bind_some _ _).symm.trans H;with_reducible exact H2_)|with_reducible exact H|(rw [hy545];exact H)|exact H
         have Ny545:=ak_ hy545
         clear hy545
         replace H:=Option.bind_eq_some_iff.mp H
         obtain ⟨⟨t548,t549⟩,A160,H⟩:=H
         (try dsimp only at H)
         have A16:=ak_ A160
         clear A160
         have HC17:=ak_ H
         clear H
         go_upto_region 8 with (first|((with_reducible refine gate_dst (N:=32) rfl ?_);(try (refine gate_guard (by rfl) ?_;dsimp only));refine Kd.R_make (Kd.int .i64) _ 2 rfl (N:=32) rfl 23 _ _ rfl ji10 rfl rfl Try.underlying23 (.int .i64 0) 8 info2 rfl (by decide) (by omega) 0 (ok:=fun _ => True) (okp:=fun _ => True) rfl (fun _ hk => hk) trivial (of_decide_eq_true (by first|(with_reducible assumption)|assumption)) (Nat.le_trans (Nat.mul_le_mul_right _ (of_decide_eq_true (by first|(with_reducible assumption)|assumption) : ji10.toNat ≤ 35184372088832)) (by omega)) (Below.refl _ _) (Nat.le_refl _) ?_;intro v539 w18 ho19 hb hg_ hnew_;clear hg_ hnew_;(first|rw [← Ny538.out] at ho19|(simp only [Int.reduceToNat] at ho19;rw [← Ny538.out] at ho19));have n0_:=ak_ (Kd.R_lower ho19 (below_size (by repeat (first|(with_reducible first|exact HB.out|apply ba_|apply bb_|apply bc_)|exact HB.out))));have n1_:=ak_ (below_step (by repeat (first|(with_reducible first|exact HB.out|apply ba_|apply bb_|apply bc_)|exact HB.out)) hb);clear HB;have HO540:=n0_;have HB:=n1_;clear n0_ n1_;clear hb ho19;obtain ⟨Ao20,co20,eo20⟩:=Kd.R_slice HO540.out;subst eo20)|(go_at_call 11;(with_reducible refine (mdct_Forward.calls kj4 _ _ y538 a1 t541 t542 _ ?side1 ?side2 A13.out).mono ?_);(case side1 => repeat (first|exact (Kd.R_reads' HO540.out).2.2|(with_reducible refine Kd.C_alloc ?_ _)|(with_reducible refine Kd.C_drewN ?_ _)|(with_reducible refine Kd.C_drew ?_)));(case side2 => exact (Kd.R_reads' HO540.out).2.1);rintro e w21 ⟨v543,rfl,ho0,hb⟩;have n0_:=ak_ (Kd.R_elder' (by (with_reducible repeat (first|apply ra_|apply rb_|apply rc_));exact HO540.out) (Kd.R_base ho0) hb);have n1_:=ak_ (Kd.R_lower (Kd.R_new' ho0 (Kd.R_lt (by (with_reducible repeat (first|apply ra_|apply rb_|apply rc_));exact HO540.out))) (below_size (by repeat (first|(with_reducible first|exact HB.out|apply ba_|apply bb_|apply bc_)|exact HB.out))));have n2_:=ak_ (below_step (by repeat (first|(with_reducible first|exact HB.out|apply ba_|apply bb_|apply bc_)|exact HB.out)) hb);clear HO540;clear HB;have HO540:=n0_;have HO544:=n1_;have HB:=n2_;clear n0_ n1_ n2_;(try clear hb);(try clear ho0))|((with_reducible refine gate_dst (N:=39) rfl ?_);(try (refine gate_guard (by rfl) ?_;dsimp only));refine Kd.R_make (Kd.int .i64) _ 2 rfl (N:=39) rfl 23 _ _ rfl (l0.length : Int) rfl rfl Try.underlying23 (.int .i64 0) 8 info2 rfl (by decide) (by omega) 0 (ok:=fun _ => True) (okp:=fun _ => True) rfl (fun _ hk => hk) trivial (of_decide_eq_true (by first|(with_reducible assumption)|assumption)) (Nat.le_trans (Nat.mul_le_mul_right _ (of_decide_eq_true (by first|(with_reducible assumption)|assumption) : (l0.length : Int).toNat ≤ 35184372088832)) (by omega)) (Below.refl _ _) (Nat.le_refl _) ?_;intro v546 w22 ho23 hb hg_ hnew_;clear hg_ hnew_;(first|rw [← Ny545.out] at ho23|(simp only [Int.reduceToNat] at ho23;rw [← Ny545.out] at ho23));have n0_:=ak_ (Kd.R_elder' (by (with_reducible repeat (first|apply ra_|apply rb_|apply rc_));exact HO540.out) (Kd.R_base ho23) hb);have n1_:=ak_ (Kd.R_elder' (by (with_reducible repeat (first|apply ra_|apply rb_|apply rc_));exact HO544.out) (Kd.R_base ho23) hb);have n2_:=ak_ (Kd.R_lower (Kd.R_new' (Kd.R_new' ho23 (Kd.R_lt (by (with_reducible repeat (first|apply ra_|apply rb_|apply rc_));exact HO540.out))) (Kd.R_lt (by (with_reducible repeat (first|apply ra_|apply rb_|apply rc_));exact HO544.out))) (below_size (by repeat (first|(with_reducible first|exact HB.out|apply ba_|apply bb_|apply bc_)|exact HB.out))));have n3_:=ak_ (below_step (by repeat (first|(with_reducible first|exact HB.out|apply ba_|apply bb_|apply bc_)|exact HB.out)) hb);clear HO540;clear HO544;clear HB;have HO540:=n0_;have HO544:=n1_;have HO547:=n2_;have HB:=n3_;clear n0_ n1_ n2_ n3_;clear hb ho23;obtain ⟨Ao24,co24,eo24⟩:=Kd.R_slice HO547.out;subst eo24)|(go_at_call 12;(with_reducible refine (mdct_Inverse.calls kj4 _ _ y545 a1 t548 t549 _ ?side1 ?side2 A16.out).mono ?_);(case side1 => repeat (first|exact (Kd.R_reads' HO547.out).2.2|(with_reducible refine Kd.C_alloc ?_ _)|(with_reducible refine Kd.C_drewN ?_ _)|(with_reducible refine Kd.C_drew ?_)));(case side2 => exact (Kd.R_reads' HO547.out).2.1);rintro e w25 ⟨v550,rfl,ho0,hb⟩;have n0_:=ak_ (Kd.R_elder' (by (with_reducible repeat (first|apply ra_|apply rb_|apply rc_));exact HO540.out) (Kd.R_base ho0) hb);have n1_:=ak_ (Kd.R_elder' (by (with_reducible repeat (first|apply ra_|apply rb_|apply rc_));exact HO544.out) (Kd.R_base ho0) hb);have n2_:=ak_ (Kd.R_elder' (by (with_reducible repeat (first|apply ra_|apply rb_|apply rc_));exact HO547.out) (Kd.R_base ho0) hb);have n3_:=ak_ (Kd.R_lower (Kd.R_new' (Kd.R_new' (Kd.R_new' ho0 (Kd.R_lt (by (with_reducible repeat (first|apply ra_|apply rb_|apply rc_));exact HO540.out))) (Kd.R_lt (by (with_reducible repeat (first|apply ra_|apply rb_|apply rc_));exact HO544.out))) (Kd.R_lt (by (with_reducible repeat (first|apply ra_|apply rb_|apply rc_));exact HO547.out))) (below_size (by repeat (first|(with_reducible first|exact HB.out|apply ba_|apply bb_|apply bc_)|exact HB.out))));have n4_:=ak_ (below_step (by repeat (first|(with_reducible first|exact HB.out|apply ba_|apply bb_|apply bc_)|exact HB.out)) hb);clear HO540;clear HO544;clear HO547;clear HB;have HO540:=n0_;have HO544:=n1_;have HO547:=n2_;have HO551:=n3_;have HB:=n4_;clear n0_ n1_ n2_ n3_ n4_;(try clear hb);(try clear ho0)))
         repeat (go_quiet (first|((with_reducible refine gate_dst (N:=32) rfl ?_);(try (refine gate_guard (by rfl) ?_;dsimp only));refine Kd.R_make (Kd.int .i64) _ 2 rfl (N:=32) rfl 23 _ _ rfl ji10 rfl rfl Try.underlying23 (.int .i64 0) 8 info2 rfl (by decide) (by omega) 0 (ok:=fun _ => True) (okp:=fun _ => True) rfl (fun _ hk => hk) trivial (of_decide_eq_true (by first|(with_reducible assumption)|assumption)) (Nat.le_trans (Nat.mul_le_mul_right _ (of_decide_eq_true (by first|(with_reducible assumption)|assumption) : ji10.toNat ≤ 35184372088832)) (by omega)) (Below.refl _ _) (Nat.le_refl _) ?_;intro v539 w18 ho19 hb hg_ hnew_;clear hg_ hnew_;(first|rw [← Ny538.out] at ho19|(simp only [Int.reduceToNat] at ho19;rw [← Ny538.out] at ho19));have n0_:=ak_ (Kd.R_lower ho19 (below_size (by repeat (first|(with_reducible first|exact HB.out|apply ba_|apply bb_|apply bc_)|exact HB.out))));have n1_:=ak_ (below_step (by repeat (first|(with_reducible first|exact HB.out|apply ba_|apply bb_|apply bc_)|exact HB.out)) hb);clear HB;have HO540:=n0_;have HB:=n1_;clear n0_ n1_;clear hb ho19;obtain ⟨Ao20,co20,eo20⟩:=Kd.R_slice HO540.out;subst eo20)|(go_at_call 11;(with_reducible refine (mdct_Forward.calls kj4 _ _ y538 a1 t541 t542 _ ?side1 ?side2 A13.out).mono ?_);(case side1 => repeat (first|exact (Kd.R_reads' HO540.out).2.2|(with_reducible refine Kd.C_alloc ?_ _)|(with_reducible refine Kd.C_drewN ?_ _)|(with_reducible refine Kd.C_drew ?_)));(case side2 => exact (Kd.R_reads' HO540.out).2.1);rintro e w21 ⟨v543,rfl,ho0,hb⟩;have n0_:=ak_ (Kd.R_elder' (by (with_reducible repeat (first|apply ra_|apply rb_|apply rc_));exact HO540.out) (Kd.R_base ho0) hb);have n1_:=ak_ (Kd.R_lower (Kd.R_new' ho0 (Kd.R_lt (by (with_reducible repeat (first|apply ra_|apply rb_|apply rc_));exact HO540.out))) (below_size (by repeat (first|(with_reducible first|exact HB.out|apply ba_|apply bb_|apply bc_)|exact HB.out))));have n2_:=ak_ (below_step (by repeat (first|(with_reducible first|exact HB.out|apply ba_|apply bb_|apply bc_)|exact HB.out)) hb);clear HO540;clear HB;have HO540:=n0_;have HO544:=n1_;have HB:=n2_;clear n0_ n1_ n2_;(try clear hb);(try clear ho0))|((with_reducible refine gate_dst (N:=39) rfl ?_);(try (refine gate_guard (by rfl) ?_;dsimp only));refine Kd.R_make (Kd.int .i64) _ 2 rfl (N:=39) rfl 23 _ _ rfl (l0.length : Int) rfl rfl Try.underlying23 (.int .i64 0) 8 info2 rfl (by decide) (by omega) 0 (ok:=fun _ => True) (okp:=fun _ => True) rfl (fun _ hk => hk) trivial (of_decide_eq_true (by first|(with_reducible assumption)|assumption)) (Nat.le_trans (Nat.mul_le_mul_right _ (of_decide_eq_true (by first|(with_reducible assumption)|assumption) : (l0.length : Int).toNat ≤ 35184372088832)) (by omega)) (Below.refl _ _) (Nat.le_refl _) ?_;intro v546 w22 ho23 hb hg_ hnew_;clear hg_ hnew_;(first|rw [← Ny545.out] at ho23|(simp only [Int.reduceToNat] at ho23;rw [← Ny545.out] at ho23));have n0_:=ak_ (Kd.R_elder' (by (with_reducible repeat (first|apply ra_|apply rb_|apply rc_));exact HO540.out) (Kd.R_base ho23) hb);have n1_:=ak_ (Kd.R_elder' (by (with_reducible repeat (first|apply ra_|apply rb_|apply rc_));exact HO544.out) (Kd.R_base ho23) hb);have n2_:=ak_ (Kd.R_lower (Kd.R_new' (Kd.R_new' ho23 (Kd.R_lt (by (with_reducible repeat (first|apply ra_|apply rb_|apply rc_));exact HO540.out))) (Kd.R_lt (by (with_reducible repeat (first|apply ra_|apply rb_|apply rc_));exact HO544.out))) (below_size (by repeat (first|(with_reducible first|exact HB.out|apply ba_|apply bb_|apply bc_)|exact HB.out))));have n3_:=ak_ (below_step (by repeat (first|(with_reducible first|exact HB.out|apply ba_|apply bb_|apply bc_)|exact HB.out)) hb);clear HO540;clear HO544;clear HB;have HO540:=n0_;have HO544:=n1_;have HO547:=n2_;have HB:=n3_;clear n0_ n1_ n2_ n3_;clear hb ho23;obtain ⟨Ao24,co24,eo24⟩:=Kd.R_slice HO547.out;subst eo24)|(go_at_call 12;(with_reducible refine (mdct_Inverse.calls kj4 _ _ y545 a1 t548 t549 _ ?side1 ?side2 A16.out).mono ?_);(case side1 => repeat (first|exact (Kd.R_reads' HO547.out).2.2|(with_reducible refine Kd.C_alloc ?_ _)|(with_reducible refine Kd.C_drewN ?_ _)|(with_reducible refine Kd.C_drew ?_)));(case side2 => exact (Kd.R_reads' HO547.out).2.1);rintro e w25 ⟨v550,rfl,ho0,hb⟩;have n0_:=ak_ (Kd.R_elder' (by (with_reducible repeat (first|apply ra_|apply rb_|apply rc_));exact HO540.out) (Kd.R_base ho0) hb);have n1_:=ak_ (Kd.R_elder' (by (with_reducible repeat (first|apply ra_|apply rb_|apply rc_));exact HO544.out) (Kd.R_base ho0) hb);have n2_:=ak_ (Kd.R_elder' (by (with_reducible repeat (first|apply ra_|apply rb_|apply rc_));exact HO547.out) (Kd.R_base ho0) hb);have n3_:=ak_ (Kd.R_lower (Kd.R_new' (Kd.R_new' (Kd.R_new' ho0 (Kd.R_lt (by (with_reducible repeat (first|apply ra_|apply rb_|apply rc_));exact HO540.out))) (Kd.R_lt (by (with_reducible repeat (first|apply ra_|apply rb_|apply rc_));exact HO544.out))) (Kd.R_lt (by (with_reducible repeat (first|apply ra_|apply rb_|apply rc_));exact HO547.out))) (below_size (by repeat (first|(with_reducible first|exact HB.out|apply ba_|apply bb_|apply bc_)|exact HB.out))));have n4_:=ak_ (below_step (by repeat (first|(with_reducible first|exact HB.out|apply ba_|apply bb_|apply bc_)|exact HB.out)) hb);clear HO540;clear HO544;clear HO547;clear HB;have HO540:=n0_;have HO544:=n1_;have HO547:=n2_;have HO551:=n3_;have HB:=n4_;clear n0_ n1_ n2_ n3_ n4_;(try clear hb);(try clear ho0)));go_upto_region 8 with (first|((with_reducible refine gate_dst (N:=32) rfl ?_);(try (refine gate_guard (by rfl) ?_;dsimp only));refine Kd.R_make (Kd.int .i64) _ 2 rfl (N:=32) rfl 23 _ _ rfl ji10 rfl rfl Try.underlying23 (.int .i64 0) 8 info2 rfl (by decide) (by omega) 0 (ok:=fun _ => True) (okp:=fun _ => True) rfl (fun _ hk => hk) trivial (of_decide_eq_true (by first|(with_reducible assumption)|assumption)) (Nat.le_trans (Nat.mul_le_mul_right _ (of_decide_eq_true (by first|(with_reducible assumption)|assumption) : ji10.toNat ≤ 35184372088832)) (by omega)) (Below.refl _ _) (Nat.le_refl _) ?_;intro v539 w18 ho19 hb hg_ hnew_;clear hg_ hnew_;(first|rw [← Ny538.out] at ho19|(simp only [Int.reduceToNat] at ho19;rw [← Ny538.out] at ho19));have n0_:=ak_ (Kd.R_lower ho19 (below_size (by repeat (first|(with_reducible first|exact HB.out|apply ba_|apply bb_|apply bc_)|exact HB.out))));have n1_:=ak_ (below_step (by repeat (first|(with_reducible first|exact HB.out|apply ba_|apply bb_|apply bc_)|exact HB.out)) hb);clear HB;have HO540:=n0_;have HB:=n1_;clear n0_ n1_;clear hb ho19;obtain ⟨Ao20,co20,eo20⟩:=Kd.R_slice HO540.out;subst eo20)|(go_at_call 11;(with_reducible refine (mdct_Forward.calls kj4 _ _ y538 a1 t541 t542 _ ?side1 ?side2 A13.out).mono ?_);(case side1 => repeat (first|exact (Kd.R_reads' HO540.out).2.2|(with_reducible refine Kd.C_alloc ?_ _)|(with_reducible refine Kd.C_drewN ?_ _)|(with_reducible refine Kd.C_drew ?_)));(case side2 => exact (Kd.R_reads' HO540.out).2.1);rintro e w21 ⟨v543,rfl,ho0,hb⟩;have n0_:=ak_ (Kd.R_elder' (by (with_reducible repeat (first|apply ra_|apply rb_|apply rc_));exact HO540.out) (Kd.R_base ho0) hb);have n1_:=ak_ (Kd.R_lower (Kd.R_new' ho0 (Kd.R_lt (by (with_reducible repeat (first|apply ra_|apply rb_|apply rc_));exact HO540.out))) (below_size (by repeat (first|(with_reducible first|exact HB.out|apply ba_|apply bb_|apply bc_)|exact HB.out))));have n2_:=ak_ (below_step (by repeat (first|(with_reducible first|exact HB.out|apply ba_|apply bb_|apply bc_)|exact HB.out)) hb);clear HO540;clear HB;have HO540:=n0_;have HO544:=n1_;have HB:=n2_;clear n0_ n1_ n2_;(try clear hb);(try clear ho0))|((with_reducible refine gate_dst (N:=39) rfl ?_);(try (refine gate_guard (by rfl) ?_;dsimp only));refine Kd.R_make (Kd.int .i64) _ 2 rfl (N:=39) rfl 23 _ _ rfl (l0.length : Int) rfl rfl Try.underlying23 (.int .i64 0) 8 info2 rfl (by decide) (by omega) 0 (ok:=fun _ => True) (okp:=fun _ => True) rfl (fun _ hk => hk) trivial (of_decide_eq_true (by first|(with_reducible assumption)|assumption)) (Nat.le_trans (Nat.mul_le_mul_right _ (of_decide_eq_true (by first|(with_reducible assumption)|assumption) : (l0.length : Int).toNat ≤ 35184372088832)) (by omega)) (Below.refl _ _) (Nat.le_refl _) ?_;intro v546 w22 ho23 hb hg_ hnew_;clear hg_ hnew_;(first|rw [← Ny545.out] at ho23|(simp only [Int.reduceToNat] at ho23;rw [← Ny545.out] at ho23));have n0_:=ak_ (Kd.R_elder' (by (with_reducible repeat (first|apply ra_|apply rb_|apply rc_));exact HO540.out) (Kd.R_base ho23) hb);have n1_:=ak_ (Kd.R_elder' (by (with_reducible repeat (first|apply ra_|apply rb_|apply rc_));exact HO544.out) (Kd.R_base ho23) hb);have n2_:=ak_ (Kd.R_lower (Kd.R_new' (Kd.R_new' ho23 (Kd.R_lt (by (with_reducible repeat (first|apply ra_|apply rb_|apply rc_));exact HO540.out))) (Kd.R_lt (by (with_reducible repeat (first|apply ra_|apply rb_|apply rc_));exact HO544.out))) (below_size (by repeat (first|(with_reducible first|exact HB.out|apply ba_|apply bb_|apply bc_)|exact HB.out))));have n3_:=ak_ (below_step (by repeat (first|(with_reducible first|exact HB.out|apply ba_|apply bb_|apply bc_)|exact HB.out)) hb);clear HO540;clear HO544;clear HB;have HO540:=n0_;have HO544:=n1_;have HO547:=n2_;have HB:=n3_;clear n0_ n1_ n2_ n3_;clear hb ho23;obtain ⟨Ao24,co24,eo24⟩:=Kd.R_slice HO547.out;subst eo24)|(go_at_call 12;(with_reducible refine (mdct_Inverse.calls kj4 _ _ y545 a1 t548 t549 _ ?side1 ?side2 A16.out).mono ?_);(case side1 => repeat (first|exact (Kd.R_reads' HO547.out).2.2|(with_reducible refine Kd.C_alloc ?_ _)|(with_reducible refine Kd.C_drewN ?_ _)|(with_reducible refine Kd.C_drew ?_)));(case side2 => exact (Kd.R_reads' HO547.out).2.1);rintro e w25 ⟨v550,rfl,ho0,hb⟩;have n0_:=ak_ (Kd.R_elder' (by (with_reducible repeat (first|apply ra_|apply rb_|apply rc_));exact HO540.out) (Kd.R_base ho0) hb);have n1_:=ak_ (Kd.R_elder' (by (with_reducible repeat (first|apply ra_|apply rb_|apply rc_));exact HO544.out) (Kd.R_base ho0) hb);have n2_:=ak_ (Kd.R_elder' (by (with_reducible repeat (first|apply ra_|apply rb_|apply rc_));exact HO547.out) (Kd.R_base ho0) hb);have n3_:=ak_ (Kd.R_lower (Kd.R_new' (Kd.R_new' (Kd.R_new' ho0 (Kd.R_lt (by (with_reducible repeat (first|apply ra_|apply rb_|apply rc_));exact HO540.out))) (Kd.R_lt (by (with_reducible repeat (first|apply ra_|apply rb_|apply rc_));exact HO544.out))) (Kd.R_lt (by (with_reducible repeat (first|apply ra_|apply rb_|apply rc_));exact HO547.out))) (below_size (by repeat (first|(with_reducible first|exact HB.out|apply ba_|apply bb_|apply bc_)|exact HB.out))));have n4_:=ak_ (below_step (by repeat (first|(with_reducible first|exact HB.out|apply ba_|apply bb_|apply bc_)|exact HB.out)) hb);clear HO540;clear HO544;clear HO547;clear HB;have HO540:=n0_;have HO544:=n1_;have HO547:=n2_;have HO551:=n3_;have HB:=n4_;clear n0_ n1_ n2_ n3_ n4_;(try clear hb);(try clear ho0))))
         (try simp only [Act.put,List.setIfInBounds_toArray,List.set_cons_zero,List.set_cons_succ])
         go_cut [64] (fun v64 wc => ∃ (kq : Nat) (x64_16 : Bool),v64 = .bool x64_16 ∧ Aside0 (madrigallaw15_MdctNought.j1 kq l0 a1 (l0.length : Int) x64_16 = some r) ∧ Aside0 (kq ≤ kj4) ∧ Aside0 (Below w.heap.size w wc))
         case first =>
          have H:=HC17.out
          clear HC17
          by_cases c26 : t542 = 0
          ·rw [if_pos c26] at H
           have c26b0 : (t542 == 0) = true:=beq_iff_eq.mpr c26
           have c26b1 : (t542 != 0) = false:=bne_eq_false_iff_eq.mpr c26
           clear c26
           (first|rw [c26b0]|(simp only [i64_w,i32_w];rw [c26b0])|skip)
           by_cases c27 : t549 = 0
           ·rw [if_pos c27] at H
            have c27b0 : (t549 == 0) = true:=beq_iff_eq.mpr c27
            have c27b1 : (t549 != 0) = false:=bne_eq_false_iff_eq.mpr c27
            clear c27
            obtain ⟨y552,hy552⟩ : ∃ y_ : List Int,y_ = (List.replicate ((l0.length : Int) : Int).toNat 0):=⟨_,rfl⟩
            replace H : ((madrigallaw15_same.f kj4 t541 y552).bind fun t555 => (if t555 = true then ((madrigallaw15_same.f kj4 t548 (List.replicate (ji10 : Int).toNat 0)).bind fun t559 => (madrigallaw15_MdctNought.j1 kj4 l0 a1 (l0.length : Int) (!t559))) else (madrigallaw15_MdctNought.j1 kj4 l0 a1 (l0.length : Int) true))) = some r:=by first|(rw [hy552];with_reducible exact H)|(have H2_:=(Option.bind_some _ _).symm.trans H;rw [hy552];with_reducible exact H2_)|(have H2_:=(Option.bind_some _ _).symm.trans H;with_reducible exact H2_)|with_reducible exact H|(rw [hy552];exact H)|exact H
            have Ny552:=ak_ hy552
            clear hy552
            replace H:=Option.bind_eq_some_iff.mp H
            obtain ⟨t555,A280,H⟩:=H
            (try dsimp only at H)
            have A28:=ak_ A280
            clear A280
            by_cases c29 : t555 = true
            ·subst c29
             have H1 : ((madrigallaw15_same.f kj4 t548 (List.replicate (ji10 : Int).toNat 0)).bind fun t559 => (madrigallaw15_MdctNought.j1 kj4 l0 a1 (l0.length : Int) (!t559))) = some r:=by rw [if_pos rfl] at H;exact H
             clear H
             have H:=H1
             clear H1
             obtain ⟨y556,hy556⟩ : ∃ y_ : List Int,y_ = (List.replicate (ji10 : Int).toNat 0):=⟨_,rfl⟩
             replace H : ((madrigallaw15_same.f kj4 t548 y556).bind fun t559 => (madrigallaw15_MdctNought.j1 kj4 l0 a1 (l0.length : Int) (!t559))) = some r:=by first|(rw [hy556];with_reducible exact H)|(have H2_:=(Option.bind_some _ _).symm.trans H;rw [hy556];with_reducible exact H2_)|(have H2_:=(Option.bind_some _ _).symm.trans H;with_reducible exact H2_)|with_reducible exact H|(rw [hy556];exact H)|exact H
             have Ny556:=ak_ hy556
             clear hy556
             replace H:=Option.bind_eq_some_iff.mp H
             obtain ⟨t559,A300,H⟩:=H
             (try dsimp only at H)
             have A30:=ak_ A300
             clear A300
             have H':=ak_ H
             clear H
             go_wp2_with (first|((with_reducible refine gate_dst (N:=53) rfl ?_);(try (refine gate_guard (by rfl) ?_;dsimp only));refine Kd.R_make (Kd.int .i64) _ 2 rfl (N:=53) rfl 23 _ _ rfl (l0.length : Int) rfl rfl Try.underlying23 (.int .i64 0) 8 info2 rfl (by decide) (by omega) 0 (ok:=fun _ => True) (okp:=fun _ => True) rfl (fun _ hk => hk) trivial (of_decide_eq_true (by first|(with_reducible assumption)|assumption)) (Nat.le_trans (Nat.mul_le_mul_right _ (of_decide_eq_true (by first|(with_reducible assumption)|assumption) : (l0.length : Int).toNat ≤ 35184372088832)) (by omega)) (Below.refl _ _) (Nat.le_refl _) ?_;intro v553 w31 ho32 hb hg_ hnew_;clear hg_ hnew_;(first|rw [← Ny552.out] at ho32|(simp only [Int.reduceToNat] at ho32;rw [← Ny552.out] at ho32));have n0_:=ak_ (Kd.R_elder' (by (with_reducible repeat (first|apply ra_|apply rb_|apply rc_));exact HO540.out) (Kd.R_base ho32) hb);have n1_:=ak_ (Kd.R_elder' (by (with_reducible repeat (first|apply ra_|apply rb_|apply rc_));exact HO544.out) (Kd.R_base ho32) hb);have n2_:=ak_ (Kd.R_elder' (by (with_reducible repeat (first|apply ra_|apply rb_|apply rc_));exact HO547.out) (Kd.R_base ho32) hb);have n3_:=ak_ (Kd.R_elder' (by (with_reducible repeat (first|apply ra_|apply rb_|apply rc_));exact HO551.out) (Kd.R_base ho32) hb);have n4_:=ak_ (Kd.R_lower (Kd.R_new' (Kd.R_new' (Kd.R_new' (Kd.R_new' ho32 (Kd.R_lt (by (with_reducible repeat (first|apply ra_|apply rb_|apply rc_));exact HO540.out))) (Kd.R_lt (by (with_reducible repeat (first|apply ra_|apply rb_|apply rc_));exact HO544.out))) (Kd.R_lt (by (with_reducible repeat (first|apply ra_|apply rb_|apply rc_));exact HO547.out))) (Kd.R_lt (by (with_reducible repeat (first|apply ra_|apply rb_|apply rc_));exact HO551.out))) (below_size (by repeat (first|(with_reducible first|exact HB.out|apply ba_|apply bb_|apply bc_)|exact HB.out))));have n5_:=ak_ (below_step (by repeat (first|(with_reducible first|exact HB.out|apply ba_|apply bb_|apply bc_)|exact HB.out)) hb);clear HO540;clear HO544;clear HO547;clear HO551;clear HB;have HO540:=n0_;have HO544:=n1_;have HO547:=n2_;have HO551:=n3_;have HO554:=n4_;have HB:=n5_;clear n0_ n1_ n2_ n3_ n4_ n5_;clear hb ho32;obtain ⟨Ao33,co33,eo33⟩:=Kd.R_slice HO544.out;subst eo33;obtain ⟨Ao34,co34,eo34⟩:=Kd.R_slice HO554.out;subst eo34)|(go_at_call 17;(with_reducible refine (madrigallaw15_same.calls kj4 _ _ t541 _ _ y552 true _ ?side1 ?side2 ?side3 ?side4 A28.out).mono ?_);(case side1 => repeat (first|exact (Kd.R_reads' HO544.out).2.2|(with_reducible refine Kd.C_alloc ?_ _)|(with_reducible refine Kd.C_drewN ?_ _)|(with_reducible refine Kd.C_drew ?_)));(case side2 => exact (Kd.R_reads' HO544.out).2.1);(case side3 => repeat (first|exact (Kd.R_reads' HO554.out).2.2|(with_reducible refine Kd.C_alloc ?_ _)|(with_reducible refine Kd.C_drewN ?_ _)|(with_reducible refine Kd.C_drew ?_)));(case side4 => exact (Kd.R_reads' HO554.out).2.1);rintro e w' ⟨rfl,⟨nd,rfl⟩⟩;(try first|exact ⟨rfl,_,World.drewN_drewN _ _ _⟩|exact ⟨rfl,_,Eq.trans (World.drewN_drewN _ _ _) (congrArg (World.drewN _) (Nat.add_assoc _ _ _))⟩))|((with_reducible refine gate_dst (N:=61) rfl ?_);(try (refine gate_guard (by rfl) ?_;dsimp only));refine Kd.R_make (Kd.int .i64) _ 2 rfl (N:=61) rfl 23 _ _ rfl ji10 rfl rfl Try.underlying23 (.int .i64 0) 8 info2 rfl (by decide) (by omega) 0 (ok:=fun _ => True) (okp:=fun _ => True) rfl (fun _ hk => hk) trivial (of_decide_eq_true (by first|(with_reducible assumption)|assumption)) (Nat.le_trans (Nat.mul_le_mul_right _ (of_decide_eq_true (by first|(with_reducible assumption)|assumption) : ji10.toNat ≤ 35184372088832)) (by omega)) (Below.refl _ _) (Nat.le_refl _) ?_;intro v557 w35 ho36 hb hg_ hnew_;clear hg_ hnew_;(first|rw [← Ny556.out] at ho36|(simp only [Int.reduceToNat] at ho36;rw [← Ny556.out] at ho36));have n0_:=ak_ (Kd.R_elder' (by (with_reducible repeat (first|apply ra_|apply rb_|apply rc_));exact HO540.out) (Kd.R_base ho36) hb);have n1_:=ak_ (Kd.R_elder' (by (with_reducible repeat (first|apply ra_|apply rb_|apply rc_));exact HO544.out) (Kd.R_base ho36) hb);have n2_:=ak_ (Kd.R_elder' (by (with_reducible repeat (first|apply ra_|apply rb_|apply rc_));exact HO547.out) (Kd.R_base ho36) hb);have n3_:=ak_ (Kd.R_elder' (by (with_reducible repeat (first|apply ra_|apply rb_|apply rc_));exact HO551.out) (Kd.R_base ho36) hb);have n4_:=ak_ (Kd.R_elder' (by (with_reducible repeat (first|apply ra_|apply rb_|apply rc_));exact HO554.out) (Kd.R_base ho36) hb);have n5_:=ak_ (Kd.R_lower (Kd.R_new' (Kd.R_new' (Kd.R_new' (Kd.R_new' (Kd.R_new' ho36 (Kd.R_lt (by (with_reducible repeat (first|apply ra_|apply rb_|apply rc_));exact HO540.out))) (Kd.R_lt (by (with_reducible repeat (first|apply ra_|apply rb_|apply rc_));exact HO544.out))) (Kd.R_lt (by (with_reducible repeat (first|apply ra_|apply rb_|apply rc_));exact HO547.out))) (Kd.R_lt (by (with_reducible repeat (first|apply ra_|apply rb_|apply rc_));exact HO551.out))) (Kd.R_lt (by (with_reducible repeat (first|apply ra_|apply rb_|apply rc_));exact HO554.out))) (below_size (by repeat (first|(with_reducible first|exact HB.out|apply ba_|apply bb_|apply bc_)|exact HB.out))));have n6_:=ak_ (below_step (by repeat (first|(with_reducible first|exact HB.out|apply ba_|apply bb_|apply bc_)|exact HB.out)) hb);clear HO540;clear HO544;clear HO547;clear HO551;clear HO554;clear HB;have HO540:=n0_;have HO544:=n1_;have HO547:=n2_;have HO551:=n3_;have HO554:=n4_;have HO558:=n5_;have HB:=n6_;clear n0_ n1_ n2_ n3_ n4_ n5_ n6_;clear hb ho36;obtain ⟨Ao37,co37,eo37⟩:=Kd.R_slice HO551.out;subst eo37;obtain ⟨Ao38,co38,eo38⟩:=Kd.R_slice HO558.out;subst eo38)|(go_at_call 17;(with_reducible refine (madrigallaw15_same.calls kj4 _ _ t548 _ _ y556 t559 _ ?side1 ?side2 ?side3 ?side4 A30.out).mono ?_);(case side1 => repeat (first|exact (Kd.R_reads' HO551.out).2.2|(with_reducible refine Kd.C_alloc ?_ _)|(with_reducible refine Kd.C_drewN ?_ _)|(with_reducible refine Kd.C_drew ?_)));(case side2 => exact (Kd.R_reads' HO551.out).2.1);(case side3 => repeat (first|exact (Kd.R_reads' HO558.out).2.2|(with_reducible refine Kd.C_alloc ?_ _)|(with_reducible refine Kd.C_drewN ?_ _)|(with_reducible refine Kd.C_drew ?_)));(case side4 => exact (Kd.R_reads' HO558.out).2.1);rintro e w' ⟨rfl,⟨nd,rfl⟩⟩;(try first|exact ⟨rfl,_,World.drewN_drewN _ _ _⟩|exact ⟨rfl,_,Eq.trans (World.drewN_drewN _ _ _) (congrArg (World.drewN _) (Nat.add_assoc _ _ _))⟩)))
             repeat (go_quiet (first|((with_reducible refine gate_dst (N:=53) rfl ?_);(try (refine gate_guard (by rfl) ?_;dsimp only));refine Kd.R_make (Kd.int .i64) _ 2 rfl (N:=53) rfl 23 _ _ rfl (l0.length : Int) rfl rfl Try.underlying23 (.int .i64 0) 8 info2 rfl (by decide) (by omega) 0 (ok:=fun _ => True) (okp:=fun _ => True) rfl (fun _ hk => hk) trivial (of_decide_eq_true (by first|(with_reducible assumption)|assumption)) (Nat.le_trans (Nat.mul_le_mul_right _ (of_decide_eq_true (by first|(with_reducible assumption)|assumption) : (l0.length : Int).toNat ≤ 35184372088832)) (by omega)) (Below.refl _ _) (Nat.le_refl _) ?_;intro v553 w31 ho32 hb hg_ hnew_;clear hg_ hnew_;(first|rw [← Ny552.out] at ho32|(simp only [Int.reduceToNat] at ho32;rw [← Ny552.out] at ho32));have n0_:=ak_ (Kd.R_elder' (by (with_reducible repeat (first|apply ra_|apply rb_|apply rc_));exact HO540.out) (Kd.R_base ho32) hb);have n1_:=ak_ (Kd.R_elder' (by (with_reducible repeat (first|apply ra_|apply rb_|apply rc_));exact HO544.out) (Kd.R_base ho32) hb);have n2_:=ak_ (Kd.R_elder' (by (with_reducible repeat (first|apply ra_|apply rb_|apply rc_));exact HO547.out) (Kd.R_base ho32) hb);have n3_:=ak_ (Kd.R_elder' (by (with_reducible repeat (first|apply ra_|apply rb_|apply rc_));exact HO551.out) (Kd.R_base ho32) hb);have n4_:=ak_ (Kd.R_lower (Kd.R_new' (Kd.R_new' (Kd.R_new' (Kd.R_new' ho32 (Kd.R_lt (by (with_reducible repeat (first|apply ra_|apply rb_|apply rc_));exact HO540.out))) (Kd.R_lt (by (with_reducible repeat (first|apply ra_|apply rb_|apply rc_));exact HO544.out))) (Kd.R_lt (by (with_reducible repeat (first|apply ra_|apply rb_|apply rc_));exact HO547.out))) (Kd.R_lt (by (with_reducible repeat (first|apply ra_|apply rb_|apply rc_));exact HO551.out))) (below_size (by repeat (first|(with_reducible first|exact HB.out|apply ba_|apply bb_|apply bc_)|exact HB.out))));have n5_:=ak_ (below_step (by repeat (first|(with_reducible first|exact HB.out|apply ba_|apply bb_|apply bc_)|exact HB.out)) hb);clear HO540;clear HO544;clear HO547;clear HO551;clear HB;have HO540:=n0_;have HO544:=n1_;have HO547:=n2_;have HO551:=n3_;have HO554:=n4_;have HB:=n5_;clear n0_ n1_ n2_ n3_ n4_ n5_;clear hb ho32;obtain ⟨Ao33,co33,eo33⟩:=Kd.R_slice HO544.out;subst eo33;obtain ⟨Ao34,co34,eo34⟩:=Kd.R_slice HO554.out;subst eo34)|(go_at_call 17;(with_reducible refine (madrigallaw15_same.calls kj4 _ _ t541 _ _ y552 true _ ?side1 ?side2 ?side3 ?side4 A28.out).mono ?_);(case side1 => repeat (first|exact (Kd.R_reads' HO544.out).2.2|(with_reducible refine Kd.C_alloc ?_ _)|(with_reducible refine Kd.C_drewN ?_ _)|(with_reducible refine Kd.C_drew ?_)));(case side2 => exact (Kd.R_reads' HO544.out).2.1);(case side3 => repeat (first|exact (Kd.R_reads' HO554.out).2.2|(with_reducible refine Kd.C_alloc ?_ _)|(with_reducible refine Kd.C_drewN ?_ _)|(with_reducible refine Kd.C_drew ?_)));(case side4 => exact (Kd.R_reads' HO554.out).2.1);rintro e w' ⟨rfl,⟨nd,rfl⟩⟩;(try first|exact ⟨rfl,_,World.drewN_drewN _ _ _⟩|exact ⟨rfl,_,Eq.trans (World.drewN_drewN _ _ _) (congrArg (World.drewN _) (Nat.add_assoc _ _ _))⟩))|((with_reducible refine gate_dst (N:=61) rfl ?_);(try (refine gate_guard (by rfl) ?_;dsimp only));refine Kd.R_make (Kd.int .i64) _ 2 rfl (N:=61) rfl 23 _ _ rfl ji10 rfl rfl Try.underlying23 (.int .i64 0) 8 info2 rfl (by decide) (by omega) 0 (ok:=fun _ => True) (okp:=fun _ => True) rfl (fun _ hk => hk) trivial (of_decide_eq_true (by first|(with_reducible assumption)|assumption)) (Nat.le_trans (Nat.mul_le_mul_right _ (of_decide_eq_true (by first|(with_reducible assumption)|assumption) : ji10.toNat ≤ 35184372088832)) (by omega)) (Below.refl _ _) (Nat.le_refl _) ?_;intro v557 w35 ho36 hb hg_ hnew_;clear hg_ hnew_;(first|rw [← Ny556.out] at ho36|(simp only [Int.reduceToNat] at ho36;rw [← Ny556.out] at ho36));have n0_:=ak_ (Kd.R_elder' (by (with_reducible repeat (first|apply ra_|apply rb_|apply rc_));exact HO540.out) (Kd.R_base ho36) hb);have n1_:=ak_ (Kd.R_elder' (by (with_reducible repeat (first|apply ra_|apply rb_|apply rc_));exact HO544.out) (Kd.R_base ho36) hb);have n2_:=ak_ (Kd.R_elder' (by (with_reducible repeat (first|apply ra_|apply rb_|apply rc_));exact HO547.out) (Kd.R_base ho36) hb);have n3_:=ak_ (Kd.R_elder' (by (with_reducible repeat (first|apply ra_|apply rb_|apply rc_));exact HO551.out) (Kd.R_base ho36) hb);have n4_:=ak_ (Kd.R_elder' (by (with_reducible repeat (first|apply ra_|apply rb_|apply rc_));exact HO554.out) (Kd.R_base ho36) hb);have n5_:=ak_ (Kd.R_lower (Kd.R_new' (Kd.R_new' (Kd.R_new' (Kd.R_new' (Kd.R_new' ho36 (Kd.R_lt (by (with_reducible repeat (first|apply ra_|apply rb_|apply rc_));exact HO540.out))) (Kd.R_lt (by (with_reducible repeat (first|apply ra_|apply rb_|apply rc_));exact HO544.out))) (Kd.R_lt (by (with_reducible repeat (first|apply ra_|apply rb_|apply rc_));exact HO547.out))) (Kd.R_lt (by (with_reducible repeat (first|apply ra_|apply rb_|apply rc_));exact HO551.out))) (Kd.R_lt (by (with_reducible repeat (first|apply ra_|apply rb_|apply rc_));exact HO554.out))) (below_size (by repeat (first|(with_reducible first|exact HB.out|apply ba_|apply bb_|apply bc_)|exact HB.out))));have n6_:=ak_ (below_step (by repeat (first|(with_reducible first|exact HB.out|apply ba_|apply bb_|apply bc_)|exact HB.out)) hb);clear HO540;clear HO544;clear HO547;clear HO551;clear HO554;clear HB;have HO540:=n0_;have HO544:=n1_;have HO547:=n2_;have HO551:=n3_;have HO554:=n4_;have HO558:=n5_;have HB:=n6_;clear n0_ n1_ n2_ n3_ n4_ n5_ n6_;clear hb ho36;obtain ⟨Ao37,co37,eo37⟩:=Kd.R_slice HO551.out;subst eo37;obtain ⟨Ao38,co38,eo38⟩:=Kd.R_slice HO558.out;subst eo38)|(go_at_call 17;(with_reducible refine (madrigallaw15_same.calls kj4 _ _ t548 _ _ y556 t559 _ ?side1 ?side2 ?side3 ?side4 A30.out).mono ?_);(case side1 => repeat (first|exact (Kd.R_reads' HO551.out).2.2|(with_reducible refine Kd.C_alloc ?_ _)|(with_reducible refine Kd.C_drewN ?_ _)|(with_reducible refine Kd.C_drew ?_)));(case side2 => exact (Kd.R_reads' HO551.out).2.1);(case side3 => repeat (first|exact (Kd.R_reads' HO558.out).2.2|(with_reducible refine Kd.C_alloc ?_ _)|(with_reducible refine Kd.C_drewN ?_ _)|(with_reducible refine Kd.C_drew ?_)));(case side4 => exact (Kd.R_reads' HO558.out).2.1);rintro e w' ⟨rfl,⟨nd,rfl⟩⟩;(try first|exact ⟨rfl,_,World.drewN_drewN _ _ _⟩|exact ⟨rfl,_,Eq.trans (World.drewN_drewN _ _ _) (congrArg (World.drewN _) (Nat.add_assoc _ _ _))⟩)));try go_wp2_with (first|((with_reducible refine gate_dst (N:=53) rfl ?_);(try (refine gate_guard (by rfl) ?_;dsimp only));refine Kd.R_make (Kd.int .i64) _ 2 rfl (N:=53) rfl 23 _ _ rfl (l0.length : Int) rfl rfl Try.underlying23 (.int .i64 0) 8 info2 rfl (by decide) (by omega) 0 (ok:=fun _ => True) (okp:=fun _ => True) rfl (fun _ hk => hk) trivial (of_decide_eq_true (by first|(with_reducible assumption)|assumption)) (Nat.le_trans (Nat.mul_le_mul_right _ (of_decide_eq_true (by first|(with_reducible assumption)|assumption) : (l0.length : Int).toNat ≤ 35184372088832)) (by omega)) (Below.refl _ _) (Nat.le_refl _) ?_;intro v553 w31 ho32 hb hg_ hnew_;clear hg_ hnew_;(first|rw [← Ny552.out] at ho32|(simp only [Int.reduceToNat] at ho32;rw [← Ny552.out] at ho32));have n0_:=ak_ (Kd.R_elder' (by (with_reducible repeat (first|apply ra_|apply rb_|apply rc_));exact HO540.out) (Kd.R_base ho32) hb);have n1_:=ak_ (Kd.R_elder' (by (with_reducible repeat (first|apply ra_|apply rb_|apply rc_));exact HO544.out) (Kd.R_base ho32) hb);have n2_:=ak_ (Kd.R_elder' (by (with_reducible repeat (first|apply ra_|apply rb_|apply rc_));exact HO547.out) (Kd.R_base ho32) hb);have n3_:=ak_ (Kd.R_elder' (by (with_reducible repeat (first|apply ra_|apply rb_|apply rc_));exact HO551.out) (Kd.R_base ho32) hb);have n4_:=ak_ (Kd.R_lower (Kd.R_new' (Kd.R_new' (Kd.R_new' (Kd.R_new' ho32 (Kd.R_lt (by (with_reducible repeat (first|apply ra_|apply rb_|apply rc_));exact HO540.out))) (Kd.R_lt (by (with_reducible repeat (first|apply ra_|apply rb_|apply rc_));exact HO544.out))) (Kd.R_lt (by (with_reducible repeat (first|apply ra_|apply rb_|apply rc_));exact HO547.out))) (Kd.R_lt (by (with_reducible repeat (first|apply ra_|apply rb_|apply rc_));exact HO551.out))) (below_size (by repeat (first|(with_reducible first|exact HB.out|apply ba_|apply bb_|apply bc_)|exact HB.out))));have n5_:=ak_ (below_step (by repeat (first|(with_reducible first|exact HB.out|apply ba_|apply bb_|apply bc_)|exact HB.out)) hb);clear HO540;clear HO544;clear HO547;clear HO551;clear HB;have HO540:=n0_;have HO544:=n1_;have HO547:=n2_;have HO551:=n3_;have HO554:=n4_;have HB:=n5_;clear n0_ n1_ n2_ n3_ n4_ n5_;clear hb ho32;obtain ⟨Ao33,co33,eo33⟩:=Kd.R_slice HO544.out;subst eo33;obtain ⟨Ao34,co34,eo34⟩:=Kd.R_slice HO554.out;subst eo34)|(go_at_call 17;(with_reducible refine (madrigallaw15_same.calls kj4 _ _ t541 _ _ y552 true _ ?side1 ?side2 ?side3 ?side4 A28.out).mono ?_);(case side1 => repeat (first|exact (Kd.R_reads' HO544.out).2.2|(with_reducible refine Kd.C_alloc ?_ _)|(with_reducible refine Kd.C_drewN ?_ _)|(with_reducible refine Kd.C_drew ?_)));(case side2 => exact (Kd.R_reads' HO544.out).2.1);(case side3 => repeat (first|exact (Kd.R_reads' HO554.out).2.2|(with_reducible refine Kd.C_alloc ?_ _)|(with_reducible refine Kd.C_drewN ?_ _)|(with_reducible refine Kd.C_drew ?_)));(case side4 => exact (Kd.R_reads' HO554.out).2.1);rintro e w' ⟨rfl,⟨nd,rfl⟩⟩;(try first|exact ⟨rfl,_,World.drewN_drewN _ _ _⟩|exact ⟨rfl,_,Eq.trans (World.drewN_drewN _ _ _) (congrArg (World.drewN _) (Nat.add_assoc _ _ _))⟩))|((with_reducible refine gate_dst (N:=61) rfl ?_);(try (refine gate_guard (by rfl) ?_;dsimp only));refine Kd.R_make (Kd.int .i64) _ 2 rfl (N:=61) rfl 23 _ _ rfl ji10 rfl rfl Try.underlying23 (.int .i64 0) 8 info2 rfl (by decide) (by omega) 0 (ok:=fun _ => True) (okp:=fun _ => True) rfl (fun _ hk => hk) trivial (of_decide_eq_true (by first|(with_reducible assumption)|assumption)) (Nat.le_trans (Nat.mul_le_mul_right _ (of_decide_eq_true (by first|(with_reducible assumption)|assumption) : ji10.toNat ≤ 35184372088832)) (by omega)) (Below.refl _ _) (Nat.le_refl _) ?_;intro v557 w35 ho36 hb hg_ hnew_;clear hg_ hnew_;(first|rw [← Ny556.out] at ho36|(simp only [Int.reduceToNat] at ho36;rw [← Ny556.out] at ho36));have n0_:=ak_ (Kd.R_elder' (by (with_reducible repeat (first|apply ra_|apply rb_|apply rc_));exact HO540.out) (Kd.R_base ho36) hb);have n1_:=ak_ (Kd.R_elder' (by (with_reducible repeat (first|apply ra_|apply rb_|apply rc_));exact HO544.out) (Kd.R_base ho36) hb);have n2_:=ak_ (Kd.R_elder' (by (with_reducible repeat (first|apply ra_|apply rb_|apply rc_));exact HO547.out) (Kd.R_base ho36) hb);have n3_:=ak_ (Kd.R_elder' (by (with_reducible repeat (first|apply ra_|apply rb_|apply rc_));exact HO551.out) (Kd.R_base ho36) hb);have n4_:=ak_ (Kd.R_elder' (by (with_reducible repeat (first|apply ra_|apply rb_|apply rc_));exact HO554.out) (Kd.R_base ho36) hb);have n5_:=ak_ (Kd.R_lower (Kd.R_new' (Kd.R_new' (Kd.R_new' (Kd.R_new' (Kd.R_new' ho36 (Kd.R_lt (by (with_reducible repeat (first|apply ra_|apply rb_|apply rc_));exact HO540.out))) (Kd.R_lt (by (with_reducible repeat (first|apply ra_|apply rb_|apply rc_));exact HO544.out))) (Kd.R_lt (by (with_reducible repeat (first|apply ra_|apply rb_|apply rc_));exact HO547.out))) (Kd.R_lt (by (with_reducible repeat (first|apply ra_|apply rb_|apply rc_));exact HO551.out))) (Kd.R_lt (by (with_reducible repeat (first|apply ra_|apply rb_|apply rc_));exact HO554.out))) (below_size (by repeat (first|(with_reducible first|exact HB.out|apply ba_|apply bb_|apply bc_)|exact HB.out))));have n6_:=ak_ (below_step (by repeat (first|(with_reducible first|exact HB.out|apply ba_|apply bb_|apply bc_)|exact HB.out)) hb);clear HO540;clear HO544;clear HO547;clear HO551;clear HO554;clear HB;have HO540:=n0_;have HO544:=n1_;have HO547:=n2_;have HO551:=n3_;have HO554:=n4_;have HO558:=n5_;have HB:=n6_;clear n0_ n1_ n2_ n3_ n4_ n5_ n6_;clear hb ho36;obtain ⟨Ao37,co37,eo37⟩:=Kd.R_slice HO551.out;subst eo37;obtain ⟨Ao38,co38,eo38⟩:=Kd.R_slice HO558.out;subst eo38)|(go_at_call 17;(with_reducible refine (madrigallaw15_same.calls kj4 _ _ t548 _ _ y556 t559 _ ?side1 ?side2 ?side3 ?side4 A30.out).mono ?_);(case side1 => repeat (first|exact (Kd.R_reads' HO551.out).2.2|(with_reducible refine Kd.C_alloc ?_ _)|(with_reducible refine Kd.C_drewN ?_ _)|(with_reducible refine Kd.C_drew ?_)));(case side2 => exact (Kd.R_reads' HO551.out).2.1);(case side3 => repeat (first|exact (Kd.R_reads' HO558.out).2.2|(with_reducible refine Kd.C_alloc ?_ _)|(with_reducible refine Kd.C_drewN ?_ _)|(with_reducible refine Kd.C_drew ?_)));(case side4 => exact (Kd.R_reads' HO558.out).2.1);rintro e w' ⟨rfl,⟨nd,rfl⟩⟩;(try first|exact ⟨rfl,_,World.drewN_drewN _ _ _⟩|exact ⟨rfl,_,Eq.trans (World.drewN_drewN _ _ _) (congrArg (World.drewN _) (Nat.add_assoc _ _ _))⟩))))
             go_meet
             case rel => exact ⟨_,(!t559),(by first|rfl|(simp;done)|(simp [*];done)),H',⟨by have:=HJ4.out;first|omega|exact Nat.le_refl _⟩,⟨by repeat (first|(with_reducible first|exact HB.out|apply ba_|apply bb_|apply bc_)|exact HB.out)⟩⟩
            ·replace c29:=Bool.eq_false_iff.mpr c29
             subst c29
             have H1 : (madrigallaw15_MdctNought.j1 kj4 l0 a1 (l0.length : Int) true) = some r:=by rw [if_neg (show ¬ (false = true) by decide)] at H;exact H
             clear H
             have H:=H1
             clear H1
             have H':=ak_ H
             clear H
             go_wp2_with (first|((with_reducible refine gate_dst (N:=53) rfl ?_);(try (refine gate_guard (by rfl) ?_;dsimp only));refine Kd.R_make (Kd.int .i64) _ 2 rfl (N:=53) rfl 23 _ _ rfl (l0.length : Int) rfl rfl Try.underlying23 (.int .i64 0) 8 info2 rfl (by decide) (by omega) 0 (ok:=fun _ => True) (okp:=fun _ => True) rfl (fun _ hk => hk) trivial (of_decide_eq_true (by first|(with_reducible assumption)|assumption)) (Nat.le_trans (Nat.mul_le_mul_right _ (of_decide_eq_true (by first|(with_reducible assumption)|assumption) : (l0.length : Int).toNat ≤ 35184372088832)) (by omega)) (Below.refl _ _) (Nat.le_refl _) ?_;intro v553 w39 ho40 hb hg_ hnew_;clear hg_ hnew_;(first|rw [← Ny552.out] at ho40|(simp only [Int.reduceToNat] at ho40;rw [← Ny552.out] at ho40));have n0_:=ak_ (Kd.R_elder' (by (with_reducible repeat (first|apply ra_|apply rb_|apply rc_));exact HO540.out) (Kd.R_base ho40) hb);have n1_:=ak_ (Kd.R_elder' (by (with_reducible repeat (first|apply ra_|apply rb_|apply rc_));exact HO544.out) (Kd.R_base ho40) hb);have n2_:=ak_ (Kd.R_elder' (by (with_reducible repeat (first|apply ra_|apply rb_|apply rc_));exact HO547.out) (Kd.R_base ho40) hb);have n3_:=ak_ (Kd.R_elder' (by (with_reducible repeat (first|apply ra_|apply rb_|apply rc_));exact HO551.out) (Kd.R_base ho40) hb);have n4_:=ak_ (Kd.R_lower (Kd.R_new' (Kd.R_new' (Kd.R_new' (Kd.R_new' ho40 (Kd.R_lt (by (with_reducible repeat (first|apply ra_|apply rb_|apply rc_));exact HO540.out))) (Kd.R_lt (by (with_reducible repeat (first|apply ra_|apply rb_|apply rc_));exact HO544.out))) (Kd.R_lt (by (with_reducible repeat (first|apply ra_|apply rb_|apply rc_));exact HO547.out))) (Kd.R_lt (by (with_reducible repeat (first|apply ra_|apply rb_|apply rc_));exact HO551.out))) (below_size (by repeat (first|(with_reducible first|exact HB.out|apply ba_|apply bb_|apply bc_)|exact HB.out))));have n5_:=ak_ (below_step (by repeat (first|(with_reducible first|exact HB.out|apply ba_|apply bb_|apply bc_)|exact HB.out)) hb);clear HO540;clear HO544;clear HO547;clear HO551;clear HB;have HO540:=n0_;have HO544:=n1_;have HO547:=n2_;have HO551:=n3_;have HO554:=n4_;have HB:=n5_;clear n0_ n1_ n2_ n3_ n4_ n5_;clear hb ho40;obtain ⟨Ao41,co41,eo41⟩:=Kd.R_slice HO544.out;subst eo41;obtain ⟨Ao42,co42,eo42⟩:=Kd.R_slice HO554.out;subst eo42)|(go_at_call 17;(with_reducible refine (madrigallaw15_same.calls kj4 _ _ t541 _ _ y552 false _ ?side1 ?side2 ?side3 ?side4 A28.out).mono ?_);(case side1 => repeat (first|exact (Kd.R_reads' HO544.out).2.2|(with_reducible refine Kd.C_alloc ?_ _)|(with_reducible refine Kd.C_drewN ?_ _)|(with_reducible refine Kd.C_drew ?_)));(case side2 => exact (Kd.R_reads' HO544.out).2.1);(case side3 => repeat (first|exact (Kd.R_reads' HO554.out).2.2|(with_reducible refine Kd.C_alloc ?_ _)|(with_reducible refine Kd.C_drewN ?_ _)|(with_reducible refine Kd.C_drew ?_)));(case side4 => exact (Kd.R_reads' HO554.out).2.1);rintro e w' ⟨rfl,⟨nd,rfl⟩⟩;(try first|exact ⟨rfl,_,World.drewN_drewN _ _ _⟩|exact ⟨rfl,_,Eq.trans (World.drewN_drewN _ _ _) (congrArg (World.drewN _) (Nat.add_assoc _ _ _))⟩)))
             repeat (go_quiet (first|((with_reducible refine gate_dst (N:=53) rfl ?_);(try (refine gate_guard (by rfl) ?_;dsimp only));refine Kd.R_make (Kd.int .i64) _ 2 rfl (N:=53) rfl 23 _ _ rfl (l0.length : Int) rfl rfl Try.underlying23 (.int .i64 0) 8 info2 rfl (by decide) (by omega) 0 (ok:=fun _ => True) (okp:=fun _ => True) rfl (fun _ hk => hk) trivial (of_decide_eq_true (by first|(with_reducible assumption)|assumption)) (Nat.le_trans (Nat.mul_le_mul_right _ (of_decide_eq_true (by first|(with_reducible assumption)|assumption) : (l0.length : Int).toNat ≤ 35184372088832)) (by omega)) (Below.refl _ _) (Nat.le_refl _) ?_;intro v553 w39 ho40 hb hg_ hnew_;clear hg_ hnew_;(first|rw [← Ny552.out] at ho40|(simp only [Int.reduceToNat] at ho40;rw [← Ny552.out] at ho40));have n0_:=ak_ (Kd.R_elder' (by (with_reducible repeat (first|apply ra_|apply rb_|apply rc_));exact HO540.out) (Kd.R_base ho40) hb);have n1_:=ak_ (Kd.R_elder' (by (with_reducible repeat (first|apply ra_|apply rb_|apply rc_));exact HO544.out) (Kd.R_base ho40) hb);have n2_:=ak_ (Kd.R_elder' (by (with_reducible repeat (first|apply ra_|apply rb_|apply rc_));exact HO547.out) (Kd.R_base ho40) hb);have n3_:=ak_ (Kd.R_elder' (by (with_reducible repeat (first|apply ra_|apply rb_|apply rc_));exact HO551.out) (Kd.R_base ho40) hb);have n4_:=ak_ (Kd.R_lower (Kd.R_new' (Kd.R_new' (Kd.R_new' (Kd.R_new' ho40 (Kd.R_lt (by (with_reducible repeat (first|apply ra_|apply rb_|apply rc_));exact HO540.out))) (Kd.R_lt (by (with_reducible repeat (first|apply ra_|apply rb_|apply rc_));exact HO544.out))) (Kd.R_lt (by (with_reducible repeat (first|apply ra_|apply rb_|apply rc_));exact HO547.out))) (Kd.R_lt (by (with_reducible repeat (first|apply ra_|apply rb_|apply rc_));exact HO551.out))) (below_size (by repeat (first|(with_reducible first|exact HB.out|apply ba_|apply bb_|apply bc_)|exact HB.out))));have n5_:=ak_ (below_step (by repeat (first|(with_reducible first|exact HB.out|apply ba_|apply bb_|apply bc_)|exact HB.out)) hb);clear HO540;clear HO544;clear HO547;clear HO551;clear HB;have HO540:=n0_;have HO544:=n1_;have HO547:=n2_;have HO551:=n3_;have HO554:=n4_;have HB:=n5_;clear n0_ n1_ n2_ n3_ n4_ n5_;clear hb ho40;obtain ⟨Ao41,co41,eo41⟩:=Kd.R_slice HO544.out;subst eo41;obtain ⟨Ao42,co42,eo42⟩:=Kd.R_slice HO554.out;subst eo42)|(go_at_call 17;(with_reducible refine (madrigallaw15_same.calls kj4 _ _ t541 _ _ y552 false _ ?side1 ?side2 ?side3 ?side4 A28.out).mono ?_);(case side1 => repeat (first|exact (Kd.R_reads' HO544.out).2.2|(with_reducible refine Kd.C_alloc ?_ _)|(with_reducible refine Kd.C_drewN ?_ _)|(with_reducible refine Kd.C_drew ?_)));(case side2 => exact (Kd.R_reads' HO544.out).2.1);(case side3 => repeat (first|exact (Kd.R_reads' HO554.out).2.2|(with_reducible refine Kd.C_alloc ?_ _)|(with_reducible refine Kd.C_drewN ?_ _)|(with_reducible refine Kd.C_drew ?_)));(case side4 => exact (Kd.R_reads' HO554.out).2.1);rintro e w' ⟨rfl,⟨nd,rfl⟩⟩;(try first|exact ⟨rfl,_,World.drewN_drewN _ _ _⟩|exact ⟨rfl,_,Eq.trans (World.drewN_drewN _ _ _) (congrArg (World.drewN _) (Nat.add_assoc _ _ _))⟩)));try go_wp2_with (first|((with_reducible refine gate_dst (N:=53) rfl ?_);(try (refine gate_guard (by rfl) ?_;dsimp only));refine Kd.R_make (Kd.int .i64) _ 2 rfl (N:=53) rfl 23 _ _ rfl (l0.length : Int) rfl rfl Try.underlying23 (.int .i64 0) 8 info2 rfl (by decide) (by omega) 0 (ok:=fun _ => True) (okp:=fun _ => True) rfl (fun _ hk => hk) trivial (of_decide_eq_true (by first|(with_reducible assumption)|assumption)) (Nat.le_trans (Nat.mul_le_mul_right _ (of_decide_eq_true (by first|(with_reducible assumption)|assumption) : (l0.length : Int).toNat ≤ 35184372088832)) (by omega)) (Below.refl _ _) (Nat.le_refl _) ?_;intro v553 w39 ho40 hb hg_ hnew_;clear hg_ hnew_;(first|rw [← Ny552.out] at ho40|(simp only [Int.reduceToNat] at ho40;rw [← Ny552.out] at ho40));have n0_:=ak_ (Kd.R_elder' (by (with_reducible repeat (first|apply ra_|apply rb_|apply rc_));exact HO540.out) (Kd.R_base ho40) hb);have n1_:=ak_ (Kd.R_elder' (by (with_reducible repeat (first|apply ra_|apply rb_|apply rc_));exact HO544.out) (Kd.R_base ho40) hb);have n2_:=ak_ (Kd.R_elder' (by (with_reducible repeat (first|apply ra_|apply rb_|apply rc_));exact HO547.out) (Kd.R_base ho40) hb);have n3_:=ak_ (Kd.R_elder' (by (with_reducible repeat (first|apply ra_|apply rb_|apply rc_));exact HO551.out) (Kd.R_base ho40) hb);have n4_:=ak_ (Kd.R_lower (Kd.R_new' (Kd.R_new' (Kd.R_new' (Kd.R_new' ho40 (Kd.R_lt (by (with_reducible repeat (first|apply ra_|apply rb_|apply rc_));exact HO540.out))) (Kd.R_lt (by (with_reducible repeat (first|apply ra_|apply rb_|apply rc_));exact HO544.out))) (Kd.R_lt (by (with_reducible repeat (first|apply ra_|apply rb_|apply rc_));exact HO547.out))) (Kd.R_lt (by (with_reducible repeat (first|apply ra_|apply rb_|apply rc_));exact HO551.out))) (below_size (by repeat (first|(with_reducible first|exact HB.out|apply ba_|apply bb_|apply bc_)|exact HB.out))));have n5_:=ak_ (below_step (by repeat (first|(with_reducible first|exact HB.out|apply ba_|apply bb_|apply bc_)|exact HB.out)) hb);clear HO540;clear HO544;clear HO547;clear HO551;clear HB;have HO540:=n0_;have HO544:=n1_;have HO547:=n2_;have HO551:=n3_;have HO554:=n4_;have HB:=n5_;clear n0_ n1_ n2_ n3_ n4_ n5_;clear hb ho40;obtain ⟨Ao41,co41,eo41⟩:=Kd.R_slice HO544.out;subst eo41;obtain ⟨Ao42,co42,eo42⟩:=Kd.R_slice HO554.out;subst eo42)|(go_at_call 17;(with_reducible refine (madrigallaw15_same.calls kj4 _ _ t541 _ _ y552 false _ ?side1 ?side2 ?side3 ?side4 A28.out).mono ?_);(case side1 => repeat (first|exact (Kd.R_reads' HO544.out).2.2|(with_reducible refine Kd.C_alloc ?_ _)|(with_reducible refine Kd.C_drewN ?_ _)|(with_reducible refine Kd.C_drew ?_)));(case side2 => exact (Kd.R_reads' HO544.out).2.1);(case side3 => repeat (first|exact (Kd.R_reads' HO554.out).2.2|(with_reducible refine Kd.C_alloc ?_ _)|(with_reducible refine Kd.C_drewN ?_ _)|(with_reducible refine Kd.C_drew ?_)));(case side4 => exact (Kd.R_reads' HO554.out).2.1);rintro e w' ⟨rfl,⟨nd,rfl⟩⟩;(try first|exact ⟨rfl,_,World.drewN_drewN _ _ _⟩|exact ⟨rfl,_,Eq.trans (World.drewN_drewN _ _ _) (congrArg (World.drewN _) (Nat.add_assoc _ _ _))⟩))))
             go_meet
             case rel => exact ⟨_,(true),(by first|rfl|(simp;done)|(simp [*];done)),H',⟨by have:=HJ4.out;first|omega|exact Nat.le_refl _⟩,⟨by repeat (first|(with_reducible first|exact HB.out|apply ba_|apply bb_|apply bc_)|exact HB.out)⟩⟩
           ·rw [if_neg c27] at H
            have c27b0 : (t549 == 0) = false:=beq_eq_false_iff_ne.mpr c27
            have c27b1 : (t549 != 0) = true:=bne_iff_ne.mpr c27
            have H':=ak_ H
            clear H
            go_wp2
            repeat (go_quiet (fail);try go_wp2)
            go_meet
            case rel => exact ⟨_,(true),(by first|rfl|(simp;done)|(simp [*];done)),H',⟨by have:=HJ4.out;first|omega|exact Nat.le_refl _⟩,⟨by repeat (first|(with_reducible first|exact HB.out|apply ba_|apply bb_|apply bc_)|exact HB.out)⟩⟩
          ·rw [if_neg c26] at H
           have c26b0 : (t542 == 0) = false:=beq_eq_false_iff_ne.mpr c26
           have c26b1 : (t542 != 0) = true:=bne_iff_ne.mpr c26
           (first|rw [c26b0]|(simp only [i64_w,i32_w];rw [c26b0])|skip)
           have H':=ak_ H
           clear H
           go_wp2
           repeat (go_quiet (fail);try go_wp2)
           go_meet
           case rel => exact ⟨_,(true),(by first|rfl|(simp;done)|(simp [*];done)),H',⟨by have:=HJ4.out;first|omega|exact Nat.le_refl _⟩,⟨by repeat (first|(with_reducible first|exact HB.out|apply ba_|apply bb_|apply bc_)|exact HB.out)⟩⟩
         case rest => as_aux_lemma =>
          clear HC17
          try clear c1
          try clear c2
          try clear p2
          try clear c4
          try clear p6
          try clear c7
          try clear c7b0
          try clear c7b1
          try clear c9
          try clear c11
          try clear c11b0
          try clear c11b1
          try clear c12
          try clear c12b0
          try clear c12b1
          try clear c14
          try clear c14b0
          try clear c14b1
          try clear c15
          try clear c15b0
          try clear c15b1
          try clear c26
          try clear c26b0
          try clear c26b1
          try clear c27
          try clear c27b0
          try clear c27b1
          try clear c29
          try clear p2
          obtain ⟨kq,x64_16,rfl,HA,HJ16,HB⟩:=hcut
          (try simp only [i64_w,i32_w])
          cases kq with
          | zero => exact absurd HA.out (by simp [madrigallaw15_MdctNought.j1])
          | succ kj16 =>
           have H:=HA.out
           clear HA
           simp only [madrigallaw15_MdctNought.j1] at H
           by_cases c43 : x64_16 = true
           ·subst c43
            have H1 : (none) = some r:=by rw [if_pos rfl] at H;exact H
            clear H
            have H:=H1
            clear H1
            exact absurd H (by simp)
           ·replace c43:=Bool.eq_false_iff.mpr c43
            subst c43
            have H1 : (madrigallaw15_MdctNought.l0 kj16 l0 a1 (l0.length : Int) ([] : List Int) 0) = some r:=by rw [if_neg (show ¬ (false = true) by decide)] at H;exact H
            clear H
            have H:=H1
            clear H1
            have H':=ak_ H
            clear H
            go_wp2
            repeat (go_quiet (fail);try go_wp2)
            go_loopg [10,11] kj16 (fun kq v10 v11 w' => ∃ (x10_3 : List Int) (x11_3 : Int),v11 = .int .i64 x11_3 ∧ Aside0 (madrigallaw15_MdctNought.l0 kq l0 a1 (l0.length : Int) x10_3 x11_3 = some r) ∧ Aside0 (kq ≤ kj16) ∧ Aside0 (Kd.R (Kd.int .i64) 2 w' w.heap.size (fun _ => True) v10 x10_3) ∧ Aside0 (Below w.heap.size w w'))
            case atStart => exact ⟨(([] : List Int)),(0),(by first|rfl|(simp;done)|(simp [*];done)),H',⟨Nat.le_refl _⟩,⟨by first|exact Kd.R_nil _ _ _ _ _|exact Kd.N_nil _ _ _ _ _|exact Kd.V_nil _ _ _ _ _|exact Kd.Q_nil _ _ _ _ _|exact Kd.S_nil _ _ _ _ _⟩,⟨by repeat (first|(with_reducible first|exact HB.out|apply ba_|apply bb_|apply bc_)|exact HB.out)⟩⟩
            case round => as_aux_lemma =>
             clear H'
             try clear c1
             try clear c2
             try clear p2
             try clear c4
             try clear p6
             try clear c7
             try clear c7b0
             try clear c7b1
             try clear c9
             try clear c11
             try clear c11b0
             try clear c11b1
             try clear c12
             try clear c12b0
             try clear c12b1
             try clear c14
             try clear c14b0
             try clear c14b1
             try clear c15
             try clear c15b0
             try clear c15b1
             try clear c26
             try clear c26b0
             try clear c26b1
             try clear c27
             try clear c27b0
             try clear c27b1
             try clear c29
             try clear c43
             try clear p2
             try clear p6
             obtain ⟨x10_3,x11_3,rfl,HA,HK3,HO_10,HB⟩:=hrel
             (try simp only [i64_w,i32_w])
             cases gk with
             | zero => exact absurd HA.out (by simp [madrigallaw15_MdctNought.l0])
             | succ k3 =>
              have H:=HA.out
              clear HA
              simp only [madrigallaw15_MdctNought.l0] at H
              by_cases c44 : x11_3 < (l0.length : Int)
              ·rw [if_pos c44] at H
               have c44b0:=decide_eq_true c44
               clear c44
               by_cases c45 : 0 ≤ x11_3
               ·rw [if_pos c45] at H
                have c45b0:=decide_eq_true c45
                clear c45
                by_cases c46 : x11_3 < (l0.length : Int)
                ·rw [if_pos c46] at H
                 have c46b0:=decide_eq_true c46
                 clear c46
                 by_cases c47 : (rd l0 x11_3) < (-17179869184)
                 ·rw [if_pos c47] at H
                  have c47b0:=decide_eq_true c47
                  clear c47
                  obtain rfl:=Option.some.inj H
                  have p560 : 0 ≤ (x11_3 : Int):=of_decide_eq_true (by first|(with_reducible assumption)|assumption)
                  have q560 : x11_3 < (l0.length : Int):=of_decide_eq_true (by first|(with_reducible assumption)|assumption)
                  obtain ⟨ad560,e560,hx560_0⟩:=Kd.at_int HR0.out x11_3 p560 q560
                  cases e560
                  replace hx560_0:=(HB.out.cell (World.block_lt_of_cell? w _ hx560_0)).trans hx560_0
                  replace p560:=eq_true p560
                  replace q560:=eq_true q560
                  go_wp2
                  repeat (go_quiet (fail);try go_wp2)
                  go_ret
                  exact ⟨by first|rfl|(simp [errW_none,errW_some] <;> rfl)|(simp only [← hji10];first|rfl|(simp [errW_none,errW_some] <;> rfl))|(simp [*,errW_none,errW_some] <;> rfl),by repeat (first|(with_reducible first|exact HB.out|apply ba_|apply bb_|apply bc_)|exact HB.out)⟩
                 ·rw [if_neg c47] at H
                  have c47b0:=decide_eq_false c47
                  clear c47
                  by_cases c48 : (rd l0 x11_3) > 17179869184
                  ·rw [if_pos c48] at H
                   have c48b0 : decide (17179869184 < (rd l0 x11_3)) = true:=decide_eq_true c48
                   clear c48
                   obtain rfl:=Option.some.inj H
                   have p560 : 0 ≤ (x11_3 : Int):=of_decide_eq_true (by first|(with_reducible assumption)|assumption)
                   have q560 : x11_3 < (l0.length : Int):=of_decide_eq_true (by first|(with_reducible assumption)|assumption)
                   obtain ⟨ad560,e560,hx560_0⟩:=Kd.at_int HR0.out x11_3 p560 q560
                   cases e560
                   replace hx560_0:=(HB.out.cell (World.block_lt_of_cell? w _ hx560_0)).trans hx560_0
                   replace p560:=eq_true p560
                   replace q560:=eq_true q560
                   have p561 : 0 ≤ (x11_3 : Int):=of_decide_eq_true (by first|(with_reducible assumption)|assumption)
                   have q561 : x11_3 < (l0.length : Int):=of_decide_eq_true (by first|(with_reducible assumption)|assumption)
                   obtain ⟨ad561,e561,hx561_0⟩:=Kd.at_int HR0.out x11_3 p561 q561
                   obtain rfl : ad560 = ad561:=(by injection e561)
                   replace hx561_0:=(HB.out.cell (World.block_lt_of_cell? w _ hx561_0)).trans hx561_0
                   replace p561:=eq_true p561
                   replace q561:=eq_true q561
                   go_wp2
                   repeat (go_quiet (fail);try go_wp2)
                   go_ret
                   exact ⟨by first|rfl|(simp [errW_none,errW_some] <;> rfl)|(simp only [← hji10];first|rfl|(simp [errW_none,errW_some] <;> rfl))|(simp [*,errW_none,errW_some] <;> rfl),by repeat (first|(with_reducible first|exact HB.out|apply ba_|apply bb_|apply bc_)|exact HB.out)⟩
                  ·rw [if_neg c48] at H
                   have c48b0 : decide (17179869184 < (rd l0 x11_3)) = false:=decide_eq_false c48
                   clear c48
                   by_cases c49 : x10_3.length < 17592186044416
                   ·rw [if_pos c49] at H
                    have LMc49:=ak_ c49
                    clear c49
                    obtain ⟨y563,hy563⟩ : ∃ y_ : List Int,y_ = (x10_3 ++ [wrap64 (-(rd l0 x11_3))]):=⟨_,rfl⟩
                    replace H : (madrigallaw15_MdctNought.l0 k3 l0 a1 (l0.length : Int) y563 (wrap64 (x11_3 + 1))) = some r:=by first|(rw [hy563];with_reducible exact H)|(have H2_:=(Option.bind_some _ _).symm.trans H;rw [hy563];with_reducible exact H2_)|(have H2_:=(Option.bind_some _ _).symm.trans H;with_reducible exact H2_)|with_reducible exact H|(rw [hy563];exact H)|exact H
                    have Ny563:=ak_ hy563
                    clear hy563
                    have H':=ak_ H
                    clear H
                    have p560 : 0 ≤ (x11_3 : Int):=of_decide_eq_true (by first|(with_reducible assumption)|assumption)
                    have q560 : x11_3 < (l0.length : Int):=of_decide_eq_true (by first|(with_reducible assumption)|assumption)
                    obtain ⟨ad560,e560,hx560_0⟩:=Kd.at_int HR0.out x11_3 p560 q560
                    cases e560
                    replace hx560_0:=(HB.out.cell (World.block_lt_of_cell? w _ hx560_0)).trans hx560_0
                    replace p560:=eq_true p560
                    replace q560:=eq_true q560
                    have p561 : 0 ≤ (x11_3 : Int):=of_decide_eq_true (by first|(with_reducible assumption)|assumption)
                    have q561 : x11_3 < (l0.length : Int):=of_decide_eq_true (by first|(with_reducible assumption)|assumption)
                    obtain ⟨ad561,e561,hx561_0⟩:=Kd.at_int HR0.out x11_3 p561 q561
                    obtain rfl : ad560 = ad561:=(by injection e561)
                    replace hx561_0:=(HB.out.cell (World.block_lt_of_cell? w _ hx561_0)).trans hx561_0
                    replace p561:=eq_true p561
                    replace q561:=eq_true q561
                    have p562 : 0 ≤ (x11_3 : Int):=of_decide_eq_true (by first|(with_reducible assumption)|assumption)
                    have q562 : x11_3 < (l0.length : Int):=of_decide_eq_true (by first|(with_reducible assumption)|assumption)
                    obtain ⟨ad562,e562,hx562_0⟩:=Kd.at_int HR0.out x11_3 p562 q562
                    obtain rfl : ad560 = ad562:=(by injection e562)
                    replace hx562_0:=(HB.out.cell (World.block_lt_of_cell? w _ hx562_0)).trans hx562_0
                    replace p562:=eq_true p562
                    replace q562:=eq_true q562
                    go_wp2_with (first|((with_reducible refine gate_builtin (b:=.append) (xs:=#[.tmp 82,.tmp 88]) rfl ?_);(try (refine gate_guard (by rfl) ?_;dsimp only));at_builtin;refine Kd.R_append (Kd.int .i64) (w0:=w) w.heap.size rfl (.tmp 82) (.tmp 88) 23 2 (.int .i64 0) 8 rfl Try.underlying23 info2 rfl (by decide) (by omega) u10 x10_3 (wrap64 (-(rd l0 x11_3))) [.int .i64 (wrap64 (-(rd l0 x11_3)))] (fun _ => True) (fun _ => False) rfl rfl ?aP (fun _ hk => hk.elim) ?aF ?aO ?aB ?aS ?aL ?_;(case aP => exact rfl);(case aB => exact (by repeat (first|(with_reducible first|exact HB.out|apply ba_|apply bb_|apply bc_)|exact HB.out)));(case aF => exact (fun _ _ => trivial));(case aO => exact (by (with_reducible repeat (first|apply ra_|apply rb_|apply rc_));exact HO_10.out));(case aS => exact (below_size (by repeat (first|(with_reducible first|exact HB.out|apply ba_|apply bb_|apply bc_)|exact HB.out))));(case aL => have:=LMc49.out;omega);intro v564 w50 ho hb hg hat;rw [← Ny563.out] at ho;have n0_:=ak_ (hb);have n1_:=ak_ (ho);clear HB;clear HO_10;have HB:=n0_;have HO565:=n1_;clear n0_ n1_;clear ho hb hg hat))
                    repeat (go_quiet (first|((with_reducible refine gate_builtin (b:=.append) (xs:=#[.tmp 82,.tmp 88]) rfl ?_);(try (refine gate_guard (by rfl) ?_;dsimp only));at_builtin;refine Kd.R_append (Kd.int .i64) (w0:=w) w.heap.size rfl (.tmp 82) (.tmp 88) 23 2 (.int .i64 0) 8 rfl Try.underlying23 info2 rfl (by decide) (by omega) u10 x10_3 (wrap64 (-(rd l0 x11_3))) [.int .i64 (wrap64 (-(rd l0 x11_3)))] (fun _ => True) (fun _ => False) rfl rfl ?aP (fun _ hk => hk.elim) ?aF ?aO ?aB ?aS ?aL ?_;(case aP => exact rfl);(case aB => exact (by repeat (first|(with_reducible first|exact HB.out|apply ba_|apply bb_|apply bc_)|exact HB.out)));(case aF => exact (fun _ _ => trivial));(case aO => exact (by (with_reducible repeat (first|apply ra_|apply rb_|apply rc_));exact HO_10.out));(case aS => exact (below_size (by repeat (first|(with_reducible first|exact HB.out|apply ba_|apply bb_|apply bc_)|exact HB.out))));(case aL => have:=LMc49.out;omega);intro v564 w50 ho hb hg hat;rw [← Ny563.out] at ho;have n0_:=ak_ (hb);have n1_:=ak_ (ho);clear HB;clear HO_10;have HB:=n0_;have HO565:=n1_;clear n0_ n1_;clear ho hb hg hat));try go_wp2_with (first|((with_reducible refine gate_builtin (b:=.append) (xs:=#[.tmp 82,.tmp 88]) rfl ?_);(try (refine gate_guard (by rfl) ?_;dsimp only));at_builtin;refine Kd.R_append (Kd.int .i64) (w0:=w) w.heap.size rfl (.tmp 82) (.tmp 88) 23 2 (.int .i64 0) 8 rfl Try.underlying23 info2 rfl (by decide) (by omega) u10 x10_3 (wrap64 (-(rd l0 x11_3))) [.int .i64 (wrap64 (-(rd l0 x11_3)))] (fun _ => True) (fun _ => False) rfl rfl ?aP (fun _ hk => hk.elim) ?aF ?aO ?aB ?aS ?aL ?_;(case aP => exact rfl);(case aB => exact (by repeat (first|(with_reducible first|exact HB.out|apply ba_|apply bb_|apply bc_)|exact HB.out)));(case aF => exact (fun _ _ => trivial));(case aO => exact (by (with_reducible repeat (first|apply ra_|apply rb_|apply rc_));exact HO_10.out));(case aS => exact (below_size (by repeat (first|(with_reducible first|exact HB.out|apply ba_|apply bb_|apply bc_)|exact HB.out))));(case aL => have:=LMc49.out;omega);intro v564 w50 ho hb hg hat;rw [← Ny563.out] at ho;have n0_:=ak_ (hb);have n1_:=ak_ (ho);clear HB;clear HO_10;have HB:=n0_;have HO565:=n1_;clear n0_ n1_;clear ho hb hg hat)))
                    go_roundg k3
                    case measure => have:=HJ4.out;have:=HJ16.out;have:=HK3.out;omega
                    case rel => exact ⟨(y563),(wrap64 (x11_3 + 1)),(by first|rfl|(simp;done)|(simp [*];done)),H',⟨by have:=HJ4.out;have:=HJ16.out;have:=HK3.out;omega⟩,⟨by (with_reducible repeat (first|apply ra_|apply rb_|apply rc_));exact HO565.out⟩,⟨by repeat (first|(with_reducible first|exact HB.out|apply ba_|apply bb_|apply bc_)|exact HB.out)⟩⟩
                   ·rw [if_neg c49] at H
                    exact absurd H (by simp)
                ·rw [if_neg c46] at H
                 exact absurd H (by simp)
               ·rw [if_neg c45] at H
                exact absurd H (by simp)
              ·rw [if_neg c44] at H
               have c44b0:=decide_eq_false c44
               clear c44
               replace H:=Option.bind_eq_some_iff.mp H
               obtain ⟨⟨t566,t567⟩,A510,H⟩:=H
               (try dsimp only at H)
               have A51:=ak_ A510
               clear A510
               replace H:=Option.bind_eq_some_iff.mp H
               obtain ⟨⟨t570,t571⟩,A520,H⟩:=H
               (try dsimp only at H)
               have A52:=ak_ A520
               clear A520
               have H':=ak_ H
               clear H
               go_wp2_with (first|(go_at_call 12;(with_reducible refine (mdct_Inverse.calls k3 _ _ l0 a1 t566 t567 _ ?side1 ?side2 A51.out).mono ?_);(case side1 => repeat (first|exact (Kd.C_below HR0.out HB.out)|(with_reducible refine Kd.C_alloc ?_ _)|(with_reducible refine Kd.C_drewN ?_ _)|(with_reducible refine Kd.C_drew ?_)));(case side2 => exact HC0.out);rintro e w53 ⟨v568,rfl,ho0,hb⟩;have n0_:=ak_ (Kd.R_elder' (by (with_reducible repeat (first|apply ra_|apply rb_|apply rc_));exact HO_10.out) (Kd.R_base ho0) hb);have n1_:=ak_ (Kd.R_lower (Kd.R_new' ho0 (Kd.R_lt (by (with_reducible repeat (first|apply ra_|apply rb_|apply rc_));exact HO_10.out))) (below_size (by repeat (first|(with_reducible first|exact HB.out|apply ba_|apply bb_|apply bc_)|exact HB.out))));have n2_:=ak_ (below_step (by repeat (first|(with_reducible first|exact HB.out|apply ba_|apply bb_|apply bc_)|exact HB.out)) hb);clear HO_10;clear HB;have HO_10:=n0_;have HO569:=n1_;have HB:=n2_;clear n0_ n1_ n2_;(try clear hb);(try clear ho0);obtain ⟨Ao54,co54,eo54⟩:=Kd.R_slice HO_10.out;subst eo54)|(go_at_call 12;(with_reducible refine (mdct_Inverse.calls k3 _ _ x10_3 a1 t570 t571 _ ?side1 ?side2 A52.out).mono ?_);(case side1 => repeat (first|exact (Kd.R_reads' HO_10.out).2.2|(with_reducible refine Kd.C_alloc ?_ _)|(with_reducible refine Kd.C_drewN ?_ _)|(with_reducible refine Kd.C_drew ?_)));(case side2 => exact (Kd.R_reads' HO_10.out).2.1);rintro e w55 ⟨v572,rfl,ho0,hb⟩;have n0_:=ak_ (Kd.R_elder' (by (with_reducible repeat (first|apply ra_|apply rb_|apply rc_));exact HO_10.out) (Kd.R_base ho0) hb);have n1_:=ak_ (Kd.R_elder' (by (with_reducible repeat (first|apply ra_|apply rb_|apply rc_));exact HO569.out) (Kd.R_base ho0) hb);have n2_:=ak_ (Kd.R_lower (Kd.R_new' (Kd.R_new' ho0 (Kd.R_lt (by (with_reducible repeat (first|apply ra_|apply rb_|apply rc_));exact HO_10.out))) (Kd.R_lt (by (with_reducible repeat (first|apply ra_|apply rb_|apply rc_));exact HO569.out))) (below_size (by repeat (first|(with_reducible first|exact HB.out|apply ba_|apply bb_|apply bc_)|exact HB.out))));have n3_:=ak_ (below_step (by repeat (first|(with_reducible first|exact HB.out|apply ba_|apply bb_|apply bc_)|exact HB.out)) hb);clear HO_10;clear HO569;clear HB;have HO_10:=n0_;have HO569:=n1_;have HO573:=n2_;have HB:=n3_;clear n0_ n1_ n2_ n3_;(try clear hb);(try clear ho0)))
               repeat (go_quiet (first|(go_at_call 12;(with_reducible refine (mdct_Inverse.calls k3 _ _ l0 a1 t566 t567 _ ?side1 ?side2 A51.out).mono ?_);(case side1 => repeat (first|exact (Kd.C_below HR0.out HB.out)|(with_reducible refine Kd.C_alloc ?_ _)|(with_reducible refine Kd.C_drewN ?_ _)|(with_reducible refine Kd.C_drew ?_)));(case side2 => exact HC0.out);rintro e w53 ⟨v568,rfl,ho0,hb⟩;have n0_:=ak_ (Kd.R_elder' (by (with_reducible repeat (first|apply ra_|apply rb_|apply rc_));exact HO_10.out) (Kd.R_base ho0) hb);have n1_:=ak_ (Kd.R_lower (Kd.R_new' ho0 (Kd.R_lt (by (with_reducible repeat (first|apply ra_|apply rb_|apply rc_));exact HO_10.out))) (below_size (by repeat (first|(with_reducible first|exact HB.out|apply ba_|apply bb_|apply bc_)|exact HB.out))));have n2_:=ak_ (below_step (by repeat (first|(with_reducible first|exact HB.out|apply ba_|apply bb_|apply bc_)|exact HB.out)) hb);clear HO_10;clear HB;have HO_10:=n0_;have HO569:=n1_;have HB:=n2_;clear n0_ n1_ n2_;(try clear hb);(try clear ho0);obtain ⟨Ao54,co54,eo54⟩:=Kd.R_slice HO_10.out;subst eo54)|(go_at_call 12;(with_reducible refine (mdct_Inverse.calls k3 _ _ x10_3 a1 t570 t571 _ ?side1 ?side2 A52.out).mono ?_);(case side1 => repeat (first|exact (Kd.R_reads' HO_10.out).2.2|(with_reducible refine Kd.C_alloc ?_ _)|(with_reducible refine Kd.C_drewN ?_ _)|(with_reducible refine Kd.C_drew ?_)));(case side2 => exact (Kd.R_reads' HO_10.out).2.1);rintro e w55 ⟨v572,rfl,ho0,hb⟩;have n0_:=ak_ (Kd.R_elder' (by (with_reducible repeat (first|apply ra_|apply rb_|apply rc_));exact HO_10.out) (Kd.R_base ho0) hb);have n1_:=ak_ (Kd.R_elder' (by (with_reducible repeat (first|apply ra_|apply rb_|apply rc_));exact HO569.out) (Kd.R_base ho0) hb);have n2_:=ak_ (Kd.R_lower (Kd.R_new' (Kd.R_new' ho0 (Kd.R_lt (by (with_reducible repeat (first|apply ra_|apply rb_|apply rc_));exact HO_10.out))) (Kd.R_lt (by (with_reducible repeat (first|apply ra_|apply rb_|apply rc_));exact HO569.out))) (below_size (by repeat (first|(with_reducible first|exact HB.out|apply ba_|apply bb_|apply bc_)|exact HB.out))));have n3_:=ak_ (below_step (by repeat (first|(with_reducible first|exact HB.out|apply ba_|apply bb_|apply bc_)|exact HB.out)) hb);clear HO_10;clear HO569;clear HB;have HO_10:=n0_;have HO569:=n1_;have HO573:=n2_;have HB:=n3_;clear n0_ n1_ n2_ n3_;(try clear hb);(try clear ho0)));try go_wp2_with (first|(go_at_call 12;(with_reducible refine (mdct_Inverse.calls k3 _ _ l0 a1 t566 t567 _ ?side1 ?side2 A51.out).mono ?_);(case side1 => repeat (first|exact (Kd.C_below HR0.out HB.out)|(with_reducible refine Kd.C_alloc ?_ _)|(with_reducible refine Kd.C_drewN ?_ _)|(with_reducible refine Kd.C_drew ?_)));(case side2 => exact HC0.out);rintro e w53 ⟨v568,rfl,ho0,hb⟩;have n0_:=ak_ (Kd.R_elder' (by (with_reducible repeat (first|apply ra_|apply rb_|apply rc_));exact HO_10.out) (Kd.R_base ho0) hb);have n1_:=ak_ (Kd.R_lower (Kd.R_new' ho0 (Kd.R_lt (by (with_reducible repeat (first|apply ra_|apply rb_|apply rc_));exact HO_10.out))) (below_size (by repeat (first|(with_reducible first|exact HB.out|apply ba_|apply bb_|apply bc_)|exact HB.out))));have n2_:=ak_ (below_step (by repeat (first|(with_reducible first|exact HB.out|apply ba_|apply bb_|apply bc_)|exact HB.out)) hb);clear HO_10;clear HB;have HO_10:=n0_;have HO569:=n1_;have HB:=n2_;clear n0_ n1_ n2_;(try clear hb);(try clear ho0);obtain ⟨Ao54,co54,eo54⟩:=Kd.R_slice HO_10.out;subst eo54)|(go_at_call 12;(with_reducible refine (mdct_Inverse.calls k3 _ _ x10_3 a1 t570 t571 _ ?side1 ?side2 A52.out).mono ?_);(case side1 => repeat (first|exact (Kd.R_reads' HO_10.out).2.2|(with_reducible refine Kd.C_alloc ?_ _)|(with_reducible refine Kd.C_drewN ?_ _)|(with_reducible refine Kd.C_drew ?_)));(case side2 => exact (Kd.R_reads' HO_10.out).2.1);rintro e w55 ⟨v572,rfl,ho0,hb⟩;have n0_:=ak_ (Kd.R_elder' (by (with_reducible repeat (first|apply ra_|apply rb_|apply rc_));exact HO_10.out) (Kd.R_base ho0) hb);have n1_:=ak_ (Kd.R_elder' (by (with_reducible repeat (first|apply ra_|apply rb_|apply rc_));exact HO569.out) (Kd.R_base ho0) hb);have n2_:=ak_ (Kd.R_lower (Kd.R_new' (Kd.R_new' ho0 (Kd.R_lt (by (with_reducible repeat (first|apply ra_|apply rb_|apply rc_));exact HO_10.out))) (Kd.R_lt (by (with_reducible repeat (first|apply ra_|apply rb_|apply rc_));exact HO569.out))) (below_size (by repeat (first|(with_reducible first|exact HB.out|apply ba_|apply bb_|apply bc_)|exact HB.out))));have n3_:=ak_ (below_step (by repeat (first|(with_reducible first|exact HB.out|apply ba_|apply bb_|apply bc_)|exact HB.out)) hb);clear HO_10;clear HO569;clear HB;have HO_10:=n0_;have HO569:=n1_;have HO573:=n2_;have HB:=n3_;clear n0_ n1_ n2_ n3_;(try clear hb);(try clear ho0))))
               go_loopg [16] k3 (fun kq v16 w' => ∃ (x16_4 : Int),v16 = .int .i64 x16_4 ∧ Aside0 (madrigallaw15_MdctNought.l1 kq t566 t570 x16_4 = some r) ∧ Aside0 (kq ≤ k3) ∧ Aside0 (Kd.R (Kd.int .i64) 2 w' w.heap.size (fun k_ => some k_ ≠ (v572 : Value).ownBlock) v568 t566) ∧ Aside0 (Kd.R (Kd.int .i64) 2 w' w.heap.size (fun k_ => some k_ ≠ (v568 : Value).ownBlock) v572 t570) ∧ Aside0 (Below w.heap.size w w'))
               case atStart => exact ⟨(0),(by first|rfl|(simp;done)|(simp [*];done)),H',⟨Nat.le_refl _⟩,⟨by (with_reducible repeat (first|apply ra_|apply rb_|apply rc_));exact Kd.R_mono HO569.out (fun _ hk => hk.2)⟩,⟨by (with_reducible repeat (first|apply ra_|apply rb_|apply rc_));exact Kd.R_mono HO573.out (fun _ hk => hk.2)⟩,⟨by repeat (first|(with_reducible first|exact HB.out|apply ba_|apply bb_|apply bc_)|exact HB.out)⟩⟩
               case round => as_aux_lemma =>
                clear H'
                try clear c1
                try clear c2
                try clear p2
                try clear c4
                try clear p5
                try clear q5
                try clear hx5
                try clear p6
                try clear c7
                try clear c7b0
                try clear c7b1
                try clear c9
                try clear c11
                try clear c11b0
                try clear c11b1
                try clear c12
                try clear c12b0
                try clear c12b1
                try clear c14
                try clear c14b0
                try clear c14b1
                try clear c15
                try clear c15b0
                try clear c15b1
                try clear c26
                try clear c26b0
                try clear c26b1
                try clear c27
                try clear c27b0
                try clear c27b1
                try clear c29
                try clear c43
                try clear c44
                try clear c44b0
                try clear c45
                try clear c45b0
                try clear c46
                try clear c46b0
                try clear c47
                try clear c47b0
                try clear c48
                try clear c48b0
                try clear c49
                try clear hx560_0
                try clear hx561_0
                try clear hx562_0
                try clear p2
                try clear p560
                try clear p561
                try clear p562
                try clear p6
                try clear q560
                try clear q561
                try clear q562
                obtain ⟨x16_4,rfl,HA,HK4,HO_12,HO_14,HB⟩:=hrel
                (try simp only [i64_w,i32_w])
                cases gk with
                | zero => exact absurd HA.out (by simp [madrigallaw15_MdctNought.l1])
                | succ k4 =>
                 have H:=HA.out
                 clear HA
                 simp only [madrigallaw15_MdctNought.l1] at H
                 by_cases c56 : x16_4 < (t566.length : Int)
                 ·rw [if_pos c56] at H
                  have c56b0:=decide_eq_true c56
                  clear c56
                  by_cases c57 : 0 ≤ x16_4
                  ·rw [if_pos c57] at H
                   have c57b0:=decide_eq_true c57
                   clear c57
                   by_cases c58 : x16_4 < (t570.length : Int)
                   ·rw [if_pos c58] at H
                    have c58b0:=decide_eq_true c58
                    clear c58
                    by_cases c59 : (wrap64 ((rd t566 x16_4) + (rd t570 x16_4))) > 1
                    ·rw [if_pos c59] at H
                     exact absurd H (by simp)
                    ·rw [if_neg c59] at H
                     have c59b0 : decide (1 < (wrap64 ((rd t566 x16_4) + (rd t570 x16_4)))) = false:=decide_eq_false c59
                     clear c59
                     by_cases c60 : (wrap64 ((rd t566 x16_4) + (rd t570 x16_4))) < (-1)
                     ·rw [if_pos c60] at H
                      exact absurd H (by simp)
                     ·rw [if_neg c60] at H
                      have c60b0:=decide_eq_false c60
                      clear c60
                      have H':=ak_ H
                      clear H
                      obtain ⟨Ao61,co61,eo61⟩:=Kd.R_slice HO_12.out
                      subst eo61
                      have p574 : 0 ≤ (x16_4 : Int):=of_decide_eq_true (by first|(with_reducible assumption)|assumption)
                      have q574 : x16_4 < (t566.length : Int):=of_decide_eq_true (by first|(with_reducible assumption)|assumption)
                      obtain ⟨ad574,e574,hx574_0⟩:=Kd.at_int (Kd.R_reads' HO_12.out).2.2 x16_4 p574 q574
                      cases e574
                      replace p574:=eq_true p574
                      replace q574:=eq_true q574
                      obtain ⟨Ao62,co62,eo62⟩:=Kd.R_slice HO_14.out
                      subst eo62
                      have p575 : 0 ≤ (x16_4 : Int):=of_decide_eq_true (by first|(with_reducible assumption)|assumption)
                      have q575 : x16_4 < (t570.length : Int):=of_decide_eq_true (by first|(with_reducible assumption)|assumption)
                      obtain ⟨ad575,e575,hx575_0⟩:=Kd.at_int (Kd.R_reads' HO_14.out).2.2 x16_4 p575 q575
                      cases e575
                      replace p575:=eq_true p575
                      replace q575:=eq_true q575
                      have p576 : 0 ≤ (x16_4 : Int):=of_decide_eq_true (by first|(with_reducible assumption)|assumption)
                      have q576 : x16_4 < (t566.length : Int):=of_decide_eq_true (by first|(with_reducible assumption)|assumption)
                      obtain ⟨ad576,e576,hx576_0⟩:=Kd.at_int (Kd.R_reads' HO_12.out).2.2 x16_4 p576 q576
                      obtain rfl : ad574 = ad576:=(by injection e576)
                      replace p576:=eq_true p576
                      replace q576:=eq_true q576
                      have p577 : 0 ≤ (x16_4 : Int):=of_decide_eq_true (by first|(with_reducible assumption)|assumption)
                      have q577 : x16_4 < (t570.length : Int):=of_decide_eq_true (by first|(with_reducible assumption)|assumption)
                      obtain ⟨ad577,e577,hx577_0⟩:=Kd.at_int (Kd.R_reads' HO_14.out).2.2 x16_4 p577 q577
                      obtain rfl : ad575 = ad577:=(by injection e577)
                      replace p577:=eq_true p577
                      replace q577:=eq_true q577
                      go_wp2
                      repeat (go_quiet (fail);try go_wp2)
                      go_roundg k4
                      case measure => have:=HJ4.out;have:=HJ16.out;have:=HK3.out;have:=HK4.out;omega
                      case rel => exact ⟨(wrap64 (x16_4 + 1)),(by first|rfl|(simp;done)|(simp [*];done)),H',⟨by have:=HJ4.out;have:=HJ16.out;have:=HK3.out;have:=HK4.out;omega⟩,⟨by (with_reducible repeat (first|apply ra_|apply rb_|apply rc_));exact HO_12.out⟩,⟨by (with_reducible repeat (first|apply ra_|apply rb_|apply rc_));exact HO_14.out⟩,⟨by repeat (first|(with_reducible first|exact HB.out|apply ba_|apply bb_|apply bc_)|exact HB.out)⟩⟩
                   ·rw [if_neg c58] at H
                    exact absurd H (by simp)
                  ·rw [if_neg c57] at H
                   exact absurd H (by simp)
                 ·rw [if_neg c56] at H
                  have c56b0:=decide_eq_false c56
                  clear c56
                  obtain rfl:=Option.some.inj H
                  obtain ⟨Ao63,co63,eo63⟩:=Kd.R_slice HO_12.out
                  subst eo63
                  go_wp2
                  repeat (go_quiet (fail);try go_wp2)
                  go_ret
                  exact ⟨by first|rfl|(simp [errW_none,errW_some] <;> rfl)|(simp only [← hji10];first|rfl|(simp [errW_none,errW_some] <;> rfl))|(simp [*,errW_none,errW_some] <;> rfl),by repeat (first|(with_reducible first|exact HB.out|apply ba_|apply bb_|apply bc_)|exact HB.out)⟩
        ·rw [if_neg c15] at H
         exact absurd H (by simp)
       ·rw [if_neg c14] at H
        exact absurd H (by simp)
      ·rw [if_neg c12] at H
       exact absurd H (by simp)
     ·rw [if_neg c11] at H
      exact absurd H (by simp)
 ·replace c4:=Bool.eq_false_iff.mpr c4
  subst c4
  have H1 : (none) = some r:=by rw [if_neg (show ¬ (false = true) by decide)] at H;exact H
  clear H
  have H:=H1
  clear H1
  exact absurd H (by simp)

/-- THE ONE PURE STATEMENT of madrigallaw15_MdctNought. -/
def madrigallaw15_MdctNought.Pure : Prop:=∀ (l0 : List Int) (a1 : Int),l0.length ≤ maxLen → l0.length * 8 ≤ 140737488351232 → (∀ x ∈ l0,(Lit.int .i64 x).wf = true) → (Lit.int .i64 a1).wf = true → ∃ k,madrigallaw15_MdctNought.f k l0 a1 = some true
theorem madrigallaw15_MdctNought.walk (P : madrigallaw15_MdctNought.Pure) (a0 : Option Addr) (len0 cap0 : Nat) (z0 : List Int) (a1 : Int) (w : World) (w0 : (a0 = none ∧ len0 = 0 ∧ cap0 = 0 ∧ z0 = []) ∨ ∃ x,a0 = some x ∧ len0 ≤ cap0 ∧ cap0 ≤ maxLen ∧ z0.length = cap0 ∧ (∀ i,i < z0.length → w.cell? (x.add i) = some (.int .i64 (z0.getD i 0))) ∧ ∀ n ∈ z0,(Lit.int .i64 n).wf = true) (y0 : len0 * 8 ≤ 140737488351232) (w1 : (Lit.int .i64 a1).wf = true) :
  Calls Try.prog 7 #[.slice a0 len0 cap0,.int .i64 a1] w fun e w' => e = .returned (.bool true) ∧ Below w.heap.size w w':=by
 obtain ⟨l0,rfl,hr0,hm0,hw0,hc0⟩:=ReadsInt.ofRowC w0
 obtain ⟨k,h⟩:=P l0 a1 hm0 y0 hw0 w1
 refine (madrigallaw15_MdctNought.calls k _ _ l0 a1 true w (Kd.C_of_reads (d:=(0 : Int)) (h1:=fun _ => rfl) hr0) hc0 h).mono ?_
 rintro e w' ⟨rfl,hd⟩
 exact ⟨rfl,hd⟩

end Go.Proofs.Ytlmacbiahofmcaa.P
