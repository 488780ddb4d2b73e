/- The machine side of the laws of one chapter, without conditions: each call of a Go function comes to what the Lean function of its name answers. Written for this claim by a program of the prover. -/
import Derived.Test.YtllglpcpjeggcaaPx0
import Derived.Test.YtllglpcpjeggcaaPx5
namespace Go.Proofs.Ytllglpcpjeggcaa.P
open Go.RowKit Go.Proofs.YtllglpcpjeggcaaW.PrintWords Go.Proofs.YtllglpcpjeggcaaW.PrintLast Go.Proofs.YtllglpcpjeggcaaW.PrintMore
attribute [local go_sem] max2_int min2_int max_two min_two max_three min_three max_four min_four   -- for this text's walks alone
set_option linter.unusedVariables false
set_option linter.unusedSimpArgs false

/-! ### fix_Div: function 27 -/
def fix_Div.j0 : Nat → Int → Int → Int → Bool → Option (Int)
 | 0,_,_,_,_ => none
 | k + 1,x0,x1,x2,x21 => if x21 = true then (some 0) else (if 0 ≤ x2 then (if x1 = 0 then (none) else (if (Int.tmod (shl .i64 x0 x2) x1) = 0 then (some (wrap64 (Int.tdiv (shl .i64 x0 x2) x1))) else (if ((decide ((shl .i64 x0 x2) < 0)) != (decide (x1 < 0))) = true then (some (wrap64 ((wrap64 (Int.tdiv (shl .i64 x0 x2) x1)) - 1))) else (some (wrap64 (Int.tdiv (shl .i64 x0 x2) x1)))))) else (none))
def fix_Div.f (k : Nat) (a0 : Int) (a1 : Int) (a2 : Int) : Option (Int):=(fix_factor.f k a0).bind fun t137 => ((fix_factor.f k a1).bind fun t138 => (if t138 = 0 then (fix_Div.j0 k t137 t138 a2 true) else (if a2 < 0 then (fix_Div.j0 k t137 t138 a2 true) else (fix_Div.j0 k t137 t138 a2 (decide (a2 > 30))))))
theorem fix_Div.mono_l : ∀ k,(∀ y0 y1 y2 y3,LeO (fix_Div.j0 k y0 y1 y2 y3) (fix_Div.j0 (k + 1) y0 y1 y2 y3))
 | 0 => fun _ _ _ _ r h => by simp [fix_Div.j0] at h
 | k + 1 => by
  have ih0:=fix_Div.mono_l k
  all_goals (intros;first|unfold fix_Div.j0)
  all_goals (repeat' first|(with_reducible first|exact ih0 _ _ _ _|exact fix_factor.mono _ _|exact LeO.refl _|exact LeO.none _|refine LeO.ite ?_ ?_|refine LeO.bind ?_ (fun _ => ?_))|exact ih0 _ _ _ _|exact fix_factor.mono _ _|exact LeO.none _|refine LeO.ite ?_ ?_|refine LeO.bind ?_ (fun _ => ?_))
theorem fix_Div.mono : ∀ a0 a1 a2 k,LeO (fix_Div.f k a0 a1 a2) (fix_Div.f (k + 1) a0 a1 a2):=by
 intro a0 a1 a2 k
 have ih0:=fix_Div.mono_l k
 unfold fix_Div.f
 repeat' first|(with_reducible first|exact ih0 _ _ _ _|exact fix_factor.mono _ _|exact LeO.refl _|exact LeO.none _|refine LeO.ite ?_ ?_|refine LeO.bind ?_ (fun _ => ?_))|exact ih0 _ _ _ _|exact fix_factor.mono _ _|exact LeO.none _|refine LeO.ite ?_ ?_|refine LeO.bind ?_ (fun _ => ?_)
set_option maxHeartbeats 8000000 in
set_option maxRecDepth 100000 in
theorem fix_Div.calls (k : Nat) (a0 : Int) (a1 : Int) (a2 : Int) (r : Int) (w : World) (h : fix_Div.f k a0 a1 a2 = some r) :
  Calls Try.prog 27 #[.int .i64 a0,.int .i64 a1,.int .i64 a2] w fun e w' => e = .returned (.int .i64 r) ∧ Drawn0 w w':=by
 have H : ((fix_factor.f k a0).bind fun t137 => ((fix_factor.f k a1).bind fun t138 => (if t138 = 0 then (fix_Div.j0 k t137 t138 a2 true) else (if a2 < 0 then (fix_Div.j0 k t137 t138 a2 true) else (fix_Div.j0 k t137 t138 a2 (decide (a2 > 30))))))) = some r:=h
 clear h
 replace H:=Option.bind_eq_some_iff.mp H
 obtain ⟨t137,A40,H⟩:=H
 (try dsimp only at H)
 have A4:=ak_ A40
 clear A40
 replace H:=Option.bind_eq_some_iff.mp H
 obtain ⟨t138,A50,H⟩:=H
 (try dsimp only at H)
 have A5:=ak_ A50
 clear A50
 have HC6:=ak_ H
 clear H
 go_enter Try.func27,Try.ntmps27
 go_upto_region 2 with (first|((with_reducible refine gate_callee (f:=40) rfl ?_);refine goesL_ (some 9) rfl rfl Try.func40 (by kernel_rfl) rfl #[.int .i64 a0] rfl (by (try simp only [List.map_toArray,List.map_cons,List.map_nil]);first|done|rfl|(simp only [List.length_drop,List.length_take];rfl)) ?_;(with_reducible refine (fix_factor.calls k a0 t137 _ A4.out).mono ?_);rintro e w' ⟨rfl,⟨nd,rfl⟩⟩;refine ⟨_,rfl,?_⟩)|((with_reducible refine gate_callee (f:=40) rfl ?_);refine goesL_ (some 11) rfl rfl Try.func40 (by kernel_rfl) rfl #[.int .i64 a1] rfl (by (try simp only [List.map_toArray,List.map_cons,List.map_nil]);first|done|rfl|(simp only [List.length_drop,List.length_take];rfl)) ?_;(with_reducible refine (fix_factor.calls k a1 t138 _ A5.out).mono ?_);rintro e w' ⟨rfl,⟨nd,rfl⟩⟩;refine ⟨_,rfl,?_⟩))
 (try simp only [Act.put,List.setIfInBounds_toArray,List.set_cons_zero,List.set_cons_succ])
 go_cut [21] (fun v21 wc => ∃ (kq : Nat) (x21_5 : Bool),v21 = .bool x21_5 ∧ Aside0 (fix_Div.j0 kq t137 t138 a2 x21_5 = some r) ∧ Aside0 (kq ≤ k) ∧ Drawn0 w wc)
 case first =>
  have H:=HC6.out
  clear HC6
  by_cases c7 : t138 = 0
  ·rw [if_pos c7] at H
   have c7b0 : (t138 == 0) = true:=beq_iff_eq.mpr c7
   have c7b1 : (t138 != 0) = false:=bne_eq_false_iff_eq.mpr c7
   clear c7
   (first|rw [c7b0]|(simp only [i64_w,i32_w];rw [c7b0])|skip)
   have H':=ak_ H
   clear H
   go_wp2
   go_meet
   case rel => exact ⟨_,(true),(by first|rfl|(simp;done)|(simp [*];done)),H',⟨by first|omega|exact Nat.le_refl _⟩,by repeat (first|exact Drawn0.refl _|apply Drawn0.step)⟩
  ·rw [if_neg c7] at H
   have c7b0 : (t138 == 0) = false:=beq_eq_false_iff_ne.mpr c7
   have c7b1 : (t138 != 0) = true:=bne_iff_ne.mpr c7
   (first|rw [c7b0]|(simp only [i64_w,i32_w];rw [c7b0])|skip)
   by_cases c8 : a2 < 0
   ·rw [if_pos c8] at H
    have c8b0:=decide_eq_true c8
    clear c8
    have H':=ak_ H
    clear H
    go_wp2
    refine Met.intro ?_
    go_step
    (repeat apply Exists.intro)
    first|refine ⟨?rel63,rfl⟩|(refine ⟨?rel63,?st63⟩;case' st63 => (first|rw [c8b0]|simp only [c8b0]))
    case rel63 => exact ⟨_,(true),(by first|rfl|(simp;done)|(simp [*];done)),H',⟨by first|omega|exact Nat.le_refl _⟩,by repeat (first|exact Drawn0.refl _|apply Drawn0.step)⟩
   ·rw [if_neg c8] at H
    have c8b0:=decide_eq_false c8
    clear c8
    have H':=ak_ H
    clear H
    go_wp2
    refine Met.intro ?_
    go_step
    (repeat apply Exists.intro)
    first|refine ⟨?rel71,rfl⟩|(refine ⟨?rel71,?st71⟩;case' st71 => (first|rw [c8b0]|simp only [c8b0]))
    case rel71 => exact ⟨_,(decide (a2 > 30)),(by first|rfl|(simp;done)|(simp [*];done)),H',⟨by first|omega|exact Nat.le_refl _⟩,by repeat (first|exact Drawn0.refl _|apply Drawn0.step)⟩
 case rest =>
  clear HC6
  try clear c2
  try clear p2
  try clear c4
  try clear c7
  try clear c7b0
  try clear c7b1
  try clear c8
  try clear c8b0
  obtain ⟨kq,x21_5,rfl,HA,HJ5,⟨mc5,rfl⟩⟩:=hcut
  (try simp only [i64_w,i32_w])
  cases kq with
  | zero => exact absurd HA.out (by simp [fix_Div.j0])
  | succ kj5 =>
   have H:=HA.out
   clear HA
   simp only [fix_Div.j0] at H
   by_cases c9 : x21_5 = true
   ·subst c9
    have H1 : (some 0) = some r:=by rw [if_pos rfl] at H;exact H
    clear H
    have H:=H1
    clear H1
    obtain rfl:=Option.some.inj H
    go_wp2
    go_ret
    exact ⟨by first|rfl|(simp;done)|(simp [*];done),by repeat (first|exact Drawn0.refl _|apply Drawn0.step)⟩
   ·replace c9:=Bool.eq_false_iff.mpr c9
    subst c9
    have H1 : (if 0 ≤ a2 then (if t138 = 0 then (none) else (if (Int.tmod (shl .i64 t137 a2) t138) = 0 then (some (wrap64 (Int.tdiv (shl .i64 t137 a2) t138))) else (if ((decide ((shl .i64 t137 a2) < 0)) != (decide (t138 < 0))) = true then (some (wrap64 ((wrap64 (Int.tdiv (shl .i64 t137 a2) t138)) - 1))) else (some (wrap64 (Int.tdiv (shl .i64 t137 a2) t138)))))) else (none)) = some r:=by rw [if_neg (show ¬ (false = true) by decide)] at H;exact H
    clear H
    have H:=H1
    clear H1
    by_cases c10 : 0 ≤ a2
    ·rw [if_pos c10] at H
     have c10b0:=eq_true c10
     have c10b1 : decide (0 ≤ a2) = true:=decide_eq_true c10
     clear c10
     obtain ⟨ji11,hji11⟩ : ∃ j_ : Int,(shl .i64 t137 a2) = j_:=⟨_,rfl⟩
     replace H : (if t138 = 0 then (none) else (if (Int.tmod (ji11) t138) = 0 then (some (wrap64 (Int.tdiv (ji11) t138))) else (if ((decide ((ji11) < 0)) != (decide (t138 < 0))) = true then (some (wrap64 ((wrap64 (Int.tdiv (ji11) t138)) - 1))) else (some (wrap64 (Int.tdiv (ji11) t138)))))) = some r:=by first|(rw [hji11] at H;exact H)|(simp only [hji11] at H ⊢;exact H)
     have hji11_ : (IntKind.i64.wrap (t137 * 2 ^ min a2.toNat 64)) = ji11:=hji11
     have hji11z : a2 ≤ 64 → (IntKind.i64.wrap (t137 * 2 ^ a2.toNat)) = ji11:=shl_small hji11
     have hji11y : (wrap64 (t137 * 2 ^ min a2.toNat 64)) = ji11:=(i64_w _).symm.trans hji11_
     have hji11x : a2 ≤ 64 → (wrap64 (t137 * 2 ^ a2.toNat)) = ji11:=fun h_ => (i64_w _).symm.trans (hji11z h_)
     by_cases c12 : t138 = 0
     ·rw [if_pos c12] at H
      exact absurd H (by simp)
     ·rw [if_neg c12] at H
      have c12b0 : (t138 == 0) = false:=beq_eq_false_iff_ne.mpr c12
      have c12b1 : (t138 != 0) = true:=bne_iff_ne.mpr c12
      by_cases c13 : (Int.tmod (ji11) t138) = 0
      ·rw [if_pos c13] at H
       have c13b0 : ((Int.tmod (ji11) t138) == 0) = true:=beq_iff_eq.mpr c13
       have c13b1 : ((Int.tmod (ji11) t138) != 0) = false:=bne_eq_false_iff_eq.mpr c13
       clear c13
       obtain rfl:=Option.some.inj H
       go_wp2
       go_ret
       exact ⟨by first|rfl|(simp;done)|(simp only [← hji11] <;> (first|rfl|simp))|(simp [*];done),by repeat (first|exact Drawn0.refl _|apply Drawn0.step)⟩
      ·rw [if_neg c13] at H
       have c13b0 : ((Int.tmod (ji11) t138) == 0) = false:=beq_eq_false_iff_ne.mpr c13
       have c13b1 : ((Int.tmod (ji11) t138) != 0) = true:=bne_iff_ne.mpr c13
       by_cases c14 : ((decide ((ji11) < 0)) != (decide (t138 < 0))) = true
       ·rw [if_pos c14] at H
        have c14b0 : ((decide ((ji11) < 0)) != (decide (t138 < 0))) = true:=c14
        (try (have c14b1 : decide ((decide ((ji11) < 0)) = (decide (t138 < 0))) = false:=by simpa using c14))
        (try (have c14b2 : ((decide ((ji11) < 0)) == (decide (t138 < 0))) = false:=by simpa using c14))
        (try (have c14b3 : ¬ ((decide ((ji11) < 0)) = (decide (t138 < 0))):=by simpa using c14))
        clear c14
        obtain rfl:=Option.some.inj H
        go_wp2
        go_ret
        exact ⟨by first|rfl|(simp;done)|(simp only [← hji11] <;> (first|rfl|simp))|(simp [*];done),by repeat (first|exact Drawn0.refl _|apply Drawn0.step)⟩
       ·rw [if_neg c14] at H
        have c14b0 : ((decide ((ji11) < 0)) != (decide (t138 < 0))) = false:=by simpa using c14
        (try (have c14b1 : decide ((decide ((ji11) < 0)) = (decide (t138 < 0))) = true:=by simpa using c14))
        (try (have c14b2 : ((decide ((ji11) < 0)) == (decide (t138 < 0))) = true:=by simpa using c14))
        clear c14
        obtain rfl:=Option.some.inj H
        go_wp2
        go_ret
        exact ⟨by first|rfl|(simp;done)|(simp only [← hji11] <;> (first|rfl|simp))|(simp [*];done),by repeat (first|exact Drawn0.refl _|apply Drawn0.step)⟩
    ·rw [if_neg c10] at H
     exact absurd H (by simp)

end Go.Proofs.Ytllglpcpjeggcaa.P
