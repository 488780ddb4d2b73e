/- The machine side of the laws of one chapter, without conditions: each call of a Go function comes to what the Lean function of its name answers. Written for this claim by a program of the prover. -/
import Derived.Test.YtcicenmmpbgmoaaPx0
import Derived.Test.YtcicenmmpbgmoaaPx19
namespace Go.Proofs.Ytcicenmmpbgmoaa.P
open Go.RowKit Go.Proofs.YtcicenmmpbgmoaaW.PrintWords Go.Proofs.YtcicenmmpbgmoaaW.PrintLast Go.Proofs.YtcicenmmpbgmoaaW.PrintMore
attribute [local go_sem] max2_int min2_int max_two min_two max_three min_three max_four min_four   -- for this text's walks alone
set_option linter.unusedVariables false
set_option linter.unusedSimpArgs false

/-! ### madrigalref1_Mul: function 37 -/
def madrigalref1_Mul.j0 : Nat → Int → Int → Bool → Option (Int)
 | 0,_,_,_ => none
 | k + 1,x2,x7,x21 => if x21 = true then (some 0) else (if x2 = 0 then (some x7) else (if 0 ≤ (IntKind.u64.wrap (wrap64 (x2 - 1))) then (if 0 ≤ (IntKind.u64.wrap (x2)) then (if (wrap64 (x7 - (shl .i64 (shr .i64 x7 (IntKind.u64.wrap (x2))) (IntKind.u64.wrap (x2))))) ≥ (shl .i64 1 (IntKind.u64.wrap (wrap64 (x2 - 1)))) then (some (wrap64 ((shr .i64 x7 (IntKind.u64.wrap (x2))) + 1))) else (some (shr .i64 x7 (IntKind.u64.wrap (x2))))) else (none)) else (none)))
def madrigalref1_Mul.f (k : Nat) (a0 : Int) (a1 : Int) (a2 : Int) : Option (Int):=(madrigalref1_Clamp.f k a0 (-2147483648) 2147483648).bind fun t285 => ((madrigalref1_Clamp.f k a1 (-2147483648) 2147483648).bind fun t286 => (if a2 < 0 then (madrigalref1_Mul.j0 k a2 (wrap64 (t285 * t286)) true) else (madrigalref1_Mul.j0 k a2 (wrap64 (t285 * t286)) (decide (a2 > 62)))))
theorem madrigalref1_Mul.mono_l : ∀ k,(∀ y0 y1 y2,LeO (madrigalref1_Mul.j0 k y0 y1 y2) (madrigalref1_Mul.j0 (k + 1) y0 y1 y2))
 | 0 => fun _ _ _ r h => by simp [madrigalref1_Mul.j0] at h
 | k + 1 => by
  have ih0:=madrigalref1_Mul.mono_l k
  all_goals (intros;first|unfold madrigalref1_Mul.j0)
  all_goals (repeat' first|(with_reducible first|exact ih0 _ _ _|exact madrigalref1_Clamp.mono _ _ _ _|exact LeO.refl _|exact LeO.none _|refine LeO.ite ?_ ?_|refine LeO.bind ?_ (fun _ => ?_))|exact ih0 _ _ _|exact madrigalref1_Clamp.mono _ _ _ _|exact LeO.none _|refine LeO.ite ?_ ?_|refine LeO.bind ?_ (fun _ => ?_))
theorem madrigalref1_Mul.mono : ∀ a0 a1 a2 k,LeO (madrigalref1_Mul.f k a0 a1 a2) (madrigalref1_Mul.f (k + 1) a0 a1 a2):=by
 intro a0 a1 a2 k
 have ih0:=madrigalref1_Mul.mono_l k
 unfold madrigalref1_Mul.f
 repeat' first|(with_reducible first|exact ih0 _ _ _|exact madrigalref1_Clamp.mono _ _ _ _|exact LeO.refl _|exact LeO.none _|refine LeO.ite ?_ ?_|refine LeO.bind ?_ (fun _ => ?_))|exact ih0 _ _ _|exact madrigalref1_Clamp.mono _ _ _ _|exact LeO.none _|refine LeO.ite ?_ ?_|refine LeO.bind ?_ (fun _ => ?_)
set_option maxHeartbeats 8000000 in
set_option maxRecDepth 100000 in
theorem madrigalref1_Mul.calls (k : Nat) (a0 : Int) (a1 : Int) (a2 : Int) (r : Int) (w : World) (h : madrigalref1_Mul.f k a0 a1 a2 = some r) :
  Calls Try.prog 37 #[.int .i64 a0,.int .i64 a1,.int .i64 a2] w fun e w' => e = .returned (.int .i64 r) ∧ Drawn0 w w':=by
 have H : ((madrigalref1_Clamp.f k a0 (-2147483648) 2147483648).bind fun t285 => ((madrigalref1_Clamp.f k a1 (-2147483648) 2147483648).bind fun t286 => (if a2 < 0 then (madrigalref1_Mul.j0 k a2 (wrap64 (t285 * t286)) true) else (madrigalref1_Mul.j0 k a2 (wrap64 (t285 * t286)) (decide (a2 > 62)))))) = some r:=h
 clear h
 replace H:=Option.bind_eq_some_iff.mp H
 obtain ⟨t285,A40,H⟩:=H
 (try dsimp only at H)
 have A4:=ak_ A40
 clear A40
 replace H:=Option.bind_eq_some_iff.mp H
 obtain ⟨t286,A50,H⟩:=H
 (try dsimp only at H)
 have A5:=ak_ A50
 clear A50
 have HC6:=ak_ H
 clear H
 go_enter Try.func37,Try.ntmps37
 go_upto_region 2 with (first|((with_reducible refine gate_callee (f:=40) rfl ?_);refine goesL_ (some 12) rfl rfl Try.func40 (by kernel_rfl) rfl #[.int .i64 a0,.int .i64 (-2147483648),.int .i64 2147483648] rfl (by (try simp only [List.map_toArray,List.map_cons,List.map_nil]);first|done|rfl|(simp only [List.length_drop,List.length_take];rfl)) ?_;(with_reducible refine (madrigalref1_Clamp.calls k a0 (-2147483648) 2147483648 t285 _ A4.out).mono ?_);rintro e w' ⟨rfl,⟨nd,rfl⟩⟩;refine ⟨_,rfl,?_⟩)|((with_reducible refine gate_callee (f:=40) rfl ?_);refine goesL_ (some 14) rfl rfl Try.func40 (by kernel_rfl) rfl #[.int .i64 a1,.int .i64 (-2147483648),.int .i64 2147483648] rfl (by (try simp only [List.map_toArray,List.map_cons,List.map_nil]);first|done|rfl|(simp only [List.length_drop,List.length_take];rfl)) ?_;(with_reducible refine (madrigalref1_Clamp.calls k a1 (-2147483648) 2147483648 t286 _ A5.out).mono ?_);rintro e w' ⟨rfl,⟨nd,rfl⟩⟩;refine ⟨_,rfl,?_⟩))
 (try simp only [Act.put,List.setIfInBounds_toArray,List.set_cons_zero,List.set_cons_succ])
 go_cut [21] (fun v21 wc => ∃ (kq : Nat) (x21_5 : Bool),v21 = .bool x21_5 ∧ Aside0 (madrigalref1_Mul.j0 kq a2 (wrap64 (t285 * t286)) x21_5 = some r) ∧ Aside0 (kq ≤ k) ∧ Drawn0 w wc)
 case first =>
  have H:=HC6.out
  clear HC6
  by_cases c7 : a2 < 0
  ·rw [if_pos c7] at H
   have c7b0:=decide_eq_true c7
   clear c7
   (first|rw [c7b0]|(simp only [i64_w,i32_w];rw [c7b0])|skip)
   have H':=ak_ H
   clear H
   go_wp2
   refine Met.intro ?_
   go_step
   (repeat apply Exists.intro)
   first|refine ⟨?rel49,rfl⟩|(refine ⟨?rel49,?st49⟩;case' st49 => (first|rw [c7b0]|simp only [c7b0]))
   case rel49 => exact ⟨_,(true),(by first|rfl|(simp;done)|(simp [*];done)),H',⟨by first|omega|exact Nat.le_refl _⟩,by repeat (first|exact Drawn0.refl _|apply Drawn0.step)⟩
  ·rw [if_neg c7] at H
   have c7b0:=decide_eq_false c7
   clear c7
   (first|rw [c7b0]|(simp only [i64_w,i32_w];rw [c7b0])|skip)
   have H':=ak_ H
   clear H
   go_wp2
   refine Met.intro ?_
   go_step
   (repeat apply Exists.intro)
   first|refine ⟨?rel58,rfl⟩|(refine ⟨?rel58,?st58⟩;case' st58 => (first|rw [c7b0]|simp only [c7b0]))
   case rel58 => exact ⟨_,(decide (a2 > 62)),(by first|rfl|(simp;done)|(simp [*];done)),H',⟨by first|omega|exact Nat.le_refl _⟩,by repeat (first|exact Drawn0.refl _|apply Drawn0.step)⟩
 case rest =>
  clear HC6
  try clear p2
  try clear c3
  try clear c4
  try clear p6
  try clear c7
  try clear c7b0
  obtain ⟨kq,x21_5,rfl,HA,HJ5,⟨mc5,rfl⟩⟩:=hcut
  (try simp only [i64_w,i32_w])
  cases kq with
  | zero => exact absurd HA.out (by simp [madrigalref1_Mul.j0])
  | succ kj5 =>
   have H:=HA.out
   clear HA
   simp only [madrigalref1_Mul.j0] at H
   by_cases c8 : x21_5 = true
   ·subst c8
    have H1 : (some 0) = some r:=by rw [if_pos rfl] at H;exact H
    clear H
    have H:=H1
    clear H1
    obtain rfl:=Option.some.inj H
    go_wp2
    go_ret
    exact ⟨by first|rfl|(simp;done)|(simp [*];done),by repeat (first|exact Drawn0.refl _|apply Drawn0.step)⟩
   ·replace c8:=Bool.eq_false_iff.mpr c8
    subst c8
    have H1 : (if a2 = 0 then (some (wrap64 (t285 * t286))) else (if 0 ≤ (IntKind.u64.wrap (wrap64 (a2 - 1))) then (if 0 ≤ (IntKind.u64.wrap (a2)) then (if (wrap64 ((wrap64 (t285 * t286)) - (shl .i64 (shr .i64 (wrap64 (t285 * t286)) (IntKind.u64.wrap (a2))) (IntKind.u64.wrap (a2))))) ≥ (shl .i64 1 (IntKind.u64.wrap (wrap64 (a2 - 1)))) then (some (wrap64 ((shr .i64 (wrap64 (t285 * t286)) (IntKind.u64.wrap (a2))) + 1))) else (some (shr .i64 (wrap64 (t285 * t286)) (IntKind.u64.wrap (a2))))) else (none)) else (none))) = some r:=by rw [if_neg (show ¬ (false = true) by decide)] at H;exact H
    clear H
    have H:=H1
    clear H1
    by_cases c9 : a2 = 0
    ·rw [if_pos c9] at H
     have c9b0 : (a2 == 0) = true:=beq_iff_eq.mpr c9
     have c9b1 : (a2 != 0) = false:=bne_eq_false_iff_eq.mpr c9
     clear c9
     obtain rfl:=Option.some.inj H
     go_wp2
     go_ret
     exact ⟨by first|rfl|(simp;done)|(simp [*];done),by repeat (first|exact Drawn0.refl _|apply Drawn0.step)⟩
    ·rw [if_neg c9] at H
     have c9b0 : (a2 == 0) = false:=beq_eq_false_iff_ne.mpr c9
     have c9b1 : (a2 != 0) = true:=bne_iff_ne.mpr c9
     obtain ⟨ji10,hji10⟩ : ∃ j_ : Int,(IntKind.u64.wrap (wrap64 (a2 - 1))) = j_:=⟨_,rfl⟩
     replace H : (if 0 ≤ (ji10) then (if 0 ≤ (IntKind.u64.wrap (a2)) then (if (wrap64 ((wrap64 (t285 * t286)) - (shl .i64 (shr .i64 (wrap64 (t285 * t286)) (IntKind.u64.wrap (a2))) (IntKind.u64.wrap (a2))))) ≥ (shl .i64 1 (ji10)) then (some (wrap64 ((shr .i64 (wrap64 (t285 * t286)) (IntKind.u64.wrap (a2))) + 1))) else (some (shr .i64 (wrap64 (t285 * t286)) (IntKind.u64.wrap (a2))))) else (none)) else (none)) = some r:=by first|(rw [hji10] at H;exact H)|(simp only [hji10] at H ⊢;exact H)
     by_cases c11 : 0 ≤ (ji10)
     ·rw [if_pos c11] at H
      have c11b0:=eq_true c11
      have c11b1 : decide (0 ≤ (ji10)) = true:=decide_eq_true c11
      clear c11
      obtain ⟨ji12,hji12⟩ : ∃ j_ : Int,(shl .i64 1 (ji10)) = j_:=⟨_,rfl⟩
      replace H : (if 0 ≤ (IntKind.u64.wrap (a2)) then (if (wrap64 ((wrap64 (t285 * t286)) - (shl .i64 (shr .i64 (wrap64 (t285 * t286)) (IntKind.u64.wrap (a2))) (IntKind.u64.wrap (a2))))) ≥ (ji12) then (some (wrap64 ((shr .i64 (wrap64 (t285 * t286)) (IntKind.u64.wrap (a2))) + 1))) else (some (shr .i64 (wrap64 (t285 * t286)) (IntKind.u64.wrap (a2))))) else (none)) = some r:=by first|(rw [hji12] at H;exact H)|(simp only [hji12] at H ⊢;exact H)
      have hji12_ : (IntKind.i64.wrap (1 * 2 ^ min (ji10).toNat 64)) = ji12:=hji12
      have hji12z : (ji10) ≤ 64 → (IntKind.i64.wrap (1 * 2 ^ (ji10).toNat)) = ji12:=shl_small hji12
      have hji12u : (IntKind.i64.wrap (2 ^ min (ji10).toNat 64)) = ji12:=by have h_:=hji12_;rw [Int.one_mul] at h_;exact h_
      have hji12v : (ji10) ≤ 64 → (IntKind.i64.wrap (2 ^ (ji10).toNat)) = ji12:=fun hle_ => by have h_:=hji12z hle_;rw [Int.one_mul] at h_;exact h_
      have hji12y : (wrap64 (1 * 2 ^ min (ji10).toNat 64)) = ji12:=(i64_w _).symm.trans hji12_
      have hji12x : (ji10) ≤ 64 → (wrap64 (1 * 2 ^ (ji10).toNat)) = ji12:=fun h_ => (i64_w _).symm.trans (hji12z h_)
      obtain ⟨ji13,hji13⟩ : ∃ j_ : Int,(IntKind.u64.wrap (a2)) = j_:=⟨_,rfl⟩
      replace H : (if 0 ≤ (ji13) then (if (wrap64 ((wrap64 (t285 * t286)) - (shl .i64 (shr .i64 (wrap64 (t285 * t286)) (ji13)) (ji13)))) ≥ (ji12) then (some (wrap64 ((shr .i64 (wrap64 (t285 * t286)) (ji13)) + 1))) else (some (shr .i64 (wrap64 (t285 * t286)) (ji13)))) else (none)) = some r:=by first|(rw [hji13] at H;exact H)|(simp only [hji13] at H ⊢;exact H)
      by_cases c14 : 0 ≤ (ji13)
      ·rw [if_pos c14] at H
       have c14b0:=eq_true c14
       have c14b1 : decide (0 ≤ (ji13)) = true:=decide_eq_true c14
       clear c14
       obtain ⟨ji15,hji15⟩ : ∃ j_ : Int,(shr .i64 (wrap64 (t285 * t286)) (ji13)) = j_:=⟨_,rfl⟩
       replace H : (if (wrap64 ((wrap64 (t285 * t286)) - (shl .i64 (ji15) (ji13)))) ≥ (ji12) then (some (wrap64 ((ji15) + 1))) else (some ji15)) = some r:=by first|(rw [hji15] at H;exact H)|(simp only [hji15] at H ⊢;exact H)
       have hji15_ : ((wrap64 (t285 * t286)) / 2 ^ min (ji13).toNat 64) = ji15:=hji15
       have hji15z : (ji13) ≤ 64 → ((wrap64 (t285 * t286)) / 2 ^ (ji13).toNat) = ji15:=shr_small hji15
       have c16b0:=eq_true (of_decide_eq_true (by first|(with_reducible assumption)|assumption) : 0 ≤ (ji13))
       obtain ⟨ji17,hji17⟩ : ∃ j_ : Int,(shl .i64 (ji15) (ji13)) = j_:=⟨_,rfl⟩
       replace H : (if (wrap64 ((wrap64 (t285 * t286)) - (ji17))) ≥ (ji12) then (some (wrap64 ((ji15) + 1))) else (some ji15)) = some r:=by first|(rw [hji17] at H;exact H)|(simp only [hji17] at H ⊢;exact H)
       have hji17_ : (IntKind.i64.wrap ((ji15) * 2 ^ min (ji13).toNat 64)) = ji17:=hji17
       have hji17z : (ji13) ≤ 64 → (IntKind.i64.wrap ((ji15) * 2 ^ (ji13).toNat)) = ji17:=shl_small hji17
       have hji17y : (wrap64 ((ji15) * 2 ^ min (ji13).toNat 64)) = ji17:=(i64_w _).symm.trans hji17_
       have hji17x : (ji13) ≤ 64 → (wrap64 ((ji15) * 2 ^ (ji13).toNat)) = ji17:=fun h_ => (i64_w _).symm.trans (hji17z h_)
       by_cases c18 : (wrap64 ((wrap64 (t285 * t286)) - (ji17))) ≥ (ji12)
       ·rw [if_pos c18] at H
        have c18b0 : decide ((ji12) ≤ (wrap64 ((wrap64 (t285 * t286)) - (ji17)))) = true:=decide_eq_true c18
        clear c18
        obtain rfl:=Option.some.inj H
        go_wp2
        go_ret
        exact ⟨by first|rfl|(simp;done)|(simp only [← hji10,← hji12,← hji13,← hji15,← hji17] <;> (first|rfl|simp))|(simp [*];done),by repeat (first|exact Drawn0.refl _|apply Drawn0.step)⟩
       ·rw [if_neg c18] at H
        have c18b0 : decide ((ji12) ≤ (wrap64 ((wrap64 (t285 * t286)) - (ji17)))) = false:=decide_eq_false c18
        clear c18
        obtain rfl:=Option.some.inj H
        go_wp2
        go_ret
        exact ⟨by first|rfl|(simp;done)|(simp only [← hji10,← hji12,← hji13,← hji15,← hji17] <;> (first|rfl|simp))|(simp [*];done),by repeat (first|exact Drawn0.refl _|apply Drawn0.step)⟩
      ·rw [if_neg c14] at H
       exact absurd H (by simp)
     ·rw [if_neg c11] at H
      exact absurd H (by simp)

end Go.Proofs.Ytcicenmmpbgmoaa.P
