/- The machine side of the laws of one chapter, without conditions: each call of a Go function comes to what the Lean function of its name answers. Written for this claim by a program of the prover. -/
import Derived.Test.YtdchabinakboeaaPx0
import Derived.Test.YtdchabinakboeaaPx3
namespace Go.Proofs.Ytdchabinakboeaa.P
open Go.RowKit Go.Proofs.YtdchabinakboeaaW.PrintWords Go.Proofs.YtdchabinakboeaaW.PrintLast Go.Proofs.YtdchabinakboeaaW.PrintMore
attribute [local go_sem] max2_int min2_int max_two min_two max_three min_three max_four min_four   -- for this text's walks alone
set_option linter.unusedVariables false
set_option linter.unusedSimpArgs false

/-! ### fix_Log2: function 37 -/
mutual
def fix_Log2.j0 : Nat → Int → Int → Option (Int)
 | 0,_,_ => none
 | k + 1,x3,x4 => fix_Log2.l0 k x4 (wrap64 (x3 - 1)) 0
def fix_Log2.l0 : Nat → Int → Int → Int → Option (Int)
 | 0,_,_,_ => none
 | k + 1,x4,x5,x24 => if x24 < 8 then (if ((IntKind.u64.wrap (x4 * x4)) / 1073741824) ≥ 2147483648 then (fix_Log2.l0 k (((IntKind.u64.wrap (x4 * x4)) / 1073741824) / 2) (wrap64 ((wrap64 (x5 * 2)) + 1)) (wrap64 (x24 + 1))) else (fix_Log2.l0 k ((IntKind.u64.wrap (x4 * x4)) / 1073741824) (wrap64 (x5 * 2)) (wrap64 (x24 + 1)))) else (some x5)
end
def fix_Log2.f (k : Nat) (a0 : Int) : Option (Int):=if a0 < 1 then (some 0) else ((fix_Len.f k a0).bind fun t103 => (if t103 > 31 then (if 0 ≤ (wrap64 (t103 - 31)) then (fix_Log2.j0 k t103 (shr .u64 (IntKind.u64.wrap (a0)) (wrap64 (t103 - 31)))) else (none)) else (if 0 ≤ (wrap64 (31 - t103)) then (fix_Log2.j0 k t103 (shl .u64 (IntKind.u64.wrap (a0)) (wrap64 (31 - t103)))) else (none))))
theorem fix_Log2.mono_l : ∀ k,(∀ y0 y1,LeO (fix_Log2.j0 k y0 y1) (fix_Log2.j0 (k + 1) y0 y1)) ∧ (∀ y0 y1 y2,LeO (fix_Log2.l0 k y0 y1 y2) (fix_Log2.l0 (k + 1) y0 y1 y2))
 | 0 => ⟨fun _ _ r h => by simp [fix_Log2.j0] at h,fun _ _ _ r h => by simp [fix_Log2.l0] at h⟩
 | k + 1 => by
  obtain ⟨ih0,ih1⟩:=fix_Log2.mono_l k
  refine ⟨?_,?_⟩
  all_goals (intros;first|unfold fix_Log2.j0|unfold fix_Log2.l0)
  all_goals (repeat' first|(with_reducible first|exact ih0 _ _|exact ih1 _ _ _|exact fix_Len.mono _ _|exact LeO.refl _|exact LeO.none _|refine LeO.ite ?_ ?_|refine LeO.bind ?_ (fun _ => ?_))|exact ih0 _ _|exact ih1 _ _ _|exact fix_Len.mono _ _|exact LeO.none _|refine LeO.ite ?_ ?_|refine LeO.bind ?_ (fun _ => ?_))
theorem fix_Log2.mono : ∀ a0 k,LeO (fix_Log2.f k a0) (fix_Log2.f (k + 1) a0):=by
 intro a0 k
 obtain ⟨ih0,ih1⟩:=fix_Log2.mono_l k
 unfold fix_Log2.f
 repeat' first|(with_reducible first|exact ih0 _ _|exact ih1 _ _ _|exact fix_Len.mono _ _|exact LeO.refl _|exact LeO.none _|refine LeO.ite ?_ ?_|refine LeO.bind ?_ (fun _ => ?_))|exact ih0 _ _|exact ih1 _ _ _|exact fix_Len.mono _ _|exact LeO.none _|refine LeO.ite ?_ ?_|refine LeO.bind ?_ (fun _ => ?_)
set_option maxHeartbeats 8000000 in
set_option maxRecDepth 100000 in
theorem fix_Log2.calls (k : Nat) (a0 : Int) (r : Int) (w : World) (h : fix_Log2.f k a0 = some r) :
  Calls Try.prog 37 #[.int .i64 a0] w fun e w' => e = .returned (.int .i64 r) ∧ Drawn0 w w':=by
 have H : (if a0 < 1 then (some 0) else ((fix_Len.f k a0).bind fun t103 => (if t103 > 31 then (if 0 ≤ (wrap64 (t103 - 31)) then (fix_Log2.j0 k t103 (shr .u64 (IntKind.u64.wrap (a0)) (wrap64 (t103 - 31)))) else (none)) else (if 0 ≤ (wrap64 (31 - t103)) then (fix_Log2.j0 k t103 (shl .u64 (IntKind.u64.wrap (a0)) (wrap64 (31 - t103)))) else (none))))) = some r:=h
 clear h
 by_cases c2 : a0 < 1
 ·rw [if_pos c2] at H
  have c2b0:=decide_eq_true c2
  clear c2
  obtain rfl:=Option.some.inj H
  go_enter Try.func37,Try.ntmps37
  go_wp2
  go_ret
  exact ⟨by first|rfl|(simp;done)|(simp [*];done),by repeat (first|exact Drawn0.refl _|apply Drawn0.step)⟩
 ·rw [if_neg c2] at H
  have c2b0:=decide_eq_false c2
  clear c2
  replace H:=Option.bind_eq_some_iff.mp H
  obtain ⟨t103,A30,H⟩:=H
  (try dsimp only at H)
  have A3:=ak_ A30
  clear A30
  have HC4:=ak_ H
  clear H
  go_enter Try.func37,Try.ntmps37
  go_upto_if 13 with (first|((with_reducible refine gate_callee (f:=49) rfl ?_);refine goesL_ (some 9) rfl rfl Try.func49 (by kernel_rfl) rfl #[.int .i64 a0] rfl (by (try simp only [List.map_toArray,List.map_cons,List.map_nil]);first|done|rfl|(simp only [List.length_drop,List.length_take];rfl)) ?_;(with_reducible refine (fix_Len.calls k a0 t103 _ A3.out).mono ?_);rintro e w' ⟨rfl,⟨nd,rfl⟩⟩;refine ⟨_,rfl,?_⟩))
  (try simp only [Act.put,List.setIfInBounds_toArray,List.set_cons_zero,List.set_cons_succ])
  go_cut [4] (fun v4 wc => ∃ (kq : Nat) (x4_3 : Int),v4 = .int .u64 x4_3 ∧ Aside0 (fix_Log2.j0 kq t103 x4_3 = some r) ∧ Aside0 (kq ≤ k) ∧ Drawn0 w wc)
  case first =>
   have H:=HC4.out
   clear HC4
   by_cases c5 : t103 > 31
   ·rw [if_pos c5] at H
    have c5b0 : decide (31 < t103) = true:=decide_eq_true c5
    clear c5
    (first|rw [c5b0]|(simp only [i64_w,i32_w];rw [c5b0])|skip)
    obtain ⟨ji6,hji6⟩ : ∃ j_ : Int,(wrap64 (t103 - 31)) = j_:=⟨_,rfl⟩
    replace H : (if 0 ≤ (ji6) then (fix_Log2.j0 k t103 (shr .u64 (IntKind.u64.wrap (a0)) (ji6))) else (none)) = some r:=by first|(rw [hji6] at H;exact H)|(simp only [hji6] at H ⊢;exact H)
    have hji6w : (IntKind.i64.wrap (t103 - 31)) = ji6:=(i64_w _).trans hji6
    by_cases c7 : 0 ≤ (ji6)
    ·rw [if_pos c7] at H
     have c7b0:=eq_true c7
     have c7b1 : decide (0 ≤ (ji6)) = true:=decide_eq_true c7
     clear c7
     obtain ⟨ji8,hji8⟩ : ∃ j_ : Int,(shr .u64 (IntKind.u64.wrap (a0)) (ji6)) = j_:=⟨_,rfl⟩
     replace H : (fix_Log2.j0 k t103 ji8) = some r:=by first|(rw [hji8] at H;exact H)|(simp only [hji8] at H ⊢;exact H)
     have hji8_ : ((IntKind.u64.wrap (a0)) / 2 ^ min (ji6).toNat 64) = ji8:=hji8
     have hji8z : (ji6) ≤ 64 → ((IntKind.u64.wrap (a0)) / 2 ^ (ji6).toNat) = ji8:=shr_small hji8
     have H':=ak_ H
     clear H
     go_wp2
     go_meet
     case rel => exact ⟨_,(ji8),(by first|rfl|(simp;done)|(simp only [← hji8] <;> (first|rfl|simp))|(simp [*];done)),H',⟨by first|omega|exact Nat.le_refl _⟩,by repeat (first|exact Drawn0.refl _|apply Drawn0.step)⟩
    ·rw [if_neg c7] at H
     exact absurd H (by simp)
   ·rw [if_neg c5] at H
    have c5b0 : decide (31 < t103) = false:=decide_eq_false c5
    clear c5
    (first|rw [c5b0]|(simp only [i64_w,i32_w];rw [c5b0])|skip)
    obtain ⟨ji9,hji9⟩ : ∃ j_ : Int,(wrap64 (31 - t103)) = j_:=⟨_,rfl⟩
    replace H : (if 0 ≤ (ji9) then (fix_Log2.j0 k t103 (shl .u64 (IntKind.u64.wrap (a0)) (ji9))) else (none)) = some r:=by first|(rw [hji9] at H;exact H)|(simp only [hji9] at H ⊢;exact H)
    have hji9w : (IntKind.i64.wrap (31 - t103)) = ji9:=(i64_w _).trans hji9
    by_cases c10 : 0 ≤ (ji9)
    ·rw [if_pos c10] at H
     have c10b0:=eq_true c10
     have c10b1 : decide (0 ≤ (ji9)) = true:=decide_eq_true c10
     clear c10
     obtain ⟨ji11,hji11⟩ : ∃ j_ : Int,(shl .u64 (IntKind.u64.wrap (a0)) (ji9)) = j_:=⟨_,rfl⟩
     replace H : (fix_Log2.j0 k t103 ji11) = some r:=by first|(rw [hji11] at H;exact H)|(simp only [hji11] at H ⊢;exact H)
     have hji11_ : (IntKind.u64.wrap ((IntKind.u64.wrap (a0)) * 2 ^ min (ji9).toNat 64)) = ji11:=hji11
     have hji11z : (ji9) ≤ 64 → (IntKind.u64.wrap ((IntKind.u64.wrap (a0)) * 2 ^ (ji9).toNat)) = ji11:=shl_small hji11
     have H':=ak_ H
     clear H
     go_wp2
     go_meet
     case rel => exact ⟨_,(ji11),(by first|rfl|(simp;done)|(simp only [← hji11] <;> (first|rfl|simp))|(simp [*];done)),H',⟨by first|omega|exact Nat.le_refl _⟩,by repeat (first|exact Drawn0.refl _|apply Drawn0.step)⟩
    ·rw [if_neg c10] at H
     exact absurd H (by simp)
  case rest =>
   clear HC4
   try clear c1
   try clear c2
   try clear c2b0
   try clear p2
   try clear c3
   try clear c4
   try clear c5
   try clear c5b0
   try clear p6
   try clear c7
   try clear c7b0
   try clear c7b1
   try clear c10
   try clear c10b0
   try clear c10b1
   obtain ⟨kq,x4_3,rfl,HA,HJ3,⟨mc3,rfl⟩⟩:=hcut
   (try simp only [i64_w,i32_w])
   cases kq with
   | zero => exact absurd HA.out (by simp [fix_Log2.j0])
   | succ kj3 =>
    have H:=HA.out
    clear HA
    simp only [fix_Log2.j0] at H
    have H':=ak_ H
    clear H
    go_wp2
    go_loopg [4,5,24] kj3 (fun kq v4 v5 v24 w' => ∃ (x4_2 : Int) (x5_2 : Int) (x24_2 : Int),v4 = .int .u64 x4_2 ∧ v5 = .int .i64 x5_2 ∧ v24 = .int .i64 x24_2 ∧ Aside0 (fix_Log2.l0 kq x4_2 x5_2 x24_2 = some r) ∧ Aside0 (kq ≤ kj3) ∧ Drawn0 w w')
    case atStart => exact ⟨(x4_3),(wrap64 (t103 - 1)),(0),(by first|rfl|(simp;done)|(simp [*];done)),(by first|rfl|(simp;done)|(simp [*];done)),(by first|rfl|(simp;done)|(simp [*];done)),H',⟨Nat.le_refl _⟩,by repeat (first|exact Drawn0.refl _|apply Drawn0.step)⟩
    case round =>
     clear H'
     try clear c1
     try clear c2
     try clear c2b0
     try clear p2
     try clear c3
     try clear c4
     try clear c5
     try clear c5b0
     try clear p6
     try clear c7
     try clear c7b0
     try clear c7b1
     try clear c10
     try clear c10b0
     try clear c10b1
     try clear p2
     try clear p6
     obtain ⟨x4_2,x5_2,x24_2,rfl,rfl,rfl,HA,HK2,⟨m2,rfl⟩⟩:=hrel
     (try simp only [i64_w,i32_w])
     cases gk with
     | zero => exact absurd HA.out (by simp [fix_Log2.l0])
     | succ k2 =>
      have H:=HA.out
      clear HA
      simp only [fix_Log2.l0] at H
      by_cases c12 : x24_2 < 8
      ·rw [if_pos c12] at H
       have c12b0:=decide_eq_true c12
       clear c12
       by_cases c13 : ((IntKind.u64.wrap (x4_2 * x4_2)) / 1073741824) ≥ 2147483648
       ·rw [if_pos c13] at H
        have c13b0 : decide (2147483648 ≤ ((IntKind.u64.wrap (x4_2 * x4_2)) / 1073741824)) = true:=decide_eq_true c13
        clear c13
        have H':=ak_ H
        clear H
        go_wp2
        go_roundg k2
        case measure => have:=HJ3.out;have:=HK2.out;omega
        case rel => exact ⟨(((IntKind.u64.wrap (x4_2 * x4_2)) / 1073741824) / 2),(wrap64 ((wrap64 (x5_2 * 2)) + 1)),(wrap64 (x24_2 + 1)),(by first|rfl|(simp;done)|(simp [*];done)),(by first|rfl|(simp;done)|(simp [*];done)),(by first|rfl|(simp;done)|(simp [*];done)),H',⟨by have:=HJ3.out;have:=HK2.out;omega⟩,by repeat (first|exact Drawn0.refl _|apply Drawn0.step)⟩
       ·rw [if_neg c13] at H
        have c13b0 : decide (2147483648 ≤ ((IntKind.u64.wrap (x4_2 * x4_2)) / 1073741824)) = false:=decide_eq_false c13
        clear c13
        have H':=ak_ H
        clear H
        go_wp2
        go_roundg k2
        case measure => have:=HJ3.out;have:=HK2.out;omega
        case rel => exact ⟨((IntKind.u64.wrap (x4_2 * x4_2)) / 1073741824),(wrap64 (x5_2 * 2)),(wrap64 (x24_2 + 1)),(by first|rfl|(simp;done)|(simp [*];done)),(by first|rfl|(simp;done)|(simp [*];done)),(by first|rfl|(simp;done)|(simp [*];done)),H',⟨by have:=HJ3.out;have:=HK2.out;omega⟩,by repeat (first|exact Drawn0.refl _|apply Drawn0.step)⟩
      ·rw [if_neg c12] at H
       have c12b0:=decide_eq_false c12
       clear c12
       obtain rfl:=Option.some.inj H
       go_wp2
       go_ret
       exact ⟨by first|rfl|(simp;done)|(simp [*];done),by repeat (first|exact Drawn0.refl _|apply Drawn0.step)⟩

end Go.Proofs.Ytdchabinakboeaa.P
