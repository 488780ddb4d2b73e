/- The machine side of the laws of one chapter, without conditions: each call of a Go function comes to what the Lean function of its name answers. Written for this claim by a program of the prover. -/
import Derived.Test.YtlmacbiahofmcaaPx0
import Derived.Test.YtlmacbiahofmcaaPx2
namespace Go.Proofs.Ytlmacbiahofmcaa.P
open Go.RowKit Go.Proofs.YtlmacbiahofmcaaW.PrintWords Go.Proofs.YtlmacbiahofmcaaW.PrintLast Go.Proofs.YtlmacbiahofmcaaW.PrintMore
attribute [local go_sem] max2_int min2_int max_two min_two max_three min_three max_four min_four   -- for this text's walks alone
set_option linter.unusedVariables false
set_option linter.unusedSimpArgs false

/-! ### fix_Mul: function 27 -/
def fix_Mul.f (k : Nat) (a0 : Int) (a1 : Int) (a2 : Int) : Option (Int):=(fix_factor.f k a0).bind fun t102 => ((fix_factor.f k a1).bind fun t103 => (if a2 = 0 then (some (wrap64 (t102 * t103))) else (if a2 < 0 then (some 0) else (if a2 > 62 then (some 0) else (if 0 ≤ (wrap64 (a2 - 1)) then (if 0 ≤ a2 then (some (shr .i64 (wrap64 ((wrap64 (t102 * t103)) + (shl .i64 1 (wrap64 (a2 - 1))))) a2)) else (none)) else (none))))))
theorem fix_Mul.mono : ∀ a0 a1 a2 k,LeO (fix_Mul.f k a0 a1 a2) (fix_Mul.f (k + 1) a0 a1 a2):=by
 intro a0 a1 a2 k
 unfold fix_Mul.f
 repeat' first|(with_reducible first|exact fix_factor.mono _ _|exact LeO.refl _|exact LeO.none _|refine LeO.ite ?_ ?_|refine LeO.bind ?_ (fun _ => ?_))|exact fix_factor.mono _ _|exact LeO.none _|refine LeO.ite ?_ ?_|refine LeO.bind ?_ (fun _ => ?_)
set_option maxHeartbeats 8000000 in
set_option maxRecDepth 100000 in
theorem fix_Mul.calls (k : Nat) (a0 : Int) (a1 : Int) (a2 : Int) (r : Int) (w : World) (h : fix_Mul.f k a0 a1 a2 = some r) :
  Calls Try.prog 27 #[.int .i64 a0,.int .i64 a1,.int .i64 a2] w fun e w' => e = .returned (.int .i64 r) ∧ Drawn0 w w':=by
 have H : ((fix_factor.f k a0).bind fun t102 => ((fix_factor.f k a1).bind fun t103 => (if a2 = 0 then (some (wrap64 (t102 * t103))) else (if a2 < 0 then (some 0) else (if a2 > 62 then (some 0) else (if 0 ≤ (wrap64 (a2 - 1)) then (if 0 ≤ a2 then (some (shr .i64 (wrap64 ((wrap64 (t102 * t103)) + (shl .i64 1 (wrap64 (a2 - 1))))) a2)) else (none)) else (none))))))) = some r:=h
 clear h
 replace H:=Option.bind_eq_some_iff.mp H
 obtain ⟨t102,A40,H⟩:=H
 (try dsimp only at H)
 have A4:=ak_ A40
 clear A40
 replace H:=Option.bind_eq_some_iff.mp H
 obtain ⟨t103,A50,H⟩:=H
 (try dsimp only at H)
 have A5:=ak_ A50
 clear A50
 by_cases c6 : a2 = 0
 ·rw [if_pos c6] at H
  have c6b0 : (a2 == 0) = true:=beq_iff_eq.mpr c6
  have c6b1 : (a2 != 0) = false:=bne_eq_false_iff_eq.mpr c6
  clear c6
  obtain rfl:=Option.some.inj H
  go_enter Try.func27,Try.ntmps27
  go_wp2_with (first|((with_reducible refine gate_callee (f:=40) rfl ?_);refine goesL_ (some 9) rfl rfl Try.func40 (by kernel_rfl) rfl #[.int .i64 a0] rfl (by (try simp only [List.map_toArray,List.map_cons,List.map_nil]);first|done|rfl|(simp only [List.length_drop,List.length_take];rfl)) ?_;(with_reducible refine (fix_factor.calls k a0 t102 _ A4.out).mono ?_);rintro e w' ⟨rfl,⟨nd,rfl⟩⟩;refine ⟨_,rfl,?_⟩)|((with_reducible refine gate_callee (f:=40) rfl ?_);refine goesL_ (some 11) rfl rfl Try.func40 (by kernel_rfl) rfl #[.int .i64 a1] rfl (by (try simp only [List.map_toArray,List.map_cons,List.map_nil]);first|done|rfl|(simp only [List.length_drop,List.length_take];rfl)) ?_;(with_reducible refine (fix_factor.calls k a1 t103 _ A5.out).mono ?_);rintro e w' ⟨rfl,⟨nd,rfl⟩⟩;refine ⟨_,rfl,?_⟩))
  go_ret
  exact ⟨by first|rfl|(simp;done)|(simp [*];done),by repeat (first|exact Drawn0.refl _|apply Drawn0.step)⟩
 ·rw [if_neg c6] at H
  have c6b0 : (a2 == 0) = false:=beq_eq_false_iff_ne.mpr c6
  have c6b1 : (a2 != 0) = true:=bne_iff_ne.mpr c6
  by_cases c7 : a2 < 0
  ·rw [if_pos c7] at H
   have c7b0:=decide_eq_true c7
   clear c7
   obtain rfl:=Option.some.inj H
   go_enter Try.func27,Try.ntmps27
   go_wp2_with (first|((with_reducible refine gate_callee (f:=40) rfl ?_);refine goesL_ (some 9) rfl rfl Try.func40 (by kernel_rfl) rfl #[.int .i64 a0] rfl (by (try simp only [List.map_toArray,List.map_cons,List.map_nil]);first|done|rfl|(simp only [List.length_drop,List.length_take];rfl)) ?_;(with_reducible refine (fix_factor.calls k a0 t102 _ A4.out).mono ?_);rintro e w' ⟨rfl,⟨nd,rfl⟩⟩;refine ⟨_,rfl,?_⟩)|((with_reducible refine gate_callee (f:=40) rfl ?_);refine goesL_ (some 11) rfl rfl Try.func40 (by kernel_rfl) rfl #[.int .i64 a1] rfl (by (try simp only [List.map_toArray,List.map_cons,List.map_nil]);first|done|rfl|(simp only [List.length_drop,List.length_take];rfl)) ?_;(with_reducible refine (fix_factor.calls k a1 t103 _ A5.out).mono ?_);rintro e w' ⟨rfl,⟨nd,rfl⟩⟩;refine ⟨_,rfl,?_⟩))
   go_ret
   exact ⟨by first|rfl|(simp;done)|(simp [*];done),by repeat (first|exact Drawn0.refl _|apply Drawn0.step)⟩
  ·rw [if_neg c7] at H
   have c7b0:=decide_eq_false c7
   clear c7
   by_cases c8 : a2 > 62
   ·rw [if_pos c8] at H
    have c8b0 : decide (62 < a2) = true:=decide_eq_true c8
    clear c8
    obtain rfl:=Option.some.inj H
    go_enter Try.func27,Try.ntmps27
    go_wp2_with (first|((with_reducible refine gate_callee (f:=40) rfl ?_);refine goesL_ (some 9) rfl rfl Try.func40 (by kernel_rfl) rfl #[.int .i64 a0] rfl (by (try simp only [List.map_toArray,List.map_cons,List.map_nil]);first|done|rfl|(simp only [List.length_drop,List.length_take];rfl)) ?_;(with_reducible refine (fix_factor.calls k a0 t102 _ A4.out).mono ?_);rintro e w' ⟨rfl,⟨nd,rfl⟩⟩;refine ⟨_,rfl,?_⟩)|((with_reducible refine gate_callee (f:=40) rfl ?_);refine goesL_ (some 11) rfl rfl Try.func40 (by kernel_rfl) rfl #[.int .i64 a1] rfl (by (try simp only [List.map_toArray,List.map_cons,List.map_nil]);first|done|rfl|(simp only [List.length_drop,List.length_take];rfl)) ?_;(with_reducible refine (fix_factor.calls k a1 t103 _ A5.out).mono ?_);rintro e w' ⟨rfl,⟨nd,rfl⟩⟩;refine ⟨_,rfl,?_⟩))
    go_ret
    exact ⟨by first|rfl|(simp;done)|(simp [*];done),by repeat (first|exact Drawn0.refl _|apply Drawn0.step)⟩
   ·rw [if_neg c8] at H
    have c8b0 : decide (62 < a2) = false:=decide_eq_false c8
    clear c8
    obtain ⟨ji9,hji9⟩ : ∃ j_ : Int,(wrap64 (a2 - 1)) = j_:=⟨_,rfl⟩
    replace H : (if 0 ≤ (ji9) then (if 0 ≤ a2 then (some (shr .i64 (wrap64 ((wrap64 (t102 * t103)) + (shl .i64 1 (ji9)))) a2)) else (none)) else (none)) = some r:=by first|(rw [hji9] at H;exact H)|(simp only [hji9] at H ⊢;exact H)
    (try rw [hji9] at A4)
    (try rw [hji9] at A5)
    have hji9w : (IntKind.i64.wrap (a2 - 1)) = ji9:=(i64_w _).trans hji9
    by_cases c10 : 0 ≤ (ji9)
    ·rw [if_pos c10] at H
     have c10b0:=eq_true c10
     have c10b1 : decide (0 ≤ (ji9)) = true:=decide_eq_true c10
     clear c10
     obtain ⟨ji11,hji11⟩ : ∃ j_ : Int,(shl .i64 1 (ji9)) = j_:=⟨_,rfl⟩
     replace H : (if 0 ≤ a2 then (some (shr .i64 (wrap64 ((wrap64 (t102 * t103)) + (ji11))) a2)) else (none)) = some r:=by first|(rw [hji11] at H;exact H)|(simp only [hji11] at H ⊢;exact H)
     (try rw [hji11] at A4)
     (try rw [hji11] at A5)
     have hji11_ : (IntKind.i64.wrap (1 * 2 ^ min (ji9).toNat 64)) = ji11:=hji11
     have hji11z : (ji9) ≤ 64 → (IntKind.i64.wrap (1 * 2 ^ (ji9).toNat)) = ji11:=shl_small hji11
     have hji11u : (IntKind.i64.wrap (2 ^ min (ji9).toNat 64)) = ji11:=by have h_:=hji11_;rw [Int.one_mul] at h_;exact h_
     have hji11v : (ji9) ≤ 64 → (IntKind.i64.wrap (2 ^ (ji9).toNat)) = ji11:=fun hle_ => by have h_:=hji11z hle_;rw [Int.one_mul] at h_;exact h_
     have hji11y : (wrap64 (1 * 2 ^ min (ji9).toNat 64)) = ji11:=(i64_w _).symm.trans hji11_
     have hji11x : (ji9) ≤ 64 → (wrap64 (1 * 2 ^ (ji9).toNat)) = ji11:=fun h_ => (i64_w _).symm.trans (hji11z h_)
     by_cases c12 : 0 ≤ a2
     ·rw [if_pos c12] at H
      have c12b0:=eq_true c12
      have c12b1 : decide (0 ≤ a2) = true:=decide_eq_true c12
      clear c12
      obtain ⟨ji13,hji13⟩ : ∃ j_ : Int,(shr .i64 (wrap64 ((wrap64 (t102 * t103)) + (ji11))) a2) = j_:=⟨_,rfl⟩
      replace H : (some ji13) = some r:=by first|(rw [hji13] at H;exact H)|(simp only [hji13] at H ⊢;exact H)
      (try rw [hji13] at A4)
      (try rw [hji13] at A5)
      have hji13_ : ((wrap64 ((wrap64 (t102 * t103)) + (ji11))) / 2 ^ min a2.toNat 64) = ji13:=hji13
      have hji13z : a2 ≤ 64 → ((wrap64 ((wrap64 (t102 * t103)) + (ji11))) / 2 ^ a2.toNat) = ji13:=shr_small hji13
      obtain rfl:=Option.some.inj H
      go_enter Try.func27,Try.ntmps27
      go_wp2_with (first|((with_reducible refine gate_callee (f:=40) rfl ?_);refine goesL_ (some 9) rfl rfl Try.func40 (by kernel_rfl) rfl #[.int .i64 a0] rfl (by (try simp only [List.map_toArray,List.map_cons,List.map_nil]);first|done|rfl|(simp only [List.length_drop,List.length_take];rfl)) ?_;(with_reducible refine (fix_factor.calls k a0 t102 _ A4.out).mono ?_);rintro e w' ⟨rfl,⟨nd,rfl⟩⟩;refine ⟨_,rfl,?_⟩)|((with_reducible refine gate_callee (f:=40) rfl ?_);refine goesL_ (some 11) rfl rfl Try.func40 (by kernel_rfl) rfl #[.int .i64 a1] rfl (by (try simp only [List.map_toArray,List.map_cons,List.map_nil]);first|done|rfl|(simp only [List.length_drop,List.length_take];rfl)) ?_;(with_reducible refine (fix_factor.calls k a1 t103 _ A5.out).mono ?_);rintro e w' ⟨rfl,⟨nd,rfl⟩⟩;refine ⟨_,rfl,?_⟩))
      go_ret
      exact ⟨by first|rfl|(simp;done)|(simp only [← hji9,← hji11,← hji13] <;> (first|rfl|simp))|(simp [*];done),by repeat (first|exact Drawn0.refl _|apply Drawn0.step)⟩
     ·rw [if_neg c12] at H
      exact absurd H (by simp)
    ·rw [if_neg c10] at H
     exact absurd H (by simp)

end Go.Proofs.Ytlmacbiahofmcaa.P
