/- The machine side of the laws of one chapter, without conditions: each call of a Go function comes to what the Lean function of its name answers. Written for this claim by a program of the prover. -/
import Derived.Test.YtlhdoopmlpnhlaaPx0
import Derived.Test.YtlhdoopmlpnhlaaPx1
import Derived.Test.YtlhdoopmlpnhlaaPx2
import Derived.Test.YtlhdoopmlpnhlaaPx4
import Derived.Test.YtlhdoopmlpnhlaaPx5
import Derived.Test.YtlhdoopmlpnhlaaPx7
import Derived.Test.YtlhdoopmlpnhlaaPx8
import Derived.Test.YtlhdoopmlpnhlaaPx9
import Derived.Test.YtlhdoopmlpnhlaaPx10
import Derived.Test.YtlhdoopmlpnhlaaPx11
import Derived.Test.YtlhdoopmlpnhlaaPx13
namespace Go.Proofs.Ytlhdoopmlpnhlaa.P
open Go.RowKit Go.Proofs.YtlhdoopmlpnhlaaW.PrintWords Go.Proofs.YtlhdoopmlpnhlaaW.PrintLast Go.Proofs.YtlhdoopmlpnhlaaW.PrintMore
attribute [local go_sem] max2_int min2_int max_two min_two max_three min_three max_four min_four   -- for this text's walks alone
set_option linter.unusedVariables false
set_option linter.unusedSimpArgs false

/-! ### madrigallaw1_FixKnown: function 3 -/
def madrigallaw1_FixKnown.f (k : Nat)  : Option (Bool) := (madrigallaw1_awake.f k).bind fun t156 => (if t156 = true then ((fix_Cos.f k 16384).bind fun t157 => (if t157 = 0 then ((fix_Mul.f k 5 5 63).bind fun t158 => (if t158 = 0 then ((fix_Div.f k 5 0 0).bind fun t159 => (if t159 = 0 then ((fix_Log2.f k 0).bind fun t160 => (if t160 = 0 then ((fix_Sqrt.f k (-1)).bind fun t161 => (if t161 = 0 then ((fix_Len.f k (-1)).bind fun t162 => (if t162 = 0 then ((fix_Sum.f k ([] : List Int)).bind fun t163 => (if t163 = 0 then ((fix_Exp2.f k (-5)).bind fun t164 => (if t164 = 1 then ((fix_Clamp.f k 5 3 1).bind fun t165 => (some (t165 == 3))) else (none))) else (none))) else (none))) else (none))) else (none))) else (none))) else (none))) else (none))) else (none))
theorem madrigallaw1_FixKnown.mono : ∀ k, LeO (madrigallaw1_FixKnown.f k ) (madrigallaw1_FixKnown.f (k + 1) ) := by
  intro  k
  unfold madrigallaw1_FixKnown.f
  repeat' first
      | (with_reducible exact fix_Clamp.mono _ _ _ _)
      | (with_reducible exact fix_Cos.mono _ _)
      | (with_reducible exact fix_Div.mono _ _ _ _)
      | (with_reducible exact fix_Exp2.mono _ _)
      | (with_reducible exact fix_Len.mono _ _)
      | (with_reducible exact fix_Log2.mono _ _)
      | (with_reducible exact fix_Mul.mono _ _ _ _)
      | (with_reducible exact fix_Sqrt.mono _ _)
      | (with_reducible exact fix_Sum.mono _ _)
      | (with_reducible exact madrigallaw1_awake.mono _)
      | (with_reducible exact LeO.refl _)
      | (with_reducible exact LeO.none _)
      | (with_reducible refine LeO.ite ?_ ?_)
      | (with_reducible refine LeO.bind ?_ (fun _ => ?_))
      | exact fix_Clamp.mono _ _ _ _
      | exact fix_Cos.mono _ _
      | exact fix_Div.mono _ _ _ _
      | exact fix_Exp2.mono _ _
      | exact fix_Len.mono _ _
      | exact fix_Log2.mono _ _
      | exact fix_Mul.mono _ _ _ _
      | exact fix_Sqrt.mono _ _
      | exact fix_Sum.mono _ _
      | exact madrigallaw1_awake.mono _
      | exact LeO.none _
      | refine LeO.ite ?_ ?_
      | refine LeO.bind ?_ (fun _ => ?_)
set_option maxHeartbeats 8000000 in
set_option maxRecDepth 100000 in
theorem madrigallaw1_FixKnown.calls (k : Nat)  (r : Bool) (w : World) (h : madrigallaw1_FixKnown.f k  = some r) :
    Calls Try.prog 3 #[] w fun e w' => e = .returned (.bool r) ∧ Below w.heap.size w w' := by
  have HB := Aside0.mk (Below.refl w.heap.size w)
  have H : ((madrigallaw1_awake.f k).bind fun t156 => (if t156 = true then ((fix_Cos.f k 16384).bind fun t157 => (if t157 = 0 then ((fix_Mul.f k 5 5 63).bind fun t158 => (if t158 = 0 then ((fix_Div.f k 5 0 0).bind fun t159 => (if t159 = 0 then ((fix_Log2.f k 0).bind fun t160 => (if t160 = 0 then ((fix_Sqrt.f k (-1)).bind fun t161 => (if t161 = 0 then ((fix_Len.f k (-1)).bind fun t162 => (if t162 = 0 then ((fix_Sum.f k ([] : List Int)).bind fun t163 => (if t163 = 0 then ((fix_Exp2.f k (-5)).bind fun t164 => (if t164 = 1 then ((fix_Clamp.f k 5 3 1).bind fun t165 => (some (t165 == 3))) else (none))) else (none))) else (none))) else (none))) else (none))) else (none))) else (none))) else (none))) else (none))) = some r := h
  clear h
  replace H := Option.bind_eq_some_iff.mp H
  obtain ⟨t156, A10, H⟩ := H
  replace H : (if t156 = true then ((fix_Cos.f k 16384).bind fun t157 => (if t157 = 0 then ((fix_Mul.f k 5 5 63).bind fun t158 => (if t158 = 0 then ((fix_Div.f k 5 0 0).bind fun t159 => (if t159 = 0 then ((fix_Log2.f k 0).bind fun t160 => (if t160 = 0 then ((fix_Sqrt.f k (-1)).bind fun t161 => (if t161 = 0 then ((fix_Len.f k (-1)).bind fun t162 => (if t162 = 0 then ((fix_Sum.f k ([] : List Int)).bind fun t163 => (if t163 = 0 then ((fix_Exp2.f k (-5)).bind fun t164 => (if t164 = 1 then ((fix_Clamp.f k 5 3 1).bind fun t165 => (some (t165 == 3))) else (none))) else (none))) else (none))) else (none))) else (none))) else (none))) else (none))) else (none))) else (none)) = some r := H
  have A1 := Aside0.mk A10
  clear A10
  by_cases c2 : t156 = true
  · subst c2
    have H1 : ((fix_Cos.f k 16384).bind fun t157 => (if t157 = 0 then ((fix_Mul.f k 5 5 63).bind fun t158 => (if t158 = 0 then ((fix_Div.f k 5 0 0).bind fun t159 => (if t159 = 0 then ((fix_Log2.f k 0).bind fun t160 => (if t160 = 0 then ((fix_Sqrt.f k (-1)).bind fun t161 => (if t161 = 0 then ((fix_Len.f k (-1)).bind fun t162 => (if t162 = 0 then ((fix_Sum.f k ([] : List Int)).bind fun t163 => (if t163 = 0 then ((fix_Exp2.f k (-5)).bind fun t164 => (if t164 = 1 then ((fix_Clamp.f k 5 3 1).bind fun t165 => (some (t165 == 3))) else (none))) else (none))) else (none))) else (none))) else (none))) else (none))) else (none))) else (none))) = some r := by rw [if_pos rfl] at H; exact H
    clear H
    have H := H1
    clear H1
    replace H := Option.bind_eq_some_iff.mp H
    obtain ⟨t157, A30, H⟩ := H
    replace H : (if t157 = 0 then ((fix_Mul.f k 5 5 63).bind fun t158 => (if t158 = 0 then ((fix_Div.f k 5 0 0).bind fun t159 => (if t159 = 0 then ((fix_Log2.f k 0).bind fun t160 => (if t160 = 0 then ((fix_Sqrt.f k (-1)).bind fun t161 => (if t161 = 0 then ((fix_Len.f k (-1)).bind fun t162 => (if t162 = 0 then ((fix_Sum.f k ([] : List Int)).bind fun t163 => (if t163 = 0 then ((fix_Exp2.f k (-5)).bind fun t164 => (if t164 = 1 then ((fix_Clamp.f k 5 3 1).bind fun t165 => (some (t165 == 3))) else (none))) else (none))) else (none))) else (none))) else (none))) else (none))) else (none))) else (none)) = some r := H
    have A3 := Aside0.mk A30
    clear A30
    by_cases c4 : t157 = 0
    · rw [if_pos c4] at H
      have c4b0 : (t157 == 0) = true := beq_iff_eq.mpr c4
      have c4b1 : (t157 != 0) = false := bne_eq_false_iff_eq.mpr c4
      clear c4
      replace H := Option.bind_eq_some_iff.mp H
      obtain ⟨t158, A50, H⟩ := H
      replace H : (if t158 = 0 then ((fix_Div.f k 5 0 0).bind fun t159 => (if t159 = 0 then ((fix_Log2.f k 0).bind fun t160 => (if t160 = 0 then ((fix_Sqrt.f k (-1)).bind fun t161 => (if t161 = 0 then ((fix_Len.f k (-1)).bind fun t162 => (if t162 = 0 then ((fix_Sum.f k ([] : List Int)).bind fun t163 => (if t163 = 0 then ((fix_Exp2.f k (-5)).bind fun t164 => (if t164 = 1 then ((fix_Clamp.f k 5 3 1).bind fun t165 => (some (t165 == 3))) else (none))) else (none))) else (none))) else (none))) else (none))) else (none))) else (none)) = some r := H
      have A5 := Aside0.mk A50
      clear A50
      by_cases c6 : t158 = 0
      · rw [if_pos c6] at H
        have c6b0 : (t158 == 0) = true := beq_iff_eq.mpr c6
        have c6b1 : (t158 != 0) = false := bne_eq_false_iff_eq.mpr c6
        clear c6
        replace H := Option.bind_eq_some_iff.mp H
        obtain ⟨t159, A70, H⟩ := H
        replace H : (if t159 = 0 then ((fix_Log2.f k 0).bind fun t160 => (if t160 = 0 then ((fix_Sqrt.f k (-1)).bind fun t161 => (if t161 = 0 then ((fix_Len.f k (-1)).bind fun t162 => (if t162 = 0 then ((fix_Sum.f k ([] : List Int)).bind fun t163 => (if t163 = 0 then ((fix_Exp2.f k (-5)).bind fun t164 => (if t164 = 1 then ((fix_Clamp.f k 5 3 1).bind fun t165 => (some (t165 == 3))) else (none))) else (none))) else (none))) else (none))) else (none))) else (none)) = some r := H
        have A7 := Aside0.mk A70
        clear A70
        by_cases c8 : t159 = 0
        · rw [if_pos c8] at H
          have c8b0 : (t159 == 0) = true := beq_iff_eq.mpr c8
          have c8b1 : (t159 != 0) = false := bne_eq_false_iff_eq.mpr c8
          clear c8
          replace H := Option.bind_eq_some_iff.mp H
          obtain ⟨t160, A90, H⟩ := H
          replace H : (if t160 = 0 then ((fix_Sqrt.f k (-1)).bind fun t161 => (if t161 = 0 then ((fix_Len.f k (-1)).bind fun t162 => (if t162 = 0 then ((fix_Sum.f k ([] : List Int)).bind fun t163 => (if t163 = 0 then ((fix_Exp2.f k (-5)).bind fun t164 => (if t164 = 1 then ((fix_Clamp.f k 5 3 1).bind fun t165 => (some (t165 == 3))) else (none))) else (none))) else (none))) else (none))) else (none)) = some r := H
          have A9 := Aside0.mk A90
          clear A90
          by_cases c10 : t160 = 0
          · rw [if_pos c10] at H
            have c10b0 : (t160 == 0) = true := beq_iff_eq.mpr c10
            have c10b1 : (t160 != 0) = false := bne_eq_false_iff_eq.mpr c10
            clear c10
            replace H := Option.bind_eq_some_iff.mp H
            obtain ⟨t161, A110, H⟩ := H
            replace H : (if t161 = 0 then ((fix_Len.f k (-1)).bind fun t162 => (if t162 = 0 then ((fix_Sum.f k ([] : List Int)).bind fun t163 => (if t163 = 0 then ((fix_Exp2.f k (-5)).bind fun t164 => (if t164 = 1 then ((fix_Clamp.f k 5 3 1).bind fun t165 => (some (t165 == 3))) else (none))) else (none))) else (none))) else (none)) = some r := H
            have A11 := Aside0.mk A110
            clear A110
            by_cases c12 : t161 = 0
            · rw [if_pos c12] at H
              have c12b0 : (t161 == 0) = true := beq_iff_eq.mpr c12
              have c12b1 : (t161 != 0) = false := bne_eq_false_iff_eq.mpr c12
              clear c12
              replace H := Option.bind_eq_some_iff.mp H
              obtain ⟨t162, A130, H⟩ := H
              replace H : (if t162 = 0 then ((fix_Sum.f k ([] : List Int)).bind fun t163 => (if t163 = 0 then ((fix_Exp2.f k (-5)).bind fun t164 => (if t164 = 1 then ((fix_Clamp.f k 5 3 1).bind fun t165 => (some (t165 == 3))) else (none))) else (none))) else (none)) = some r := H
              have A13 := Aside0.mk A130
              clear A130
              by_cases c14 : t162 = 0
              · rw [if_pos c14] at H
                have c14b0 : (t162 == 0) = true := beq_iff_eq.mpr c14
                have c14b1 : (t162 != 0) = false := bne_eq_false_iff_eq.mpr c14
                clear c14
                replace H := Option.bind_eq_some_iff.mp H
                obtain ⟨t163, A150, H⟩ := H
                replace H : (if t163 = 0 then ((fix_Exp2.f k (-5)).bind fun t164 => (if t164 = 1 then ((fix_Clamp.f k 5 3 1).bind fun t165 => (some (t165 == 3))) else (none))) else (none)) = some r := H
                have A15 := Aside0.mk A150
                clear A150
                by_cases c16 : t163 = 0
                · rw [if_pos c16] at H
                  have c16b0 : (t163 == 0) = true := beq_iff_eq.mpr c16
                  have c16b1 : (t163 != 0) = false := bne_eq_false_iff_eq.mpr c16
                  clear c16
                  replace H := Option.bind_eq_some_iff.mp H
                  obtain ⟨t164, A170, H⟩ := H
                  replace H : (if t164 = 1 then ((fix_Clamp.f k 5 3 1).bind fun t165 => (some (t165 == 3))) else (none)) = some r := H
                  have A17 := Aside0.mk A170
                  clear A170
                  by_cases c18 : t164 = 1
                  · rw [if_pos c18] at H
                    have c18b0 : (t164 == 1) = true := beq_iff_eq.mpr c18
                    have c18b1 : (t164 != 1) = false := bne_eq_false_iff_eq.mpr c18
                    clear c18
                    replace H := Option.bind_eq_some_iff.mp H
                    obtain ⟨t165, A190, H⟩ := H
                    replace H : (some (t165 == 3)) = some r := H
                    have A19 := Aside0.mk A190
                    clear A190
                    obtain rfl := Option.some.inj H
                    go_enter Try.func3, Try.ntmps3
                    go_wp2_with (first | ((with_reducible refine gate_callee (f := 11) rfl ?_); refine goesL_ (some 1) rfl rfl Try.func11 (by kernel_rfl) rfl #[] rfl (by (try simp only [List.map_toArray, List.map_cons, List.map_nil]); first | done | rfl | (simp only [List.length_drop, List.length_take]; rfl)) ?_; (with_reducible refine (madrigallaw1_awake.calls k  true _ A1.out).mono ?_); rintro e w20 ⟨rfl, hb⟩; refine ⟨_, rfl, ?_⟩; have n0_ := Aside0.mk (below_step (by repeat (first | (with_reducible first | exact HB.out | apply below_alloc | apply pw_below_drewN | apply below_drew1) | exact HB.out)) hb); clear HB; have HB := n0_; clear n0_; (try clear hb); (try clear hb2); (try clear hk); (try clear hi); (try clear hge)) | ((with_reducible refine gate_callee (f := 12) rfl ?_); refine goesL_ (some 3) rfl rfl Try.func12 (by kernel_rfl) rfl #[.int .i64 16384] rfl (by (try simp only [List.map_toArray, List.map_cons, List.map_nil]); first | done | rfl | (simp only [List.length_drop, List.length_take]; rfl)) ?_; (with_reducible refine (fix_Cos.calls k 16384 t157 _ A3.out).mono ?_); rintro e w21 ⟨rfl, hb⟩; refine ⟨_, rfl, ?_⟩; have n0_ := Aside0.mk (below_step (by repeat (first | (with_reducible first | exact HB.out | apply below_alloc | apply pw_below_drewN | apply below_drew1) | exact HB.out)) hb); clear HB; have HB := n0_; clear n0_; (try clear hb); (try clear hb2); (try clear hk); (try clear hi); (try clear hge)) | (go_at_call 13; (with_reducible refine (fix_Mul.calls k 5 5 63 t158 _ A5.out).mono ?_); rintro e w' ⟨rfl, ⟨nd, rfl⟩⟩) | (go_at_call 14; (with_reducible refine (fix_Div.calls k 5 0 0 t159 _ A7.out).mono ?_); rintro e w' ⟨rfl, ⟨nd, rfl⟩⟩) | (go_at_call 15; (with_reducible refine (fix_Log2.calls k 0 t160 _ A9.out).mono ?_); rintro e w' ⟨rfl, ⟨nd, rfl⟩⟩) | (go_at_call 16; (with_reducible refine (fix_Sqrt.calls k (-1) t161 _ A11.out).mono ?_); rintro e w' ⟨rfl, ⟨nd, rfl⟩⟩) | (go_at_call 17; (with_reducible refine (fix_Len.calls k (-1) t162 _ A13.out).mono ?_); rintro e w' ⟨rfl, ⟨nd, rfl⟩⟩) | (go_at_call 18; (refine calls_of_args (args' := #[.slice none ([] : List Int).length 0]) (by rfl) ?_); (with_reducible refine (fix_Sum.calls k none 0 ([] : List Int) t163 _ ?side1 ?side2 A15.out).mono ?_); (case side1 => exact Kd.C_nil _ _); (case side2 => exact Nat.le_refl _); rintro e w' ⟨rfl, ⟨nd, rfl⟩⟩) | (go_at_call 19; (with_reducible refine (fix_Exp2.calls k (-5) t164 _ A17.out).mono ?_); rintro e w' ⟨rfl, ⟨nd, rfl⟩⟩) | (go_at_call 20; (with_reducible refine (fix_Clamp.calls k 5 3 1 t165 _ A19.out).mono ?_); rintro e w' ⟨rfl, ⟨nd, rfl⟩⟩))
                    go_ret
                    exact ⟨by first | rfl | (simp [errW_none, errW_some] <;> rfl) | (simp [*, errW_none, errW_some] <;> rfl), by repeat (first | (with_reducible first | exact HB.out | apply below_alloc | apply pw_below_drewN | apply below_drew1) | exact HB.out)⟩
                  · rw [if_neg c18] at H
                    exact absurd H (by simp)
                · rw [if_neg c16] at H
                  exact absurd H (by simp)
              · rw [if_neg c14] at H
                exact absurd H (by simp)
            · rw [if_neg c12] at H
              exact absurd H (by simp)
          · rw [if_neg c10] at H
            exact absurd H (by simp)
        · rw [if_neg c8] at H
          exact absurd H (by simp)
      · rw [if_neg c6] at H
        exact absurd H (by simp)
    · rw [if_neg c4] at H
      exact absurd H (by simp)
  · replace c2 := Bool.eq_false_iff.mpr c2
    subst c2
    have H1 : (none) = some r := by rw [if_neg (show ¬ (false = true) by decide)] at H; exact H
    clear H
    have H := H1
    clear H1
    exact absurd H (by simp)

/-- THE ONE PURE STATEMENT of madrigallaw1_FixKnown. -/
def madrigallaw1_FixKnown.Pure : Prop := ∃ k, madrigallaw1_FixKnown.f k  = some true
theorem madrigallaw1_FixKnown.walk (P : madrigallaw1_FixKnown.Pure)  (w : World)  :
    Calls Try.prog 3 #[] w fun e w' => e = .returned (.bool true) ∧ Below w.heap.size w w' := by
  obtain ⟨k, h⟩ := P  
  refine (madrigallaw1_FixKnown.calls k  true w h).mono ?_
  rintro e w' ⟨rfl, hd⟩
  exact ⟨rfl, hd⟩

end Go.Proofs.Ytlhdoopmlpnhlaa.P
