/- The machine side of the laws of one chapter, without conditions: each call of a Go function comes to what the Lean function of its name answers. Written for this claim by a program of the prover. -/
import Derived.Test.YtlhdoopmlpnhlaaPx0
import Derived.Test.YtlhdoopmlpnhlaaPx1
import Derived.Test.YtlhdoopmlpnhlaaPx2
import Derived.Test.YtlhdoopmlpnhlaaPx4
import Derived.Test.YtlhdoopmlpnhlaaPx5
import Derived.Test.YtlhdoopmlpnhlaaPx7
import Derived.Test.YtlhdoopmlpnhlaaPx8
import Derived.Test.YtlhdoopmlpnhlaaPx9
import Derived.Test.YtlhdoopmlpnhlaaPx10
import Derived.Test.YtlhdoopmlpnhlaaPx11
import Derived.Test.YtlhdoopmlpnhlaaPx12
namespace Go.Proofs.Ytlhdoopmlpnhlaa.P
open Go.RowKit Go.Proofs.YtlhdoopmlpnhlaaW.PrintWords Go.Proofs.YtlhdoopmlpnhlaaW.PrintLast Go.Proofs.YtlhdoopmlpnhlaaW.PrintMore
attribute [local go_sem] max2_int min2_int max_two min_two max_three min_three max_four min_four   -- for this text's walks alone
set_option linter.unusedVariables false
set_option linter.unusedSimpArgs false

/-! ### madrigallaw1_awake: function 11 -/
def madrigallaw1_awake.f (k : Nat)  : Option (Bool) := (fix_Mul.f k 3 1 1).bind fun t138 => (if t138 = 2 then ((fix_Mul.f k (-3) 1 1).bind fun t139 => (if t139 = (-1) then ((fix_Div.f k 7 2 0).bind fun t140 => (if t140 = 3 then ((fix_Div.f k (-7) 2 0).bind fun t141 => (if t141 = (-4) then ((fix_Log2.f k 256).bind fun t142 => (if t142 = 2048 then ((fix_Log2.f k 3).bind fun t143 => (if t143 = 405 then ((fix_Exp2.f k 256).bind fun t144 => (if t144 = 2 then ((fix_Exp2.f k 2048).bind fun t145 => (if t145 = 256 then ((fix_Sqrt.f k 8).bind fun t146 => (if t146 = 2 then ((fix_Cos.f k 0).bind fun t147 => (if t147 = 32768 then ((fix_Sin.f k 16384).bind fun t148 => (if t148 = 32768 then ((fix_Sum.f k (([1, 2, 3] : List Int))).bind fun t152 => (if t152 = 6 then ((fix_Len.f k 5).bind fun t153 => (if t153 = 3 then ((fix_Sat16.f k 40000).bind fun t154 => (if t154 = 32767 then ((fix_Clamp.f k 5 1 3).bind fun t155 => (some (t155 == 3))) else (none))) else (none))) else (none))) else (none))) else (none))) else (none))) else (none))) else (none))) else (none))) else (none))) else (none))) else (none))) else (none))) else (none))
theorem madrigallaw1_awake.mono : ∀ k, LeO (madrigallaw1_awake.f k ) (madrigallaw1_awake.f (k + 1) ) := by
  intro  k
  unfold madrigallaw1_awake.f
  repeat' first
      | (with_reducible exact fix_Clamp.mono _ _ _ _)
      | (with_reducible exact fix_Cos.mono _ _)
      | (with_reducible exact fix_Div.mono _ _ _ _)
      | (with_reducible exact fix_Exp2.mono _ _)
      | (with_reducible exact fix_Len.mono _ _)
      | (with_reducible exact fix_Log2.mono _ _)
      | (with_reducible exact fix_Mul.mono _ _ _ _)
      | (with_reducible exact fix_Sat16.mono _ _)
      | (with_reducible exact fix_Sin.mono _ _)
      | (with_reducible exact fix_Sqrt.mono _ _)
      | (with_reducible exact fix_Sum.mono _ _)
      | (with_reducible exact LeO.refl _)
      | (with_reducible exact LeO.none _)
      | (with_reducible refine LeO.ite ?_ ?_)
      | (with_reducible refine LeO.bind ?_ (fun _ => ?_))
      | exact fix_Clamp.mono _ _ _ _
      | exact fix_Cos.mono _ _
      | exact fix_Div.mono _ _ _ _
      | exact fix_Exp2.mono _ _
      | exact fix_Len.mono _ _
      | exact fix_Log2.mono _ _
      | exact fix_Mul.mono _ _ _ _
      | exact fix_Sat16.mono _ _
      | exact fix_Sin.mono _ _
      | exact fix_Sqrt.mono _ _
      | exact fix_Sum.mono _ _
      | exact LeO.none _
      | refine LeO.ite ?_ ?_
      | refine LeO.bind ?_ (fun _ => ?_)
set_option maxHeartbeats 8000000 in
set_option maxRecDepth 100000 in
theorem madrigallaw1_awake.calls (k : Nat)  (r : Bool) (w : World) (h : madrigallaw1_awake.f k  = some r) :
    Calls Try.prog 11 #[] w fun e w' => e = .returned (.bool r) ∧ Below w.heap.size w w' := by
  have HB := Aside0.mk (Below.refl w.heap.size w)
  have H : ((fix_Mul.f k 3 1 1).bind fun t138 => (if t138 = 2 then ((fix_Mul.f k (-3) 1 1).bind fun t139 => (if t139 = (-1) then ((fix_Div.f k 7 2 0).bind fun t140 => (if t140 = 3 then ((fix_Div.f k (-7) 2 0).bind fun t141 => (if t141 = (-4) then ((fix_Log2.f k 256).bind fun t142 => (if t142 = 2048 then ((fix_Log2.f k 3).bind fun t143 => (if t143 = 405 then ((fix_Exp2.f k 256).bind fun t144 => (if t144 = 2 then ((fix_Exp2.f k 2048).bind fun t145 => (if t145 = 256 then ((fix_Sqrt.f k 8).bind fun t146 => (if t146 = 2 then ((fix_Cos.f k 0).bind fun t147 => (if t147 = 32768 then ((fix_Sin.f k 16384).bind fun t148 => (if t148 = 32768 then ((fix_Sum.f k (([1, 2, 3] : List Int))).bind fun t152 => (if t152 = 6 then ((fix_Len.f k 5).bind fun t153 => (if t153 = 3 then ((fix_Sat16.f k 40000).bind fun t154 => (if t154 = 32767 then ((fix_Clamp.f k 5 1 3).bind fun t155 => (some (t155 == 3))) else (none))) else (none))) else (none))) else (none))) else (none))) else (none))) else (none))) else (none))) else (none))) else (none))) else (none))) else (none))) else (none))) else (none))) = some r := h
  clear h
  replace H := Option.bind_eq_some_iff.mp H
  obtain ⟨t138, A10, H⟩ := H
  replace H : (if t138 = 2 then ((fix_Mul.f k (-3) 1 1).bind fun t139 => (if t139 = (-1) then ((fix_Div.f k 7 2 0).bind fun t140 => (if t140 = 3 then ((fix_Div.f k (-7) 2 0).bind fun t141 => (if t141 = (-4) then ((fix_Log2.f k 256).bind fun t142 => (if t142 = 2048 then ((fix_Log2.f k 3).bind fun t143 => (if t143 = 405 then ((fix_Exp2.f k 256).bind fun t144 => (if t144 = 2 then ((fix_Exp2.f k 2048).bind fun t145 => (if t145 = 256 then ((fix_Sqrt.f k 8).bind fun t146 => (if t146 = 2 then ((fix_Cos.f k 0).bind fun t147 => (if t147 = 32768 then ((fix_Sin.f k 16384).bind fun t148 => (if t148 = 32768 then ((fix_Sum.f k (([1, 2, 3] : List Int))).bind fun t152 => (if t152 = 6 then ((fix_Len.f k 5).bind fun t153 => (if t153 = 3 then ((fix_Sat16.f k 40000).bind fun t154 => (if t154 = 32767 then ((fix_Clamp.f k 5 1 3).bind fun t155 => (some (t155 == 3))) else (none))) else (none))) else (none))) else (none))) else (none))) else (none))) else (none))) else (none))) else (none))) else (none))) else (none))) else (none))) else (none))) else (none)) = some r := H
  have A1 := Aside0.mk A10
  clear A10
  by_cases c2 : t138 = 2
  · rw [if_pos c2] at H
    have c2b0 : (t138 == 2) = true := beq_iff_eq.mpr c2
    have c2b1 : (t138 != 2) = false := bne_eq_false_iff_eq.mpr c2
    clear c2
    replace H := Option.bind_eq_some_iff.mp H
    obtain ⟨t139, A30, H⟩ := H
    replace H : (if t139 = (-1) then ((fix_Div.f k 7 2 0).bind fun t140 => (if t140 = 3 then ((fix_Div.f k (-7) 2 0).bind fun t141 => (if t141 = (-4) then ((fix_Log2.f k 256).bind fun t142 => (if t142 = 2048 then ((fix_Log2.f k 3).bind fun t143 => (if t143 = 405 then ((fix_Exp2.f k 256).bind fun t144 => (if t144 = 2 then ((fix_Exp2.f k 2048).bind fun t145 => (if t145 = 256 then ((fix_Sqrt.f k 8).bind fun t146 => (if t146 = 2 then ((fix_Cos.f k 0).bind fun t147 => (if t147 = 32768 then ((fix_Sin.f k 16384).bind fun t148 => (if t148 = 32768 then ((fix_Sum.f k (([1, 2, 3] : List Int))).bind fun t152 => (if t152 = 6 then ((fix_Len.f k 5).bind fun t153 => (if t153 = 3 then ((fix_Sat16.f k 40000).bind fun t154 => (if t154 = 32767 then ((fix_Clamp.f k 5 1 3).bind fun t155 => (some (t155 == 3))) else (none))) else (none))) else (none))) else (none))) else (none))) else (none))) else (none))) else (none))) else (none))) else (none))) else (none))) else (none))) else (none)) = some r := H
    have A3 := Aside0.mk A30
    clear A30
    by_cases c4 : t139 = (-1)
    · rw [if_pos c4] at H
      have c4b0 : (t139 == (-1)) = true := beq_iff_eq.mpr c4
      have c4b1 : (t139 != (-1)) = false := bne_eq_false_iff_eq.mpr c4
      clear c4
      replace H := Option.bind_eq_some_iff.mp H
      obtain ⟨t140, A50, H⟩ := H
      replace H : (if t140 = 3 then ((fix_Div.f k (-7) 2 0).bind fun t141 => (if t141 = (-4) then ((fix_Log2.f k 256).bind fun t142 => (if t142 = 2048 then ((fix_Log2.f k 3).bind fun t143 => (if t143 = 405 then ((fix_Exp2.f k 256).bind fun t144 => (if t144 = 2 then ((fix_Exp2.f k 2048).bind fun t145 => (if t145 = 256 then ((fix_Sqrt.f k 8).bind fun t146 => (if t146 = 2 then ((fix_Cos.f k 0).bind fun t147 => (if t147 = 32768 then ((fix_Sin.f k 16384).bind fun t148 => (if t148 = 32768 then ((fix_Sum.f k (([1, 2, 3] : List Int))).bind fun t152 => (if t152 = 6 then ((fix_Len.f k 5).bind fun t153 => (if t153 = 3 then ((fix_Sat16.f k 40000).bind fun t154 => (if t154 = 32767 then ((fix_Clamp.f k 5 1 3).bind fun t155 => (some (t155 == 3))) else (none))) else (none))) else (none))) else (none))) else (none))) else (none))) else (none))) else (none))) else (none))) else (none))) else (none))) else (none)) = some r := H
      have A5 := Aside0.mk A50
      clear A50
      by_cases c6 : t140 = 3
      · rw [if_pos c6] at H
        have c6b0 : (t140 == 3) = true := beq_iff_eq.mpr c6
        have c6b1 : (t140 != 3) = false := bne_eq_false_iff_eq.mpr c6
        clear c6
        replace H := Option.bind_eq_some_iff.mp H
        obtain ⟨t141, A70, H⟩ := H
        replace H : (if t141 = (-4) then ((fix_Log2.f k 256).bind fun t142 => (if t142 = 2048 then ((fix_Log2.f k 3).bind fun t143 => (if t143 = 405 then ((fix_Exp2.f k 256).bind fun t144 => (if t144 = 2 then ((fix_Exp2.f k 2048).bind fun t145 => (if t145 = 256 then ((fix_Sqrt.f k 8).bind fun t146 => (if t146 = 2 then ((fix_Cos.f k 0).bind fun t147 => (if t147 = 32768 then ((fix_Sin.f k 16384).bind fun t148 => (if t148 = 32768 then ((fix_Sum.f k (([1, 2, 3] : List Int))).bind fun t152 => (if t152 = 6 then ((fix_Len.f k 5).bind fun t153 => (if t153 = 3 then ((fix_Sat16.f k 40000).bind fun t154 => (if t154 = 32767 then ((fix_Clamp.f k 5 1 3).bind fun t155 => (some (t155 == 3))) else (none))) else (none))) else (none))) else (none))) else (none))) else (none))) else (none))) else (none))) else (none))) else (none))) else (none)) = some r := H
        have A7 := Aside0.mk A70
        clear A70
        by_cases c8 : t141 = (-4)
        · rw [if_pos c8] at H
          have c8b0 : (t141 == (-4)) = true := beq_iff_eq.mpr c8
          have c8b1 : (t141 != (-4)) = false := bne_eq_false_iff_eq.mpr c8
          clear c8
          replace H := Option.bind_eq_some_iff.mp H
          obtain ⟨t142, A90, H⟩ := H
          replace H : (if t142 = 2048 then ((fix_Log2.f k 3).bind fun t143 => (if t143 = 405 then ((fix_Exp2.f k 256).bind fun t144 => (if t144 = 2 then ((fix_Exp2.f k 2048).bind fun t145 => (if t145 = 256 then ((fix_Sqrt.f k 8).bind fun t146 => (if t146 = 2 then ((fix_Cos.f k 0).bind fun t147 => (if t147 = 32768 then ((fix_Sin.f k 16384).bind fun t148 => (if t148 = 32768 then ((fix_Sum.f k (([1, 2, 3] : List Int))).bind fun t152 => (if t152 = 6 then ((fix_Len.f k 5).bind fun t153 => (if t153 = 3 then ((fix_Sat16.f k 40000).bind fun t154 => (if t154 = 32767 then ((fix_Clamp.f k 5 1 3).bind fun t155 => (some (t155 == 3))) else (none))) else (none))) else (none))) else (none))) else (none))) else (none))) else (none))) else (none))) else (none))) else (none)) = some r := H
          have A9 := Aside0.mk A90
          clear A90
          by_cases c10 : t142 = 2048
          · rw [if_pos c10] at H
            have c10b0 : (t142 == 2048) = true := beq_iff_eq.mpr c10
            have c10b1 : (t142 != 2048) = false := bne_eq_false_iff_eq.mpr c10
            clear c10
            replace H := Option.bind_eq_some_iff.mp H
            obtain ⟨t143, A110, H⟩ := H
            replace H : (if t143 = 405 then ((fix_Exp2.f k 256).bind fun t144 => (if t144 = 2 then ((fix_Exp2.f k 2048).bind fun t145 => (if t145 = 256 then ((fix_Sqrt.f k 8).bind fun t146 => (if t146 = 2 then ((fix_Cos.f k 0).bind fun t147 => (if t147 = 32768 then ((fix_Sin.f k 16384).bind fun t148 => (if t148 = 32768 then ((fix_Sum.f k (([1, 2, 3] : List Int))).bind fun t152 => (if t152 = 6 then ((fix_Len.f k 5).bind fun t153 => (if t153 = 3 then ((fix_Sat16.f k 40000).bind fun t154 => (if t154 = 32767 then ((fix_Clamp.f k 5 1 3).bind fun t155 => (some (t155 == 3))) else (none))) else (none))) else (none))) else (none))) else (none))) else (none))) else (none))) else (none))) else (none)) = some r := H
            have A11 := Aside0.mk A110
            clear A110
            by_cases c12 : t143 = 405
            · rw [if_pos c12] at H
              have c12b0 : (t143 == 405) = true := beq_iff_eq.mpr c12
              have c12b1 : (t143 != 405) = false := bne_eq_false_iff_eq.mpr c12
              clear c12
              replace H := Option.bind_eq_some_iff.mp H
              obtain ⟨t144, A130, H⟩ := H
              replace H : (if t144 = 2 then ((fix_Exp2.f k 2048).bind fun t145 => (if t145 = 256 then ((fix_Sqrt.f k 8).bind fun t146 => (if t146 = 2 then ((fix_Cos.f k 0).bind fun t147 => (if t147 = 32768 then ((fix_Sin.f k 16384).bind fun t148 => (if t148 = 32768 then ((fix_Sum.f k (([1, 2, 3] : List Int))).bind fun t152 => (if t152 = 6 then ((fix_Len.f k 5).bind fun t153 => (if t153 = 3 then ((fix_Sat16.f k 40000).bind fun t154 => (if t154 = 32767 then ((fix_Clamp.f k 5 1 3).bind fun t155 => (some (t155 == 3))) else (none))) else (none))) else (none))) else (none))) else (none))) else (none))) else (none))) else (none)) = some r := H
              have A13 := Aside0.mk A130
              clear A130
              by_cases c14 : t144 = 2
              · rw [if_pos c14] at H
                have c14b0 : (t144 == 2) = true := beq_iff_eq.mpr c14
                have c14b1 : (t144 != 2) = false := bne_eq_false_iff_eq.mpr c14
                clear c14
                replace H := Option.bind_eq_some_iff.mp H
                obtain ⟨t145, A150, H⟩ := H
                replace H : (if t145 = 256 then ((fix_Sqrt.f k 8).bind fun t146 => (if t146 = 2 then ((fix_Cos.f k 0).bind fun t147 => (if t147 = 32768 then ((fix_Sin.f k 16384).bind fun t148 => (if t148 = 32768 then ((fix_Sum.f k (([1, 2, 3] : List Int))).bind fun t152 => (if t152 = 6 then ((fix_Len.f k 5).bind fun t153 => (if t153 = 3 then ((fix_Sat16.f k 40000).bind fun t154 => (if t154 = 32767 then ((fix_Clamp.f k 5 1 3).bind fun t155 => (some (t155 == 3))) else (none))) else (none))) else (none))) else (none))) else (none))) else (none))) else (none)) = some r := H
                have A15 := Aside0.mk A150
                clear A150
                by_cases c16 : t145 = 256
                · rw [if_pos c16] at H
                  have c16b0 : (t145 == 256) = true := beq_iff_eq.mpr c16
                  have c16b1 : (t145 != 256) = false := bne_eq_false_iff_eq.mpr c16
                  clear c16
                  replace H := Option.bind_eq_some_iff.mp H
                  obtain ⟨t146, A170, H⟩ := H
                  replace H : (if t146 = 2 then ((fix_Cos.f k 0).bind fun t147 => (if t147 = 32768 then ((fix_Sin.f k 16384).bind fun t148 => (if t148 = 32768 then ((fix_Sum.f k (([1, 2, 3] : List Int))).bind fun t152 => (if t152 = 6 then ((fix_Len.f k 5).bind fun t153 => (if t153 = 3 then ((fix_Sat16.f k 40000).bind fun t154 => (if t154 = 32767 then ((fix_Clamp.f k 5 1 3).bind fun t155 => (some (t155 == 3))) else (none))) else (none))) else (none))) else (none))) else (none))) else (none)) = some r := H
                  have A17 := Aside0.mk A170
                  clear A170
                  by_cases c18 : t146 = 2
                  · rw [if_pos c18] at H
                    have c18b0 : (t146 == 2) = true := beq_iff_eq.mpr c18
                    have c18b1 : (t146 != 2) = false := bne_eq_false_iff_eq.mpr c18
                    clear c18
                    replace H := Option.bind_eq_some_iff.mp H
                    obtain ⟨t147, A190, H⟩ := H
                    replace H : (if t147 = 32768 then ((fix_Sin.f k 16384).bind fun t148 => (if t148 = 32768 then ((fix_Sum.f k (([1, 2, 3] : List Int))).bind fun t152 => (if t152 = 6 then ((fix_Len.f k 5).bind fun t153 => (if t153 = 3 then ((fix_Sat16.f k 40000).bind fun t154 => (if t154 = 32767 then ((fix_Clamp.f k 5 1 3).bind fun t155 => (some (t155 == 3))) else (none))) else (none))) else (none))) else (none))) else (none)) = some r := H
                    have A19 := Aside0.mk A190
                    clear A190
                    by_cases c20 : t147 = 32768
                    · rw [if_pos c20] at H
                      have c20b0 : (t147 == 32768) = true := beq_iff_eq.mpr c20
                      have c20b1 : (t147 != 32768) = false := bne_eq_false_iff_eq.mpr c20
                      clear c20
                      replace H := Option.bind_eq_some_iff.mp H
                      obtain ⟨t148, A210, H⟩ := H
                      replace H : (if t148 = 32768 then ((fix_Sum.f k (([1, 2, 3] : List Int))).bind fun t152 => (if t152 = 6 then ((fix_Len.f k 5).bind fun t153 => (if t153 = 3 then ((fix_Sat16.f k 40000).bind fun t154 => (if t154 = 32767 then ((fix_Clamp.f k 5 1 3).bind fun t155 => (some (t155 == 3))) else (none))) else (none))) else (none))) else (none)) = some r := H
                      have A21 := Aside0.mk A210
                      clear A210
                      by_cases c22 : t148 = 32768
                      · rw [if_pos c22] at H
                        have c22b0 : (t148 == 32768) = true := beq_iff_eq.mpr c22
                        have c22b1 : (t148 != 32768) = false := bne_eq_false_iff_eq.mpr c22
                        clear c22
                        obtain ⟨y149, hy149⟩ : ∃ y_ : List Int, y_ = (([1, 2, 3] : List Int)) := ⟨_, rfl⟩
                        replace H : ((fix_Sum.f k y149).bind fun t152 => (if t152 = 6 then ((fix_Len.f k 5).bind fun t153 => (if t153 = 3 then ((fix_Sat16.f k 40000).bind fun t154 => (if t154 = 32767 then ((fix_Clamp.f k 5 1 3).bind fun t155 => (some (t155 == 3))) else (none))) else (none))) else (none))) = some r := by first | (rw [hy149]; with_reducible exact H) | (have H2_ := (Option.bind_some _ _).symm.trans H; rw [hy149]; with_reducible exact H2_) | (have H2_ := (Option.bind_some _ _).symm.trans H; with_reducible exact H2_) | with_reducible exact H | (rw [hy149]; exact H) | exact H
                        have Ny149 := Aside0.mk hy149
                        clear hy149
                        replace H := Option.bind_eq_some_iff.mp H
                        obtain ⟨t152, A230, H⟩ := H
                        replace H : (if t152 = 6 then ((fix_Len.f k 5).bind fun t153 => (if t153 = 3 then ((fix_Sat16.f k 40000).bind fun t154 => (if t154 = 32767 then ((fix_Clamp.f k 5 1 3).bind fun t155 => (some (t155 == 3))) else (none))) else (none))) else (none)) = some r := H
                        have A23 := Aside0.mk A230
                        clear A230
                        by_cases c24 : t152 = 6
                        · rw [if_pos c24] at H
                          have c24b0 : (t152 == 6) = true := beq_iff_eq.mpr c24
                          have c24b1 : (t152 != 6) = false := bne_eq_false_iff_eq.mpr c24
                          clear c24
                          replace H := Option.bind_eq_some_iff.mp H
                          obtain ⟨t153, A250, H⟩ := H
                          replace H : (if t153 = 3 then ((fix_Sat16.f k 40000).bind fun t154 => (if t154 = 32767 then ((fix_Clamp.f k 5 1 3).bind fun t155 => (some (t155 == 3))) else (none))) else (none)) = some r := H
                          have A25 := Aside0.mk A250
                          clear A250
                          by_cases c26 : t153 = 3
                          · rw [if_pos c26] at H
                            have c26b0 : (t153 == 3) = true := beq_iff_eq.mpr c26
                            have c26b1 : (t153 != 3) = false := bne_eq_false_iff_eq.mpr c26
                            clear c26
                            replace H := Option.bind_eq_some_iff.mp H
                            obtain ⟨t154, A270, H⟩ := H
                            replace H : (if t154 = 32767 then ((fix_Clamp.f k 5 1 3).bind fun t155 => (some (t155 == 3))) else (none)) = some r := H
                            have A27 := Aside0.mk A270
                            clear A270
                            by_cases c28 : t154 = 32767
                            · rw [if_pos c28] at H
                              have c28b0 : (t154 == 32767) = true := beq_iff_eq.mpr c28
                              have c28b1 : (t154 != 32767) = false := bne_eq_false_iff_eq.mpr c28
                              clear c28
                              replace H := Option.bind_eq_some_iff.mp H
                              obtain ⟨t155, A290, H⟩ := H
                              replace H : (some (t155 == 3)) = some r := H
                              have A29 := Aside0.mk A290
                              clear A290
                              obtain rfl := Option.some.inj H
                              go_enter Try.func11, Try.ntmps11
                              go_wp2_with (first | ((with_reducible refine gate_callee (f := 13) rfl ?_); refine goesL_ (some 1) rfl rfl Try.func13 (by kernel_rfl) rfl #[.int .i64 3, .int .i64 1, .int .i64 1] rfl (by (try simp only [List.map_toArray, List.map_cons, List.map_nil]); first | done | rfl | (simp only [List.length_drop, List.length_take]; rfl)) ?_; (with_reducible refine (fix_Mul.calls k 3 1 1 t138 _ A1.out).mono ?_); rintro e w' ⟨rfl, ⟨nd, rfl⟩⟩; refine ⟨_, rfl, ?_⟩) | (go_at_call 13; (with_reducible refine (fix_Mul.calls k (-3) 1 1 t139 _ A3.out).mono ?_); rintro e w' ⟨rfl, ⟨nd, rfl⟩⟩) | (go_at_call 14; (with_reducible refine (fix_Div.calls k 7 2 0 t140 _ A5.out).mono ?_); rintro e w' ⟨rfl, ⟨nd, rfl⟩⟩) | (go_at_call 14; (with_reducible refine (fix_Div.calls k (-7) 2 0 t141 _ A7.out).mono ?_); rintro e w' ⟨rfl, ⟨nd, rfl⟩⟩) | (go_at_call 15; (with_reducible refine (fix_Log2.calls k 256 t142 _ A9.out).mono ?_); rintro e w' ⟨rfl, ⟨nd, rfl⟩⟩) | (go_at_call 15; (with_reducible refine (fix_Log2.calls k 3 t143 _ A11.out).mono ?_); rintro e w' ⟨rfl, ⟨nd, rfl⟩⟩) | (go_at_call 19; (with_reducible refine (fix_Exp2.calls k 256 t144 _ A13.out).mono ?_); rintro e w' ⟨rfl, ⟨nd, rfl⟩⟩) | (go_at_call 19; (with_reducible refine (fix_Exp2.calls k 2048 t145 _ A15.out).mono ?_); rintro e w' ⟨rfl, ⟨nd, rfl⟩⟩) | (go_at_call 16; (with_reducible refine (fix_Sqrt.calls k 8 t146 _ A17.out).mono ?_); rintro e w' ⟨rfl, ⟨nd, rfl⟩⟩) | (go_at_call 12; (with_reducible refine (fix_Cos.calls k 0 t147 _ A19.out).mono ?_); rintro e w30 ⟨rfl, hb⟩; have n0_ := Aside0.mk (below_step (by repeat (first | (with_reducible first | exact HB.out | apply below_alloc | apply pw_below_drewN | apply below_drew1) | exact HB.out)) hb); clear HB; have HB := n0_; clear n0_; (try clear hb); (try clear hb2); (try clear hk); (try clear hi); (try clear hge)) | (go_at_call 31; (with_reducible refine (fix_Sin.calls k 16384 t148 _ A21.out).mono ?_); rintro e w31 ⟨rfl, hb⟩; have n0_ := Aside0.mk (below_step (by repeat (first | (with_reducible first | exact HB.out | apply below_alloc | apply pw_below_drewN | apply below_drew1) | exact HB.out)) hb); clear HB; have HB := n0_; clear n0_; (try clear hb); (try clear hb2); (try clear hk); (try clear hi); (try clear hge)) | ((with_reducible refine gate_dst (N := 44) rfl ?_); (try (refine gate_guard (by rfl) ?_; dsimp only)); refine Kd.R_lit (Kd.int .i64) _ 2 ?hg (N := 44) ?hd (xs := ([1, 2, 3] : List Int)) (inner := [.int .i64 1, .int .i64 2, .int .i64 3]) (ok := fun _ => True) (okp := fun _ => True) ?hr ?hp (fun _ hk => hk) trivial (Below.refl _ _) (Nat.le_refl _) (by simp) ?_; (case hd => rfl); (case hg => rfl); (case hr => first | (go_simp; done) | (go_simp; rfl)); (case hp => exact (Reps.one (show Kd.M (Kd.int .i64) _ _ _ 1 [.int .i64 1] from rfl) (Reps.one (show Kd.M (Kd.int .i64) _ _ _ 2 [.int .i64 2] from rfl) (Reps.one (show Kd.M (Kd.int .i64) _ _ _ 3 [.int .i64 3] from rfl) (Reps.none _ _))))); intro v150 w32 ho33 hb hg_ hnew_; clear hg_ hnew_; (first | rw [← Ny149.out] at ho33 | (simp only [Int.reduceToNat] at ho33; rw [← Ny149.out] at ho33)); have n0_ := Aside0.mk (Kd.R_lower ho33 (below_size (by repeat (first | (with_reducible first | exact HB.out | apply below_alloc | apply pw_below_drewN | apply below_drew1) | exact HB.out)))); have n1_ := Aside0.mk (below_step (by repeat (first | (with_reducible first | exact HB.out | apply below_alloc | apply pw_below_drewN | apply below_drew1) | exact HB.out)) hb); clear HB; have HO151 := n0_; have HB := n1_; clear n0_ n1_; clear hb ho33; obtain ⟨Ao34, co34, eo34⟩ := Kd.R_slice HO151.out; subst eo34) | (go_at_call 18; (with_reducible refine (fix_Sum.calls k _ _ y149 t152 _ ?side1 ?side2 A23.out).mono ?_); (case side1 => repeat (first | exact (Kd.R_reads' HO151.out).2.2 | (with_reducible refine Kd.C_alloc ?_ _) | (with_reducible refine Kd.C_drewN ?_ _) | (with_reducible refine Kd.C_drew ?_))); (case side2 => exact (Kd.R_reads' HO151.out).2.1); rintro e w' ⟨rfl, ⟨nd, rfl⟩⟩) | (go_at_call 17; (with_reducible refine (fix_Len.calls k 5 t153 _ A25.out).mono ?_); rintro e w' ⟨rfl, ⟨nd, rfl⟩⟩) | (go_at_call 22; (with_reducible refine (fix_Sat16.calls k 40000 t154 _ A27.out).mono ?_); rintro e w' ⟨rfl, ⟨nd, rfl⟩⟩) | (go_at_call 20; (with_reducible refine (fix_Clamp.calls k 5 1 3 t155 _ A29.out).mono ?_); rintro e w' ⟨rfl, ⟨nd, rfl⟩⟩))
                              go_ret
                              exact ⟨by first | rfl | (simp [errW_none, errW_some] <;> rfl) | (simp [*, errW_none, errW_some] <;> rfl), by repeat (first | (with_reducible first | exact HB.out | apply below_alloc | apply pw_below_drewN | apply below_drew1) | exact HB.out)⟩
                            · rw [if_neg c28] at H
                              exact absurd H (by simp)
                          · rw [if_neg c26] at H
                            exact absurd H (by simp)
                        · rw [if_neg c24] at H
                          exact absurd H (by simp)
                      · rw [if_neg c22] at H
                        exact absurd H (by simp)
                    · rw [if_neg c20] at H
                      exact absurd H (by simp)
                  · rw [if_neg c18] at H
                    exact absurd H (by simp)
                · rw [if_neg c16] at H
                  exact absurd H (by simp)
              · rw [if_neg c14] at H
                exact absurd H (by simp)
            · rw [if_neg c12] at H
              exact absurd H (by simp)
          · rw [if_neg c10] at H
            exact absurd H (by simp)
        · rw [if_neg c8] at H
          exact absurd H (by simp)
      · rw [if_neg c6] at H
        exact absurd H (by simp)
    · rw [if_neg c4] at H
      exact absurd H (by simp)
  · rw [if_neg c2] at H
    exact absurd H (by simp)

end Go.Proofs.Ytlhdoopmlpnhlaa.P
