/- The machine side of the laws of one chapter, without conditions: each call of a Go function comes to what the Lean function of its name answers. Written for this claim by a program of the prover. -/
import Derived.Test.YtlhdoopmlpnhlaaPx0
namespace Go.Proofs.Ytlhdoopmlpnhlaa.P
open Go.RowKit Go.Proofs.YtlhdoopmlpnhlaaW.PrintWords Go.Proofs.YtlhdoopmlpnhlaaW.PrintLast Go.Proofs.YtlhdoopmlpnhlaaW.PrintMore
attribute [local go_sem] max2_int min2_int max_two min_two max_three min_three max_four min_four   -- for this text's walks alone
set_option linter.unusedVariables false
set_option linter.unusedSimpArgs false

/-! ### madrigalref1_Sqrt: function 29 -/
def madrigalref1_Sqrt.l0 : Nat → Int → Int → Int → Option (Int)
  | 0, _, _, _ => none
  | k + 1, x0, x3, x4 => if x4 ≥ 0 then (if 0 ≤ (IntKind.u64.wrap (x4)) then (if (wrap64 (x3 + (shl .i64 1 (IntKind.u64.wrap (x4))))) ≤ 3037000499 then (if (wrap64 ((wrap64 (x3 + (shl .i64 1 (IntKind.u64.wrap (x4))))) * (wrap64 (x3 + (shl .i64 1 (IntKind.u64.wrap (x4))))))) ≤ x0 then (madrigalref1_Sqrt.l0 k x0 (wrap64 (x3 + (shl .i64 1 (IntKind.u64.wrap (x4))))) (wrap64 (x4 - 1))) else (madrigalref1_Sqrt.l0 k x0 x3 (wrap64 (x4 - 1)))) else (madrigalref1_Sqrt.l0 k x0 x3 (wrap64 (x4 - 1)))) else (none)) else (some x3)
def madrigalref1_Sqrt.f (k : Nat) (a0 : Int) : Option (Int) := madrigalref1_Sqrt.l0 k a0 0 31
theorem madrigalref1_Sqrt.mono_l : ∀ k, (∀ y0 y1 y2, LeO (madrigalref1_Sqrt.l0 k y0 y1 y2) (madrigalref1_Sqrt.l0 (k + 1) y0 y1 y2))
  | 0 => fun _ _ _ r h => by simp [madrigalref1_Sqrt.l0] at h
  | k + 1 => by
    have ih0 := madrigalref1_Sqrt.mono_l k
    · intro y0 y1 y2
      unfold madrigalref1_Sqrt.l0
      repeat' first
      | (with_reducible exact ih0 _ _ _)
      | (with_reducible exact LeO.refl _)
      | (with_reducible exact LeO.none _)
      | (with_reducible refine LeO.ite ?_ ?_)
      | (with_reducible refine LeO.bind ?_ (fun _ => ?_))
      | exact ih0 _ _ _
      | exact LeO.none _
      | refine LeO.ite ?_ ?_
      | refine LeO.bind ?_ (fun _ => ?_)
theorem madrigalref1_Sqrt.mono : ∀ a0 k, LeO (madrigalref1_Sqrt.f k a0) (madrigalref1_Sqrt.f (k + 1) a0) := by
  intro a0 k
  have ih0 := madrigalref1_Sqrt.mono_l k
  unfold madrigalref1_Sqrt.f
  repeat' first
      | (with_reducible exact ih0 _ _ _)
      | (with_reducible exact LeO.refl _)
      | (with_reducible exact LeO.none _)
      | (with_reducible refine LeO.ite ?_ ?_)
      | (with_reducible refine LeO.bind ?_ (fun _ => ?_))
      | exact ih0 _ _ _
      | exact LeO.none _
      | refine LeO.ite ?_ ?_
      | refine LeO.bind ?_ (fun _ => ?_)
set_option maxHeartbeats 8000000 in
set_option maxRecDepth 100000 in
theorem madrigalref1_Sqrt.calls (k : Nat) (a0 : Int) (r : Int) (w : World) (h : madrigalref1_Sqrt.f k a0 = some r) :
    Calls Try.prog 29 #[.int .i64 a0] w fun e w' => e = .returned (.int .i64 r) ∧ Drawn0 w w' := by
  have H : (madrigalref1_Sqrt.l0 k a0 0 31) = some r := h
  clear h
  have H' := Aside0.mk H
  clear H
  go_enter Try.func29, Try.ntmps29
  go_wp2
  go_loopg [3, 4] k (fun kq v3 v4 w' => ∃ (x3_1 : Int) (x4_1 : Int), v3 = .int .i64 x3_1 ∧ v4 = .int .i64 x4_1 ∧ Aside0 (madrigalref1_Sqrt.l0 kq a0 x3_1 x4_1 = some r) ∧ Aside0 (kq ≤ k) ∧ Drawn0 w w')
  case atStart => exact ⟨(0), (31), (by first | rfl | (simp; done) | (simp [*]; done)), (by first | rfl | (simp; done) | (simp [*]; done)), H', ⟨Nat.le_refl _⟩, by repeat (first | exact Drawn0.refl _ | apply Drawn0.step)⟩
  case round =>
    clear H'
    obtain ⟨x3_1, x4_1, rfl, rfl, HA, HK1, ⟨m1, rfl⟩⟩ := hrel
    (try simp only [i64_w, i32_w])
    cases gk with
    | zero => exact absurd HA.out (by simp [madrigalref1_Sqrt.l0])
    | succ k1 =>
      have H := HA.out
      clear HA
      simp only [madrigalref1_Sqrt.l0] at H
      by_cases c2 : x4_1 ≥ 0
      · rw [if_pos c2] at H
        have c2b0 : decide (0 ≤ x4_1) = true := decide_eq_true c2
        clear c2
        obtain ⟨ji3, hji3⟩ : ∃ j_ : Int, (IntKind.u64.wrap (x4_1)) = j_ := ⟨_, rfl⟩
        replace H : (if 0 ≤ (ji3) then (if (wrap64 (x3_1 + (shl .i64 1 (ji3)))) ≤ 3037000499 then (if (wrap64 ((wrap64 (x3_1 + (shl .i64 1 (ji3)))) * (wrap64 (x3_1 + (shl .i64 1 (ji3)))))) ≤ a0 then (madrigalref1_Sqrt.l0 k1 a0 (wrap64 (x3_1 + (shl .i64 1 (ji3)))) (wrap64 (x4_1 - 1))) else (madrigalref1_Sqrt.l0 k1 a0 x3_1 (wrap64 (x4_1 - 1)))) else (madrigalref1_Sqrt.l0 k1 a0 x3_1 (wrap64 (x4_1 - 1)))) else (none)) = some r := by first | (rw [hji3] at H; exact H) | (simp only [hji3] at H ⊢; exact H)
        by_cases c4 : 0 ≤ (ji3)
        · rw [if_pos c4] at H
          have c4b0 := eq_true c4
          have c4b1 : decide (0 ≤ (ji3)) = true := decide_eq_true c4
          clear c4
          obtain ⟨ji5, hji5⟩ : ∃ j_ : Int, (shl .i64 1 (ji3)) = j_ := ⟨_, rfl⟩
          replace H : (if (wrap64 (x3_1 + (ji5))) ≤ 3037000499 then (if (wrap64 ((wrap64 (x3_1 + (ji5))) * (wrap64 (x3_1 + (ji5))))) ≤ a0 then (madrigalref1_Sqrt.l0 k1 a0 (wrap64 (x3_1 + (ji5))) (wrap64 (x4_1 - 1))) else (madrigalref1_Sqrt.l0 k1 a0 x3_1 (wrap64 (x4_1 - 1)))) else (madrigalref1_Sqrt.l0 k1 a0 x3_1 (wrap64 (x4_1 - 1)))) = some r := by first | (rw [hji5] at H; exact H) | (simp only [hji5] at H ⊢; exact H)
          have hji5_ : (IntKind.i64.wrap (1 * 2 ^ min (ji3).toNat 64)) = ji5 := hji5
          have hji5z : (ji3) ≤ 64 → (IntKind.i64.wrap (1 * 2 ^ (ji3).toNat)) = ji5 := shl_small hji5
          have hji5u : (IntKind.i64.wrap (2 ^ min (ji3).toNat 64)) = ji5 := by have h_ := hji5_; rw [Int.one_mul] at h_; exact h_
          have hji5v : (ji3) ≤ 64 → (IntKind.i64.wrap (2 ^ (ji3).toNat)) = ji5 := fun hle_ => by have h_ := hji5z hle_; rw [Int.one_mul] at h_; exact h_
          have hji5y : (wrap64 (1 * 2 ^ min (ji3).toNat 64)) = ji5 := (i64_w _).symm.trans hji5_
          have hji5x : (ji3) ≤ 64 → (wrap64 (1 * 2 ^ (ji3).toNat)) = ji5 := fun h_ => (i64_w _).symm.trans (hji5z h_)
          by_cases c6 : (wrap64 (x3_1 + (ji5))) ≤ 3037000499
          · rw [if_pos c6] at H
            have c6b0 : decide ((wrap64 (x3_1 + (ji5))) ≤ 3037000499) = true := decide_eq_true c6
            clear c6
            by_cases c7 : (wrap64 ((wrap64 (x3_1 + (ji5))) * (wrap64 (x3_1 + (ji5))))) ≤ a0
            · rw [if_pos c7] at H
              have c7b0 : decide ((wrap64 ((wrap64 (x3_1 + (ji5))) * (wrap64 (x3_1 + (ji5))))) ≤ a0) = true := decide_eq_true c7
              clear c7
              have H' := Aside0.mk H
              clear H
              go_wp2
              go_roundg k1
              case measure => have := HK1.out; omega
              case rel => exact ⟨(wrap64 (x3_1 + (ji5))), (wrap64 (x4_1 - 1)), (by first | rfl | (simp; done) | (simp only [← hji5] <;> (first | rfl | simp)) | (simp [*]; done)), (by first | rfl | (simp; done) | (simp [*]; done)), H', ⟨by have := HK1.out; omega⟩, by repeat (first | exact Drawn0.refl _ | apply Drawn0.step)⟩
            · rw [if_neg c7] at H
              have c7b0 : decide ((wrap64 ((wrap64 (x3_1 + (ji5))) * (wrap64 (x3_1 + (ji5))))) ≤ a0) = false := decide_eq_false c7
              clear c7
              have H' := Aside0.mk H
              clear H
              go_wp2
              go_roundg k1
              case measure => have := HK1.out; omega
              case rel => exact ⟨(x3_1), (wrap64 (x4_1 - 1)), (by first | rfl | (simp; done) | (simp [*]; done)), (by first | rfl | (simp; done) | (simp [*]; done)), H', ⟨by have := HK1.out; omega⟩, by repeat (first | exact Drawn0.refl _ | apply Drawn0.step)⟩
          · rw [if_neg c6] at H
            have c6b0 : decide ((wrap64 (x3_1 + (ji5))) ≤ 3037000499) = false := decide_eq_false c6
            clear c6
            have H' := Aside0.mk H
            clear H
            go_wp2
            go_roundg k1
            case measure => have := HK1.out; omega
            case rel => exact ⟨(x3_1), (wrap64 (x4_1 - 1)), (by first | rfl | (simp; done) | (simp [*]; done)), (by first | rfl | (simp; done) | (simp [*]; done)), H', ⟨by have := HK1.out; omega⟩, by repeat (first | exact Drawn0.refl _ | apply Drawn0.step)⟩
        · rw [if_neg c4] at H
          exact absurd H (by simp)
      · rw [if_neg c2] at H
        have c2b0 : decide (0 ≤ x4_1) = false := decide_eq_false c2
        clear c2
        obtain rfl := Option.some.inj H
        go_wp2
        go_ret
        exact ⟨by first | rfl | (simp; done) | (simp [*]; done), by repeat (first | exact Drawn0.refl _ | apply Drawn0.step)⟩

end Go.Proofs.Ytlhdoopmlpnhlaa.P
