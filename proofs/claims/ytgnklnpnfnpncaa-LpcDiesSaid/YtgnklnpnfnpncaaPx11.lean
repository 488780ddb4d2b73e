/- The machine side of the laws of one chapter, without conditions: each call of a Go function comes to what the Lean function of its name answers. Written for this claim by a program of the prover. -/
import Derived.Test.YtgnklnpnfnpncaaPx0
namespace Go.Proofs.Ytgnklnpnfnpncaa.P
open Go.RowKit Go.Proofs.YtgnklnpnfnpncaaW.PrintWords Go.Proofs.YtgnklnpnfnpncaaW.PrintLast Go.Proofs.YtgnklnpnfnpncaaW.PrintMore
attribute [local go_sem] max2_int min2_int max_two min_two max_three min_three max_four min_four   -- for this text's walks alone
set_option linter.unusedVariables false
set_option linter.unusedSimpArgs false

/-! ### fix_Sqrt: function 22 -/
def fix_Sqrt.l0 : Nat → Int → Int → Int → Option (Int)
  | 0, _, _, _ => none
  | k + 1, x3, x4, x5 => if x5 > 0 then (if x3 ≥ (IntKind.u64.wrap (x4 + x5)) then (fix_Sqrt.l0 k (IntKind.u64.wrap (x3 - (IntKind.u64.wrap (x4 + x5)))) (IntKind.u64.wrap ((x4 / 2) + x5)) (x5 / 4)) else (fix_Sqrt.l0 k x3 (x4 / 2) (x5 / 4))) else (some (wrap64 (x4)))
def fix_Sqrt.f (k : Nat) (a0 : Int) : Option (Int) := if a0 < 0 then (some 0) else (fix_Sqrt.l0 k (IntKind.u64.wrap (a0)) 0 4611686018427387904)
theorem fix_Sqrt.mono_l : ∀ k, (∀ y0 y1 y2, LeO (fix_Sqrt.l0 k y0 y1 y2) (fix_Sqrt.l0 (k + 1) y0 y1 y2))
  | 0 => fun _ _ _ r h => by simp [fix_Sqrt.l0] at h
  | k + 1 => by
    have ih0 := fix_Sqrt.mono_l k
    · intro y0 y1 y2
      unfold fix_Sqrt.l0
      repeat' first
      | (with_reducible exact ih0 _ _ _)
      | (with_reducible exact LeO.refl _)
      | (with_reducible exact LeO.none _)
      | (with_reducible refine LeO.ite ?_ ?_)
      | (with_reducible refine LeO.bind ?_ (fun _ => ?_))
      | exact ih0 _ _ _
      | exact LeO.none _
      | refine LeO.ite ?_ ?_
      | refine LeO.bind ?_ (fun _ => ?_)
theorem fix_Sqrt.mono : ∀ a0 k, LeO (fix_Sqrt.f k a0) (fix_Sqrt.f (k + 1) a0) := by
  intro a0 k
  have ih0 := fix_Sqrt.mono_l k
  unfold fix_Sqrt.f
  repeat' first
      | (with_reducible exact ih0 _ _ _)
      | (with_reducible exact LeO.refl _)
      | (with_reducible exact LeO.none _)
      | (with_reducible refine LeO.ite ?_ ?_)
      | (with_reducible refine LeO.bind ?_ (fun _ => ?_))
      | exact ih0 _ _ _
      | exact LeO.none _
      | refine LeO.ite ?_ ?_
      | refine LeO.bind ?_ (fun _ => ?_)
set_option maxHeartbeats 8000000 in
set_option maxRecDepth 100000 in
theorem fix_Sqrt.calls (k : Nat) (a0 : Int) (r : Int) (w : World) (h : fix_Sqrt.f k a0 = some r) :
    Calls Try.prog 22 #[.int .i64 a0] w fun e w' => e = .returned (.int .i64 r) ∧ Drawn0 w w' := by
  have H : (if a0 < 0 then (some 0) else (fix_Sqrt.l0 k (IntKind.u64.wrap (a0)) 0 4611686018427387904)) = some r := h
  clear h
  by_cases c2 : a0 < 0
  · rw [if_pos c2] at H
    have c2b0 : decide (a0 < 0) = true := decide_eq_true c2
    clear c2
    obtain rfl := Option.some.inj H
    go_enter Try.func22, Try.ntmps22
    go_wp2
    go_ret
    exact ⟨by first | rfl | (simp; done) | (simp [*]; done), by repeat (first | exact Drawn0.refl _ | apply Drawn0.step)⟩
  · rw [if_neg c2] at H
    have c2b0 : decide (a0 < 0) = false := decide_eq_false c2
    clear c2
    have H' := Aside0.mk H
    clear H
    go_enter Try.func22, Try.ntmps22
    go_wp2
    go_loopg [3, 4, 5] k (fun kq v3 v4 v5 w' => ∃ (x3_1 : Int) (x4_1 : Int) (x5_1 : Int), v3 = .int .u64 x3_1 ∧ v4 = .int .u64 x4_1 ∧ v5 = .int .u64 x5_1 ∧ Aside0 (fix_Sqrt.l0 kq x3_1 x4_1 x5_1 = some r) ∧ Aside0 (kq ≤ k) ∧ Drawn0 w w')
    case atStart => exact ⟨(IntKind.u64.wrap (a0)), (0), (4611686018427387904), (by first | rfl | (simp; done) | (simp [*]; done)), (by first | rfl | (simp; done) | (simp [*]; done)), (by first | rfl | (simp; done) | (simp [*]; done)), H', ⟨Nat.le_refl _⟩, by repeat (first | exact Drawn0.refl _ | apply Drawn0.step)⟩
    case round =>
      clear H'
      try clear c2
      try clear c2b0
      try clear p2
      obtain ⟨x3_1, x4_1, x5_1, rfl, rfl, rfl, HA, HK1, ⟨m1, rfl⟩⟩ := hrel
      (try simp only [i64_w, i32_w])
      cases gk with
      | zero => exact absurd HA.out (by simp [fix_Sqrt.l0])
      | succ k1 =>
        have H := HA.out
        clear HA
        simp only [fix_Sqrt.l0] at H
        by_cases c3 : x5_1 > 0
        · rw [if_pos c3] at H
          have c3b0 : decide (0 < x5_1) = true := decide_eq_true c3
          clear c3
          by_cases c4 : x3_1 ≥ (IntKind.u64.wrap (x4_1 + x5_1))
          · rw [if_pos c4] at H
            have c4b0 : decide ((IntKind.u64.wrap (x4_1 + x5_1)) ≤ x3_1) = true := decide_eq_true c4
            clear c4
            have H' := Aside0.mk H
            clear H
            go_wp2
            go_roundg k1
            case measure => have := HK1.out; omega
            case rel => exact ⟨(IntKind.u64.wrap (x3_1 - (IntKind.u64.wrap (x4_1 + x5_1)))), (IntKind.u64.wrap ((x4_1 / 2) + x5_1)), (x5_1 / 4), (by first | rfl | (simp; done) | (simp [*]; done)), (by first | rfl | (simp; done) | (simp [*]; done)), (by first | rfl | (simp; done) | (simp [*]; done)), H', ⟨by have := HK1.out; omega⟩, by repeat (first | exact Drawn0.refl _ | apply Drawn0.step)⟩
          · rw [if_neg c4] at H
            have c4b0 : decide ((IntKind.u64.wrap (x4_1 + x5_1)) ≤ x3_1) = false := decide_eq_false c4
            clear c4
            have H' := Aside0.mk H
            clear H
            go_wp2
            go_roundg k1
            case measure => have := HK1.out; omega
            case rel => exact ⟨(x3_1), (x4_1 / 2), (x5_1 / 4), (by first | rfl | (simp; done) | (simp [*]; done)), (by first | rfl | (simp; done) | (simp [*]; done)), (by first | rfl | (simp; done) | (simp [*]; done)), H', ⟨by have := HK1.out; omega⟩, by repeat (first | exact Drawn0.refl _ | apply Drawn0.step)⟩
        · rw [if_neg c3] at H
          have c3b0 : decide (0 < x5_1) = false := decide_eq_false c3
          clear c3
          obtain rfl := Option.some.inj H
          go_wp2
          go_ret
          exact ⟨by first | rfl | (simp; done) | (simp [*]; done), by repeat (first | exact Drawn0.refl _ | apply Drawn0.step)⟩

end Go.Proofs.Ytgnklnpnfnpncaa.P
