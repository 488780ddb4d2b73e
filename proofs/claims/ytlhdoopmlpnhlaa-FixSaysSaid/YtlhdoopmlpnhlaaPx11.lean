/- The machine side of the laws of one chapter, without conditions: each call of a Go function comes to what the Lean function of its name answers. Written for this claim by a program of the prover. -/
import Derived.Test.YtlhdoopmlpnhlaaPx0
import Derived.Test.YtlhdoopmlpnhlaaPx1
import Derived.Test.YtlhdoopmlpnhlaaPx2
namespace Go.Proofs.Ytlhdoopmlpnhlaa.P
open Go.RowKit Go.Proofs.YtlhdoopmlpnhlaaW.PrintWords Go.Proofs.YtlhdoopmlpnhlaaW.PrintLast Go.Proofs.YtlhdoopmlpnhlaaW.PrintMore
attribute [local go_sem] max2_int min2_int max_two min_two max_three min_three max_four min_four   -- for this text's walks alone
set_option linter.unusedVariables false
set_option linter.unusedSimpArgs false

theorem arr19_18 (j : Int) (h0 : 0 ≤ j) (h1 : j < 8) (w : World) : (Instr.index 40 (.agg #[.int .i64 1518500250, .int .i64 1276901417, .int .i64 1170923762, .int .i64 1121280436, .int .i64 1097253708, .int .i64 1085434106, .int .i64 1079572136, .int .i64 1076653033]) (.int .i64 j)).run Try.prog w = .ok (.int .i64 (rd ([1518500250, 1276901417, 1170923762, 1121280436, 1097253708, 1085434106, 1079572136, 1076653033] : List Int) j)) w := by
  obtain rfl | rfl | rfl | rfl | rfl | rfl | rfl | rfl : j = 0 ∨ j = 1 ∨ j = 2 ∨ j = 3 ∨ j = 4 ∨ j = 5 ∨ j = 6 ∨ j = 7 := by omega
  all_goals kernel_rfl
/-! ### fix_Exp2: function 19 -/
def fix_Exp2.l0 : Nat → Int → Int → Int → Int → Option (Int)
  | 0, _, _, _, _ => none
  | k + 1, x3, x4, x5, x15 => if x15 < 8 then (if 0 ≤ x15 then (if 0 ≤ (wrap64 (7 - x15)) then (if (Go.bits .and .i64 (shr .i64 x4 (wrap64 (7 - x15))) 1) = 1 then ((fix_Mul.f k x5 (rd ([1518500250, 1276901417, 1170923762, 1121280436, 1097253708, 1085434106, 1079572136, 1076653033] : List Int) x15) 30).bind fun t134 => (fix_Exp2.l0 k x3 x4 t134 (wrap64 (x15 + 1)))) else (fix_Exp2.l0 k x3 x4 x5 (wrap64 (x15 + 1)))) else (none)) else (none)) else (if x3 = 30 then (some x5) else ((fix_Mul.f k x5 1 (wrap64 (30 - x3))).bind fun t135 => (some t135)))
def fix_Exp2.f (k : Nat) (a0 : Int) : Option (Int) := (fix_Clamp.f k a0 0 7935).bind fun t133 => (fix_Exp2.l0 k (t133 / 256) (Go.bits .and .i64 t133 255) 1073741824 0)
theorem fix_Exp2.mono_l : ∀ k, (∀ y0 y1 y2 y3, LeO (fix_Exp2.l0 k y0 y1 y2 y3) (fix_Exp2.l0 (k + 1) y0 y1 y2 y3))
  | 0 => fun _ _ _ _ r h => by simp [fix_Exp2.l0] at h
  | k + 1 => by
    have ih0 := fix_Exp2.mono_l k
    · intro y0 y1 y2 y3
      unfold fix_Exp2.l0
      repeat' first
      | (with_reducible exact ih0 _ _ _ _)
      | (with_reducible exact fix_Clamp.mono _ _ _ _)
      | (with_reducible exact fix_Mul.mono _ _ _ _)
      | (with_reducible exact LeO.refl _)
      | (with_reducible exact LeO.none _)
      | (with_reducible refine LeO.ite ?_ ?_)
      | (with_reducible refine LeO.bind ?_ (fun _ => ?_))
      | exact ih0 _ _ _ _
      | exact fix_Clamp.mono _ _ _ _
      | exact fix_Mul.mono _ _ _ _
      | exact LeO.none _
      | refine LeO.ite ?_ ?_
      | refine LeO.bind ?_ (fun _ => ?_)
theorem fix_Exp2.mono : ∀ a0 k, LeO (fix_Exp2.f k a0) (fix_Exp2.f (k + 1) a0) := by
  intro a0 k
  have ih0 := fix_Exp2.mono_l k
  unfold fix_Exp2.f
  repeat' first
      | (with_reducible exact ih0 _ _ _ _)
      | (with_reducible exact fix_Clamp.mono _ _ _ _)
      | (with_reducible exact fix_Mul.mono _ _ _ _)
      | (with_reducible exact LeO.refl _)
      | (with_reducible exact LeO.none _)
      | (with_reducible refine LeO.ite ?_ ?_)
      | (with_reducible refine LeO.bind ?_ (fun _ => ?_))
      | exact ih0 _ _ _ _
      | exact fix_Clamp.mono _ _ _ _
      | exact fix_Mul.mono _ _ _ _
      | exact LeO.none _
      | refine LeO.ite ?_ ?_
      | refine LeO.bind ?_ (fun _ => ?_)
set_option maxHeartbeats 8000000 in
set_option maxRecDepth 100000 in
theorem fix_Exp2.calls (k : Nat) (a0 : Int) (r : Int) (w : World) (h : fix_Exp2.f k a0 = some r) :
    Calls Try.prog 19 #[.int .i64 a0] w fun e w' => e = .returned (.int .i64 r) ∧ Drawn0 w w' := by
  have hu40 := Try.underlying40
  have H : ((fix_Clamp.f k a0 0 7935).bind fun t133 => (fix_Exp2.l0 k (t133 / 256) (Go.bits .and .i64 t133 255) 1073741824 0)) = some r := h
  clear h
  replace H := Option.bind_eq_some_iff.mp H
  obtain ⟨t133, A20, H⟩ := H
  replace H : (fix_Exp2.l0 k (t133 / 256) (Go.bits .and .i64 t133 255) 1073741824 0) = some r := H
  have A2 := Aside0.mk A20
  clear A20
  have H' := Aside0.mk H
  clear H
  go_enter Try.func19, Try.ntmps19
  go_wp2_with (first | ((with_reducible refine gate_callee (f := 20) rfl ?_); refine goesL_ (some 9) rfl rfl Try.func20 (by kernel_rfl) rfl #[.int .i64 a0, .int .i64 0, .int .i64 7935] rfl (by (try simp only [List.map_toArray, List.map_cons, List.map_nil]); first | done | rfl | (simp only [List.length_drop, List.length_take]; rfl)) ?_; (with_reducible refine (fix_Clamp.calls k a0 0 7935 t133 _ A2.out).mono ?_); rintro e w' ⟨rfl, ⟨nd, rfl⟩⟩; refine ⟨_, rfl, ?_⟩))
  go_loopg [5, 15] k (fun kq v5 v15 w' => ∃ (x5_1 : Int) (x15_1 : Int), v5 = .int .i64 x5_1 ∧ v15 = .int .i64 x15_1 ∧ Aside0 (fix_Exp2.l0 kq (t133 / 256) (Go.bits .and .i64 t133 255) x5_1 x15_1 = some r) ∧ Aside0 (kq ≤ k) ∧ Drawn0 w w')
  case atStart => exact ⟨(1073741824), (0), (by first | rfl | (simp; done) | (simp [*]; done)), (by first | rfl | (simp; done) | (simp [*]; done)), H', ⟨Nat.le_refl _⟩, by repeat (first | exact Drawn0.refl _ | apply Drawn0.step)⟩
  case round =>
    clear H'
    try clear c1
    try clear c2
    try clear p2
    obtain ⟨x5_1, x15_1, rfl, rfl, HA, HK1, ⟨m1, rfl⟩⟩ := hrel
    (try simp only [i64_w, i32_w])
    cases gk with
    | zero => exact absurd HA.out (by simp [fix_Exp2.l0])
    | succ k1 =>
      have H := HA.out
      clear HA
      simp only [fix_Exp2.l0] at H
      by_cases c3 : x15_1 < 8
      · rw [if_pos c3] at H
        have c3b0 : decide (x15_1 < 8) = true := decide_eq_true c3
        clear c3
        by_cases c4 : 0 ≤ x15_1
        · rw [if_pos c4] at H
          have c4b0 : decide (0 ≤ x15_1) = true := decide_eq_true c4
          clear c4
          obtain ⟨ji6, hji6⟩ : ∃ j_ : Int, (wrap64 (7 - x15_1)) = j_ := ⟨_, rfl⟩
          replace H : (if 0 ≤ (ji6) then (if (Go.bits .and .i64 (shr .i64 (Go.bits .and .i64 t133 255) (ji6)) 1) = 1 then ((fix_Mul.f k1 x5_1 (rd ([1518500250, 1276901417, 1170923762, 1121280436, 1097253708, 1085434106, 1079572136, 1076653033] : List Int) x15_1) 30).bind fun t134 => (fix_Exp2.l0 k1 (t133 / 256) (Go.bits .and .i64 t133 255) t134 (wrap64 (x15_1 + 1)))) else (fix_Exp2.l0 k1 (t133 / 256) (Go.bits .and .i64 t133 255) x5_1 (wrap64 (x15_1 + 1)))) else (none)) = some r := by first | (rw [hji6] at H; exact H) | (simp only [hji6] at H ⊢; exact H)
          have hji6w : (IntKind.i64.wrap (7 - x15_1)) = ji6 := (i64_w _).trans hji6
          by_cases c7 : 0 ≤ (ji6)
          · rw [if_pos c7] at H
            have c7b0 := eq_true c7
            have c7b1 : decide (0 ≤ (ji6)) = true := decide_eq_true c7
            clear c7
            obtain ⟨ji8, hji8⟩ : ∃ j_ : Int, (shr .i64 (Go.bits .and .i64 t133 255) (ji6)) = j_ := ⟨_, rfl⟩
            replace H : (if (Go.bits .and .i64 (ji8) 1) = 1 then ((fix_Mul.f k1 x5_1 (rd ([1518500250, 1276901417, 1170923762, 1121280436, 1097253708, 1085434106, 1079572136, 1076653033] : List Int) x15_1) 30).bind fun t134 => (fix_Exp2.l0 k1 (t133 / 256) (Go.bits .and .i64 t133 255) t134 (wrap64 (x15_1 + 1)))) else (fix_Exp2.l0 k1 (t133 / 256) (Go.bits .and .i64 t133 255) x5_1 (wrap64 (x15_1 + 1)))) = some r := by first | (rw [hji8] at H; exact H) | (simp only [hji8] at H ⊢; exact H)
            have hji8_ : ((Go.bits .and .i64 t133 255) / 2 ^ min (ji6).toNat 64) = ji8 := hji8
            have hji8z : (ji6) ≤ 64 → ((Go.bits .and .i64 t133 255) / 2 ^ (ji6).toNat) = ji8 := shr_small hji8
            by_cases c9 : (Go.bits .and .i64 (ji8) 1) = 1
            · rw [if_pos c9] at H
              have c9b0 : ((Go.bits .and .i64 (ji8) 1) == 1) = true := beq_iff_eq.mpr c9
              have c9b1 : ((Go.bits .and .i64 (ji8) 1) != 1) = false := bne_eq_false_iff_eq.mpr c9
              clear c9
              replace H := Option.bind_eq_some_iff.mp H
              obtain ⟨t134, A100, H⟩ := H
              replace H : (fix_Exp2.l0 k1 (t133 / 256) (Go.bits .and .i64 t133 255) t134 (wrap64 (x15_1 + 1))) = some r := H
              have A10 := Aside0.mk A100
              clear A100
              have H' := Aside0.mk H
              clear H
              have p5 : 0 ≤ (x15_1 : Int) := of_decide_eq_true (by first | (with_reducible assumption) | assumption)
              have q5 : (x15_1 : Int) < 8 := of_decide_eq_true (by first | (with_reducible assumption) | assumption)
              have hx5 := arr19_18 x15_1 p5 q5
              replace p5 := eq_true p5
              replace q5 := eq_true q5
              go_wp2_with (first | ((with_reducible refine gate_callee (f := 13) rfl ?_); refine goesL_ (some 27) rfl rfl Try.func13 (by kernel_rfl) rfl #[.int .i64 x5_1, .int .i64 (rd ([1518500250, 1276901417, 1170923762, 1121280436, 1097253708, 1085434106, 1079572136, 1076653033] : List Int) x15_1), .int .i64 30] rfl (by (try simp only [List.map_toArray, List.map_cons, List.map_nil]); first | done | rfl | (simp only [List.length_drop, List.length_take]; rfl)) ?_; (with_reducible refine (fix_Mul.calls k1 x5_1 (rd ([1518500250, 1276901417, 1170923762, 1121280436, 1097253708, 1085434106, 1079572136, 1076653033] : List Int) x15_1) 30 t134 _ A10.out).mono ?_); rintro e w' ⟨rfl, ⟨nd, rfl⟩⟩; refine ⟨_, rfl, ?_⟩))
              go_roundg k1
              case measure => have := HK1.out; omega
              case rel => exact ⟨(t134), (wrap64 (x15_1 + 1)), (by first | rfl | (simp; done) | (simp [*]; done)), (by first | rfl | (simp; done) | (simp [*]; done)), H', ⟨by have := HK1.out; omega⟩, by repeat (first | exact Drawn0.refl _ | apply Drawn0.step)⟩
            · rw [if_neg c9] at H
              have c9b0 : ((Go.bits .and .i64 (ji8) 1) == 1) = false := beq_eq_false_iff_ne.mpr c9
              have c9b1 : ((Go.bits .and .i64 (ji8) 1) != 1) = true := bne_iff_ne.mpr c9
              have H' := Aside0.mk H
              clear H
              have p5 : 0 ≤ (x15_1 : Int) := of_decide_eq_true (by first | (with_reducible assumption) | assumption)
              have q5 : (x15_1 : Int) < 8 := of_decide_eq_true (by first | (with_reducible assumption) | assumption)
              have hx5 := arr19_18 x15_1 p5 q5
              replace p5 := eq_true p5
              replace q5 := eq_true q5
              go_wp2
              go_roundg k1
              case measure => have := HK1.out; omega
              case rel => exact ⟨(x5_1), (wrap64 (x15_1 + 1)), (by first | rfl | (simp; done) | (simp [*]; done)), (by first | rfl | (simp; done) | (simp [*]; done)), H', ⟨by have := HK1.out; omega⟩, by repeat (first | exact Drawn0.refl _ | apply Drawn0.step)⟩
          · rw [if_neg c7] at H
            exact absurd H (by simp)
        · rw [if_neg c4] at H
          exact absurd H (by simp)
      · rw [if_neg c3] at H
        have c3b0 : decide (x15_1 < 8) = false := decide_eq_false c3
        clear c3
        by_cases c11 : (t133 / 256) = 30
        · rw [if_pos c11] at H
          have c11b0 : ((t133 / 256) == 30) = true := beq_iff_eq.mpr c11
          have c11b1 : ((t133 / 256) != 30) = false := bne_eq_false_iff_eq.mpr c11
          clear c11
          obtain rfl := Option.some.inj H
          go_wp2
          go_ret
          exact ⟨by first | rfl | (simp; done) | (simp [*]; done), by repeat (first | exact Drawn0.refl _ | apply Drawn0.step)⟩
        · rw [if_neg c11] at H
          have c11b0 : ((t133 / 256) == 30) = false := beq_eq_false_iff_ne.mpr c11
          have c11b1 : ((t133 / 256) != 30) = true := bne_iff_ne.mpr c11
          replace H := Option.bind_eq_some_iff.mp H
          obtain ⟨t135, A120, H⟩ := H
          replace H : (some t135) = some r := H
          have A12 := Aside0.mk A120
          clear A120
          obtain rfl := Option.some.inj H
          go_wp2_with (first | ((with_reducible refine gate_callee (f := 13) rfl ?_); refine goesL_ (some 35) rfl rfl Try.func13 (by kernel_rfl) rfl #[.int .i64 x5_1, .int .i64 1, .int .i64 (wrap64 (30 - (t133 / 256)))] rfl (by (try simp only [List.map_toArray, List.map_cons, List.map_nil]); first | done | rfl | (simp only [List.length_drop, List.length_take]; rfl)) ?_; (with_reducible refine (fix_Mul.calls k1 x5_1 1 (wrap64 (30 - (t133 / 256))) t135 _ A12.out).mono ?_); rintro e w' ⟨rfl, ⟨nd, rfl⟩⟩; refine ⟨_, rfl, ?_⟩))
          go_ret
          exact ⟨by first | rfl | (simp; done) | (simp [*]; done), by repeat (first | exact Drawn0.refl _ | apply Drawn0.step)⟩

end Go.Proofs.Ytlhdoopmlpnhlaa.P
