/- The machine side of the laws of one chapter, without conditions: each call of a Go function comes to what the Lean function of its name answers. Written for this claim by a program of the prover. -/
import Derived.Test.YtdchabinakboeaaPx0
namespace Go.Proofs.Ytdchabinakboeaa.P
open Go.RowKit Go.Proofs.YtdchabinakboeaaW.PrintWords Go.Proofs.YtdchabinakboeaaW.PrintLast Go.Proofs.YtdchabinakboeaaW.PrintMore
attribute [local go_sem] max2_int min2_int max_two min_two max_three min_three max_four min_four   -- for this text's walks alone
set_option linter.unusedVariables false
set_option linter.unusedSimpArgs false

/-! ### madrigalref6_GoodIndex: function 28 -/
mutual
def madrigalref6_GoodIndex.j0 : Nat → List Int → Bool → Option (Bool)
  | 0, _, _ => none
  | k + 1, x2, x27 => if x27 = true then (some false) else (madrigalref6_GoodIndex.l0 k x2 0)
def madrigalref6_GoodIndex.l0 : Nat → List Int → Int → Option (Bool)
  | 0, _, _ => none
  | k + 1, x2, x7 => if x7 < (x2.length : Int) then (if 0 ≤ x7 then (if (rd x2 x7) < (-4) then (some false) else (if (rd x2 x7) > 4 then (some false) else (madrigalref6_GoodIndex.l0 k x2 (wrap64 (x7 + 1))))) else (none)) else (some true)
end
def madrigalref6_GoodIndex.f (k : Nat) (a0 : Int) (a1 : Int) (l2 : List Int) : Option (Bool) := if a0 = 10 then (if a1 < 0 then (madrigalref6_GoodIndex.j0 k l2 true) else (if a1 > 15 then (madrigalref6_GoodIndex.j0 k l2 true) else (madrigalref6_GoodIndex.j0 k l2 ((l2.length : Int) != a0)))) else (if a0 = 16 then (if a1 < 0 then (madrigalref6_GoodIndex.j0 k l2 true) else (if a1 > 15 then (madrigalref6_GoodIndex.j0 k l2 true) else (madrigalref6_GoodIndex.j0 k l2 ((l2.length : Int) != a0)))) else (madrigalref6_GoodIndex.j0 k l2 true))
theorem madrigalref6_GoodIndex.mono_l : ∀ k, (∀ y0 y1, LeO (madrigalref6_GoodIndex.j0 k y0 y1) (madrigalref6_GoodIndex.j0 (k + 1) y0 y1)) ∧ (∀ y0 y1, LeO (madrigalref6_GoodIndex.l0 k y0 y1) (madrigalref6_GoodIndex.l0 (k + 1) y0 y1))
  | 0 => ⟨fun _ _ r h => by simp [madrigalref6_GoodIndex.j0] at h, fun _ _ r h => by simp [madrigalref6_GoodIndex.l0] at h⟩
  | k + 1 => by
    obtain ⟨ih0, ih1⟩ := madrigalref6_GoodIndex.mono_l k
    refine ⟨?_, ?_⟩
    · intro y0 y1
      unfold madrigalref6_GoodIndex.j0
      repeat' first
      | (with_reducible exact ih0 _ _)
      | (with_reducible exact ih1 _ _)
      | (with_reducible exact LeO.refl _)
      | (with_reducible exact LeO.none _)
      | (with_reducible refine LeO.ite ?_ ?_)
      | (with_reducible refine LeO.bind ?_ (fun _ => ?_))
      | exact ih0 _ _
      | exact ih1 _ _
      | exact LeO.none _
      | refine LeO.ite ?_ ?_
      | refine LeO.bind ?_ (fun _ => ?_)
    · intro y0 y1
      unfold madrigalref6_GoodIndex.l0
      repeat' first
      | (with_reducible exact ih0 _ _)
      | (with_reducible exact ih1 _ _)
      | (with_reducible exact LeO.refl _)
      | (with_reducible exact LeO.none _)
      | (with_reducible refine LeO.ite ?_ ?_)
      | (with_reducible refine LeO.bind ?_ (fun _ => ?_))
      | exact ih0 _ _
      | exact ih1 _ _
      | exact LeO.none _
      | refine LeO.ite ?_ ?_
      | refine LeO.bind ?_ (fun _ => ?_)
theorem madrigalref6_GoodIndex.mono : ∀ a0 a1 a2 k, LeO (madrigalref6_GoodIndex.f k a0 a1 a2) (madrigalref6_GoodIndex.f (k + 1) a0 a1 a2) := by
  intro a0 a1 a2 k
  obtain ⟨ih0, ih1⟩ := madrigalref6_GoodIndex.mono_l k
  unfold madrigalref6_GoodIndex.f
  repeat' first
      | (with_reducible exact ih0 _ _)
      | (with_reducible exact ih1 _ _)
      | (with_reducible exact LeO.refl _)
      | (with_reducible exact LeO.none _)
      | (with_reducible refine LeO.ite ?_ ?_)
      | (with_reducible refine LeO.bind ?_ (fun _ => ?_))
      | exact ih0 _ _
      | exact ih1 _ _
      | exact LeO.none _
      | refine LeO.ite ?_ ?_
      | refine LeO.bind ?_ (fun _ => ?_)
set_option maxHeartbeats 8000000 in
set_option maxRecDepth 100000 in
theorem madrigalref6_GoodIndex.calls (k : Nat) (a0 : Int) (a1 : Int) (A2 : Option Addr) (c2 : Nat) (l2 : List Int) (r : Bool) (w : World) (hr2 : Kd.C (Kd.int .i64) w A2 l2.length l2) (hc2 : l2.length ≤ c2) (h : madrigalref6_GoodIndex.f k a0 a1 l2 = some r) :
    Calls Try.prog 28 #[.int .i64 a0, .int .i64 a1, .slice A2 l2.length c2] w fun e w' => e = .returned (.bool r) ∧ Drawn0 w w' := by
  have HR2 := Aside0.mk hr2
  have HC2 := Aside0.mk hc2
  clear hr2 hc2
  have H : (if a0 = 10 then (if a1 < 0 then (madrigalref6_GoodIndex.j0 k l2 true) else (if a1 > 15 then (madrigalref6_GoodIndex.j0 k l2 true) else (madrigalref6_GoodIndex.j0 k l2 ((l2.length : Int) != a0)))) else (if a0 = 16 then (if a1 < 0 then (madrigalref6_GoodIndex.j0 k l2 true) else (if a1 > 15 then (madrigalref6_GoodIndex.j0 k l2 true) else (madrigalref6_GoodIndex.j0 k l2 ((l2.length : Int) != a0)))) else (madrigalref6_GoodIndex.j0 k l2 true))) = some r := h
  clear h
  have HC4 := Aside0.mk H
  clear H
  go_enter Try.func28, Try.ntmps28
  go_upto_region 1 with (fail)
  go_cut [27] (fun v27 wc => ∃ (kq : Nat) (x27_3 : Bool), v27 = .bool x27_3 ∧ Aside0 (madrigalref6_GoodIndex.j0 kq l2 x27_3 = some r) ∧ Aside0 (kq ≤ k) ∧ Drawn0 w wc)
  case first =>
    have H := HC4.out
    clear HC4
    by_cases c5 : a0 = 10
    · rw [if_pos c5] at H
      have c5b0 : (a0 == 10) = true := beq_iff_eq.mpr c5
      have c5b1 : (a0 != 10) = false := bne_eq_false_iff_eq.mpr c5
      clear c5
      (first | rw [c5b0] | (simp only [i64_w, i32_w]; rw [c5b0]) | skip)
      by_cases c6 : a1 < 0
      · rw [if_pos c6] at H
        have c6b0 : decide (a1 < 0) = true := decide_eq_true c6
        clear c6
        have H' := Aside0.mk H
        clear H
        go_wp2
        go_meet
        case rel => exact ⟨_, (true), (by first | rfl | (simp; done) | (simp [*]; done)), H', ⟨by first | omega | exact Nat.le_refl _⟩, by repeat (first | exact Drawn0.refl _ | apply Drawn0.step)⟩
      · rw [if_neg c6] at H
        have c6b0 : decide (a1 < 0) = false := decide_eq_false c6
        clear c6
        by_cases c7 : a1 > 15
        · rw [if_pos c7] at H
          have c7b0 : decide (15 < a1) = true := decide_eq_true c7
          clear c7
          have H' := Aside0.mk H
          clear H
          go_wp2
          go_meet
          case rel => exact ⟨_, (true), (by first | rfl | (simp; done) | (simp [*]; done)), H', ⟨by first | omega | exact Nat.le_refl _⟩, by repeat (first | exact Drawn0.refl _ | apply Drawn0.step)⟩
        · rw [if_neg c7] at H
          have c7b0 : decide (15 < a1) = false := decide_eq_false c7
          clear c7
          have H' := Aside0.mk H
          clear H
          go_wp2
          go_meet
          case rel => exact ⟨_, (((l2.length : Int) != a0)), (by first | rfl | (simp; done) | (simp [*]; done)), H', ⟨by first | omega | exact Nat.le_refl _⟩, by repeat (first | exact Drawn0.refl _ | apply Drawn0.step)⟩
    · rw [if_neg c5] at H
      have c5b0 : (a0 == 10) = false := beq_eq_false_iff_ne.mpr c5
      have c5b1 : (a0 != 10) = true := bne_iff_ne.mpr c5
      (first | rw [c5b0] | (simp only [i64_w, i32_w]; rw [c5b0]) | skip)
      by_cases c8 : a0 = 16
      · rw [if_pos c8] at H
        have c8b0 : (a0 == 16) = true := beq_iff_eq.mpr c8
        have c8b1 : (a0 != 16) = false := bne_eq_false_iff_eq.mpr c8
        clear c8
        by_cases c9 : a1 < 0
        · rw [if_pos c9] at H
          have c9b0 : decide (a1 < 0) = true := decide_eq_true c9
          clear c9
          have H' := Aside0.mk H
          clear H
          go_wp2
          go_meet
          case rel => exact ⟨_, (true), (by first | rfl | (simp; done) | (simp [*]; done)), H', ⟨by first | omega | exact Nat.le_refl _⟩, by repeat (first | exact Drawn0.refl _ | apply Drawn0.step)⟩
        · rw [if_neg c9] at H
          have c9b0 : decide (a1 < 0) = false := decide_eq_false c9
          clear c9
          by_cases c10 : a1 > 15
          · rw [if_pos c10] at H
            have c10b0 : decide (15 < a1) = true := decide_eq_true c10
            clear c10
            have H' := Aside0.mk H
            clear H
            go_wp2
            go_meet
            case rel => exact ⟨_, (true), (by first | rfl | (simp; done) | (simp [*]; done)), H', ⟨by first | omega | exact Nat.le_refl _⟩, by repeat (first | exact Drawn0.refl _ | apply Drawn0.step)⟩
          · rw [if_neg c10] at H
            have c10b0 : decide (15 < a1) = false := decide_eq_false c10
            clear c10
            have H' := Aside0.mk H
            clear H
            go_wp2
            go_meet
            case rel => exact ⟨_, (((l2.length : Int) != a0)), (by first | rfl | (simp; done) | (simp [*]; done)), H', ⟨by first | omega | exact Nat.le_refl _⟩, by repeat (first | exact Drawn0.refl _ | apply Drawn0.step)⟩
      · rw [if_neg c8] at H
        have c8b0 : (a0 == 16) = false := beq_eq_false_iff_ne.mpr c8
        have c8b1 : (a0 != 16) = true := bne_iff_ne.mpr c8
        have H' := Aside0.mk H
        clear H
        go_wp2
        go_meet
        case rel => exact ⟨_, (true), (by first | rfl | (simp; done) | (simp [*]; done)), H', ⟨by first | omega | exact Nat.le_refl _⟩, by repeat (first | exact Drawn0.refl _ | apply Drawn0.step)⟩
  case rest =>
    clear HC4
    try clear c1
    try clear c2
    try clear p2
    try clear c5
    try clear c5b0
    try clear c5b1
    try clear c6
    try clear c6b0
    try clear c7
    try clear c7b0
    try clear c8
    try clear c8b0
    try clear c8b1
    try clear c9
    try clear c9b0
    try clear c10
    try clear c10b0
    obtain ⟨kq, x27_3, rfl, HA, HJ3, ⟨mc3, rfl⟩⟩ := hcut
    (try simp only [i64_w, i32_w])
    cases kq with
    | zero => exact absurd HA.out (by simp [madrigalref6_GoodIndex.j0])
    | succ kj3 =>
      have H := HA.out
      clear HA
      simp only [madrigalref6_GoodIndex.j0] at H
      by_cases c11 : x27_3 = true
      · subst c11
        have H1 : (some false) = some r := by rw [if_pos rfl] at H; exact H
        clear H
        have H := H1
        clear H1
        obtain rfl := Option.some.inj H
        go_wp2
        go_ret
        exact ⟨by first | rfl | (simp; done) | (simp [*]; done), by repeat (first | exact Drawn0.refl _ | apply Drawn0.step)⟩
      · replace c11 := Bool.eq_false_iff.mpr c11
        subst c11
        have H1 : (madrigalref6_GoodIndex.l0 kj3 l2 0) = some r := by rw [if_neg (show ¬ (false = true) by decide)] at H; exact H
        clear H
        have H := H1
        clear H1
        have H' := Aside0.mk H
        clear H
        go_wp2
        go_loopg [7] kj3 (fun kq v7 w' => ∃ (x7_2 : Int), v7 = .int .i64 x7_2 ∧ Aside0 (madrigalref6_GoodIndex.l0 kq l2 x7_2 = some r) ∧ Aside0 (kq ≤ kj3) ∧ Drawn0 w w')
        case atStart => exact ⟨(0), (by first | rfl | (simp; done) | (simp [*]; done)), H', ⟨Nat.le_refl _⟩, by repeat (first | exact Drawn0.refl _ | apply Drawn0.step)⟩
        case round =>
          clear H'
          try clear c1
          try clear c2
          try clear p2
          try clear c3
          try clear c5
          try clear c5b0
          try clear c5b1
          try clear c6
          try clear c6b0
          try clear c7
          try clear c7b0
          try clear c8
          try clear c8b0
          try clear c8b1
          try clear c9
          try clear c9b0
          try clear c10
          try clear c10b0
          try clear c11
          try clear p2
          obtain ⟨x7_2, rfl, HA, HK2, ⟨m2, rfl⟩⟩ := hrel
          (try simp only [i64_w, i32_w])
          cases gk with
          | zero => exact absurd HA.out (by simp [madrigalref6_GoodIndex.l0])
          | succ k2 =>
            have H := HA.out
            clear HA
            simp only [madrigalref6_GoodIndex.l0] at H
            by_cases c12 : x7_2 < (l2.length : Int)
            · rw [if_pos c12] at H
              have c12b0 : decide (x7_2 < (l2.length : Int)) = true := decide_eq_true c12
              clear c12
              by_cases c13 : 0 ≤ x7_2
              · rw [if_pos c13] at H
                have c13b0 : decide (0 ≤ x7_2) = true := decide_eq_true c13
                clear c13
                by_cases c14 : (rd l2 x7_2) < (-4)
                · rw [if_pos c14] at H
                  have c14b0 : decide ((rd l2 x7_2) < (-4)) = true := decide_eq_true c14
                  clear c14
                  obtain rfl := Option.some.inj H
                  have p424 : 0 ≤ (x7_2 : Int) := of_decide_eq_true (by first | (with_reducible assumption) | assumption)
                  have q424 : x7_2 < (l2.length : Int) := of_decide_eq_true (by first | (with_reducible assumption) | assumption)
                  obtain ⟨ad424, e424, hx424_0⟩ := Kd.at_int HR2.out x7_2 p424 q424
                  cases e424
                  replace p424 := eq_true p424
                  replace q424 := eq_true q424
                  go_wp2
                  go_ret
                  exact ⟨by first | rfl | (simp; done) | (simp [*]; done), by repeat (first | exact Drawn0.refl _ | apply Drawn0.step)⟩
                · rw [if_neg c14] at H
                  have c14b0 : decide ((rd l2 x7_2) < (-4)) = false := decide_eq_false c14
                  clear c14
                  by_cases c15 : (rd l2 x7_2) > 4
                  · rw [if_pos c15] at H
                    have c15b0 : decide (4 < (rd l2 x7_2)) = true := decide_eq_true c15
                    clear c15
                    obtain rfl := Option.some.inj H
                    have p424 : 0 ≤ (x7_2 : Int) := of_decide_eq_true (by first | (with_reducible assumption) | assumption)
                    have q424 : x7_2 < (l2.length : Int) := of_decide_eq_true (by first | (with_reducible assumption) | assumption)
                    obtain ⟨ad424, e424, hx424_0⟩ := Kd.at_int HR2.out x7_2 p424 q424
                    cases e424
                    replace p424 := eq_true p424
                    replace q424 := eq_true q424
                    have p425 : 0 ≤ (x7_2 : Int) := of_decide_eq_true (by first | (with_reducible assumption) | assumption)
                    have q425 : x7_2 < (l2.length : Int) := of_decide_eq_true (by first | (with_reducible assumption) | assumption)
                    obtain ⟨ad425, e425, hx425_0⟩ := Kd.at_int HR2.out x7_2 p425 q425
                    obtain rfl : ad424 = ad425 := (by injection e425)
                    replace p425 := eq_true p425
                    replace q425 := eq_true q425
                    go_wp2
                    go_ret
                    exact ⟨by first | rfl | (simp; done) | (simp [*]; done), by repeat (first | exact Drawn0.refl _ | apply Drawn0.step)⟩
                  · rw [if_neg c15] at H
                    have c15b0 : decide (4 < (rd l2 x7_2)) = false := decide_eq_false c15
                    clear c15
                    have H' := Aside0.mk H
                    clear H
                    have p424 : 0 ≤ (x7_2 : Int) := of_decide_eq_true (by first | (with_reducible assumption) | assumption)
                    have q424 : x7_2 < (l2.length : Int) := of_decide_eq_true (by first | (with_reducible assumption) | assumption)
                    obtain ⟨ad424, e424, hx424_0⟩ := Kd.at_int HR2.out x7_2 p424 q424
                    cases e424
                    replace p424 := eq_true p424
                    replace q424 := eq_true q424
                    have p425 : 0 ≤ (x7_2 : Int) := of_decide_eq_true (by first | (with_reducible assumption) | assumption)
                    have q425 : x7_2 < (l2.length : Int) := of_decide_eq_true (by first | (with_reducible assumption) | assumption)
                    obtain ⟨ad425, e425, hx425_0⟩ := Kd.at_int HR2.out x7_2 p425 q425
                    obtain rfl : ad424 = ad425 := (by injection e425)
                    replace p425 := eq_true p425
                    replace q425 := eq_true q425
                    go_wp2
                    go_roundg k2
                    case measure => have := HJ3.out; have := HK2.out; omega
                    case rel => exact ⟨(wrap64 (x7_2 + 1)), (by first | rfl | (simp; done) | (simp [*]; done)), H', ⟨by have := HJ3.out; have := HK2.out; omega⟩, by repeat (first | exact Drawn0.refl _ | apply Drawn0.step)⟩
              · rw [if_neg c13] at H
                exact absurd H (by simp)
            · rw [if_neg c12] at H
              have c12b0 : decide (x7_2 < (l2.length : Int)) = false := decide_eq_false c12
              clear c12
              obtain rfl := Option.some.inj H
              go_wp2
              go_ret
              exact ⟨by first | rfl | (simp; done) | (simp [*]; done), by repeat (first | exact Drawn0.refl _ | apply Drawn0.step)⟩

end Go.Proofs.Ytdchabinakboeaa.P
