/- The machine side of the laws of one chapter, without conditions: each call of a Go function comes to what the Lean function of its name answers. Written for this claim by a program of the prover. -/
import Derived.Test.YtkhcckemcamcbaaPx0
import Derived.Test.YtkhcckemcamcbaaPx5
import Derived.Test.YtkhcckemcamcbaaPx17
namespace Go.Proofs.Ytkhcckemcamcbaa.P
open Go.RowKit Go.Proofs.YtkhcckemcamcbaaW.PrintWords Go.Proofs.YtkhcckemcamcbaaW.PrintLast Go.Proofs.YtkhcckemcamcbaaW.PrintMore
attribute [local go_sem] max2_int min2_int max_two min_two max_three min_three max_four min_four   -- for this text's walks alone
set_option linter.unusedVariables false
set_option linter.unusedSimpArgs false

/-! ### madrigallaw2_TabsLsf: function 8 -/
mutual
def madrigallaw2_TabsLsf.j0 : Nat → Int → List Int → Bool → Option (Bool)
  | 0, _, _, _ => none
  | k + 1, x0, x5, x26 => if x26 = true then (some ((x5.length : Int) == 0)) else (madrigallaw2_TabsLsf.l0 k x0 x5 0 0)
def madrigallaw2_TabsLsf.l0 : Nat → Int → List Int → Int → Int → Option (Bool)
  | 0, _, _, _, _ => none
  | k + 1, x0, x5, x6, x7 => if x7 < (x5.length : Int) then (if 0 ≤ x7 then (if (wrap64 ((rd x5 x7) - x6)) < 400 then (none) else (madrigallaw2_TabsLsf.l0 k x0 x5 (rd x5 x7) (wrap64 (x7 + 1)))) else (none)) else (if (x5.length : Int) = x0 then (some (decide (x6 < 32368))) else (none))
end
def madrigallaw2_TabsLsf.f (k : Nat) (a0 : Int) (a1 : Int) : Option (Bool) := (madrigallaw2_awake.f k).bind fun t414 => (if t414 = true then ((tabs_Lsf.f k a0 a1).bind fun t415 => (if a0 = 10 then (if a1 < 0 then (madrigallaw2_TabsLsf.j0 k a0 t415 true) else (madrigallaw2_TabsLsf.j0 k a0 t415 (decide (a1 > 15)))) else (if a0 = 16 then (if a1 < 0 then (madrigallaw2_TabsLsf.j0 k a0 t415 true) else (madrigallaw2_TabsLsf.j0 k a0 t415 (decide (a1 > 15)))) else (madrigallaw2_TabsLsf.j0 k a0 t415 true)))) else (none))
theorem madrigallaw2_TabsLsf.mono_l : ∀ k, (∀ y0 y1 y2, LeO (madrigallaw2_TabsLsf.j0 k y0 y1 y2) (madrigallaw2_TabsLsf.j0 (k + 1) y0 y1 y2)) ∧ (∀ y0 y1 y2 y3, LeO (madrigallaw2_TabsLsf.l0 k y0 y1 y2 y3) (madrigallaw2_TabsLsf.l0 (k + 1) y0 y1 y2 y3))
  | 0 => ⟨fun _ _ _ r h => by simp [madrigallaw2_TabsLsf.j0] at h, fun _ _ _ _ r h => by simp [madrigallaw2_TabsLsf.l0] at h⟩
  | k + 1 => by
    obtain ⟨ih0, ih1⟩ := madrigallaw2_TabsLsf.mono_l k
    refine ⟨?_, ?_⟩
    · intro y0 y1 y2
      unfold madrigallaw2_TabsLsf.j0
      repeat' first
      | (with_reducible exact ih0 _ _ _)
      | (with_reducible exact ih1 _ _ _ _)
      | (with_reducible exact madrigallaw2_awake.mono _)
      | (with_reducible exact tabs_Lsf.mono _ _ _)
      | (with_reducible exact LeO.refl _)
      | (with_reducible exact LeO.none _)
      | (with_reducible refine LeO.ite ?_ ?_)
      | (with_reducible refine LeO.bind ?_ (fun _ => ?_))
      | exact ih0 _ _ _
      | exact ih1 _ _ _ _
      | exact madrigallaw2_awake.mono _
      | exact tabs_Lsf.mono _ _ _
      | exact LeO.none _
      | refine LeO.ite ?_ ?_
      | refine LeO.bind ?_ (fun _ => ?_)
    · intro y0 y1 y2 y3
      unfold madrigallaw2_TabsLsf.l0
      repeat' first
      | (with_reducible exact ih0 _ _ _)
      | (with_reducible exact ih1 _ _ _ _)
      | (with_reducible exact madrigallaw2_awake.mono _)
      | (with_reducible exact tabs_Lsf.mono _ _ _)
      | (with_reducible exact LeO.refl _)
      | (with_reducible exact LeO.none _)
      | (with_reducible refine LeO.ite ?_ ?_)
      | (with_reducible refine LeO.bind ?_ (fun _ => ?_))
      | exact ih0 _ _ _
      | exact ih1 _ _ _ _
      | exact madrigallaw2_awake.mono _
      | exact tabs_Lsf.mono _ _ _
      | exact LeO.none _
      | refine LeO.ite ?_ ?_
      | refine LeO.bind ?_ (fun _ => ?_)
theorem madrigallaw2_TabsLsf.mono : ∀ a0 a1 k, LeO (madrigallaw2_TabsLsf.f k a0 a1) (madrigallaw2_TabsLsf.f (k + 1) a0 a1) := by
  intro a0 a1 k
  obtain ⟨ih0, ih1⟩ := madrigallaw2_TabsLsf.mono_l k
  unfold madrigallaw2_TabsLsf.f
  repeat' first
      | (with_reducible exact ih0 _ _ _)
      | (with_reducible exact ih1 _ _ _ _)
      | (with_reducible exact madrigallaw2_awake.mono _)
      | (with_reducible exact tabs_Lsf.mono _ _ _)
      | (with_reducible exact LeO.refl _)
      | (with_reducible exact LeO.none _)
      | (with_reducible refine LeO.ite ?_ ?_)
      | (with_reducible refine LeO.bind ?_ (fun _ => ?_))
      | exact ih0 _ _ _
      | exact ih1 _ _ _ _
      | exact madrigallaw2_awake.mono _
      | exact tabs_Lsf.mono _ _ _
      | exact LeO.none _
      | refine LeO.ite ?_ ?_
      | refine LeO.bind ?_ (fun _ => ?_)
set_option maxHeartbeats 8000000 in
set_option maxRecDepth 100000 in
theorem madrigallaw2_TabsLsf.calls (k : Nat) (a0 : Int) (a1 : Int) (r : Bool) (w : World) (h : madrigallaw2_TabsLsf.f k a0 a1 = some r) :
    Calls Try.prog 8 #[.int .i64 a0, .int .i64 a1] w fun e w' => e = .returned (.bool r) ∧ Below w.heap.size w w' := by
  have HB := Aside0.mk (Below.refl w.heap.size w)
  have H : ((madrigallaw2_awake.f k).bind fun t414 => (if t414 = true then ((tabs_Lsf.f k a0 a1).bind fun t415 => (if a0 = 10 then (if a1 < 0 then (madrigallaw2_TabsLsf.j0 k a0 t415 true) else (madrigallaw2_TabsLsf.j0 k a0 t415 (decide (a1 > 15)))) else (if a0 = 16 then (if a1 < 0 then (madrigallaw2_TabsLsf.j0 k a0 t415 true) else (madrigallaw2_TabsLsf.j0 k a0 t415 (decide (a1 > 15)))) else (madrigallaw2_TabsLsf.j0 k a0 t415 true)))) else (none))) = some r := h
  clear h
  replace H := Option.bind_eq_some_iff.mp H
  obtain ⟨t414, A30, H⟩ := H
  replace H : (if t414 = true then ((tabs_Lsf.f k a0 a1).bind fun t415 => (if a0 = 10 then (if a1 < 0 then (madrigallaw2_TabsLsf.j0 k a0 t415 true) else (madrigallaw2_TabsLsf.j0 k a0 t415 (decide (a1 > 15)))) else (if a0 = 16 then (if a1 < 0 then (madrigallaw2_TabsLsf.j0 k a0 t415 true) else (madrigallaw2_TabsLsf.j0 k a0 t415 (decide (a1 > 15)))) else (madrigallaw2_TabsLsf.j0 k a0 t415 true)))) else (none)) = some r := H
  have A3 := Aside0.mk A30
  clear A30
  by_cases c4 : t414 = true
  · subst c4
    have H1 : ((tabs_Lsf.f k a0 a1).bind fun t415 => (if a0 = 10 then (if a1 < 0 then (madrigallaw2_TabsLsf.j0 k a0 t415 true) else (madrigallaw2_TabsLsf.j0 k a0 t415 (decide (a1 > 15)))) else (if a0 = 16 then (if a1 < 0 then (madrigallaw2_TabsLsf.j0 k a0 t415 true) else (madrigallaw2_TabsLsf.j0 k a0 t415 (decide (a1 > 15)))) else (madrigallaw2_TabsLsf.j0 k a0 t415 true)))) = some r := by rw [if_pos rfl] at H; exact H
    clear H
    have H := H1
    clear H1
    replace H := Option.bind_eq_some_iff.mp H
    obtain ⟨t415, A50, H⟩ := H
    replace H : (if a0 = 10 then (if a1 < 0 then (madrigallaw2_TabsLsf.j0 k a0 t415 true) else (madrigallaw2_TabsLsf.j0 k a0 t415 (decide (a1 > 15)))) else (if a0 = 16 then (if a1 < 0 then (madrigallaw2_TabsLsf.j0 k a0 t415 true) else (madrigallaw2_TabsLsf.j0 k a0 t415 (decide (a1 > 15)))) else (madrigallaw2_TabsLsf.j0 k a0 t415 true))) = some r := H
    have A5 := Aside0.mk A50
    clear A50
    have HC6 := Aside0.mk H
    clear H
    go_enter Try.func8, Try.ntmps8
    go_upto_region 4 with (first | ((with_reducible refine gate_callee (f := 10) rfl ?_); refine goesL_ (some 8) rfl rfl Try.func10 (by kernel_rfl) rfl #[] rfl (by (try simp only [List.map_toArray, List.map_cons, List.map_nil]); first | done | rfl | (simp only [List.length_drop, List.length_take]; rfl)) ?_; (with_reducible refine (madrigallaw2_awake.calls k  true _ A3.out).mono ?_); rintro e w7 ⟨rfl, hb⟩; refine ⟨_, rfl, ?_⟩; have n0_ := Aside0.mk (below_step (by repeat (first | (with_reducible first | exact HB.out | apply below_alloc | apply pw_below_drewN | apply below_drew1) | exact HB.out)) hb); clear HB; have HB := n0_; clear n0_; (try clear hb); (try clear hb2); (try clear hk); (try clear hi); (try clear hge)) | ((with_reducible refine gate_callee (f := 14) rfl ?_); refine goesL_ (some 12) rfl rfl Try.func14 (by kernel_rfl) rfl #[.int .i64 a0, .int .i64 a1] rfl (by (try simp only [List.map_toArray, List.map_cons, List.map_nil]); first | done | rfl | (simp only [List.length_drop, List.length_take]; rfl)) ?_; (with_reducible refine (tabs_Lsf.calls k a0 a1 t415 _ A5.out).mono ?_); rintro e w8 ⟨v416, rfl, ho0, hb⟩; refine ⟨_, rfl, ?_⟩; have n0_ := Aside0.mk (Kd.R_lower ho0 (below_size (by repeat (first | (with_reducible first | exact HB.out | apply below_alloc | apply pw_below_drewN | apply below_drew1) | exact HB.out)))); have n1_ := Aside0.mk (below_step (by repeat (first | (with_reducible first | exact HB.out | apply below_alloc | apply pw_below_drewN | apply below_drew1) | exact HB.out)) hb); clear HB; have HO417 := n0_; have HB := n1_; clear n0_ n1_; (try clear hb); (try clear hb2); (try clear hk); (try clear hi); (try clear hge); (try clear ho0)))
    (try simp only [Act.put, List.setIfInBounds_toArray, List.set_cons_zero, List.set_cons_succ])
    go_cut [26] (fun v26 wc => ∃ (kq : Nat) (x26_5 : Bool), v26 = .bool x26_5 ∧ Aside0 (madrigallaw2_TabsLsf.j0 kq a0 t415 x26_5 = some r) ∧ Aside0 (kq ≤ k) ∧ Aside0 (Kd.R (Kd.int .i64) 2 wc w.heap.size (fun _ => True) v416 t415) ∧ Aside0 (Below w.heap.size w wc))
    case first =>
      have H := HC6.out
      clear HC6
      by_cases c9 : a0 = 10
      · rw [if_pos c9] at H
        have c9b0 : (a0 == 10) = true := beq_iff_eq.mpr c9
        have c9b1 : (a0 != 10) = false := bne_eq_false_iff_eq.mpr c9
        clear c9
        (first | rw [c9b0] | (simp only [i64_w, i32_w]; rw [c9b0]) | skip)
        by_cases c10 : a1 < 0
        · rw [if_pos c10] at H
          have c10b0 : decide (a1 < 0) = true := decide_eq_true c10
          clear c10
          have H' := Aside0.mk H
          clear H
          go_wp2
          refine Met.intro ?_
          go_step
          (repeat apply Exists.intro)
          first | refine ⟨?rel116, rfl⟩ | (refine ⟨?rel116, ?st116⟩; case' st116 => (first | rw [c10b0] | simp only [c10b0]))
          case rel116 => exact ⟨_, (true), (by first | rfl | (simp; done) | (simp [*]; done)), H', ⟨by first | omega | exact Nat.le_refl _⟩, ⟨by (with_reducible repeat (first | apply Kd.R_alloc | apply Kd.R_drewN | apply Kd.R_drew)); exact HO417.out⟩, ⟨by repeat (first | (with_reducible first | exact HB.out | apply below_alloc | apply pw_below_drewN | apply below_drew1) | exact HB.out)⟩⟩
        · rw [if_neg c10] at H
          have c10b0 : decide (a1 < 0) = false := decide_eq_false c10
          clear c10
          have H' := Aside0.mk H
          clear H
          go_wp2
          refine Met.intro ?_
          go_step
          (repeat apply Exists.intro)
          first | refine ⟨?rel124, rfl⟩ | (refine ⟨?rel124, ?st124⟩; case' st124 => (first | rw [c10b0] | simp only [c10b0]))
          case rel124 => exact ⟨_, (decide (a1 > 15)), (by first | rfl | (simp; done) | (simp [*]; done)), H', ⟨by first | omega | exact Nat.le_refl _⟩, ⟨by (with_reducible repeat (first | apply Kd.R_alloc | apply Kd.R_drewN | apply Kd.R_drew)); exact HO417.out⟩, ⟨by repeat (first | (with_reducible first | exact HB.out | apply below_alloc | apply pw_below_drewN | apply below_drew1) | exact HB.out)⟩⟩
      · rw [if_neg c9] at H
        have c9b0 : (a0 == 10) = false := beq_eq_false_iff_ne.mpr c9
        have c9b1 : (a0 != 10) = true := bne_iff_ne.mpr c9
        (first | rw [c9b0] | (simp only [i64_w, i32_w]; rw [c9b0]) | skip)
        by_cases c11 : a0 = 16
        · rw [if_pos c11] at H
          have c11b0 : (a0 == 16) = true := beq_iff_eq.mpr c11
          have c11b1 : (a0 != 16) = false := bne_eq_false_iff_eq.mpr c11
          clear c11
          by_cases c12 : a1 < 0
          · rw [if_pos c12] at H
            have c12b0 : decide (a1 < 0) = true := decide_eq_true c12
            clear c12
            have H' := Aside0.mk H
            clear H
            go_wp2
            refine Met.intro ?_
            go_step
            (repeat apply Exists.intro)
            first | refine ⟨?rel142, rfl⟩ | (refine ⟨?rel142, ?st142⟩; case' st142 => (first | rw [c12b0] | simp only [c12b0]))
            case rel142 => exact ⟨_, (true), (by first | rfl | (simp; done) | (simp [*]; done)), H', ⟨by first | omega | exact Nat.le_refl _⟩, ⟨by (with_reducible repeat (first | apply Kd.R_alloc | apply Kd.R_drewN | apply Kd.R_drew)); exact HO417.out⟩, ⟨by repeat (first | (with_reducible first | exact HB.out | apply below_alloc | apply pw_below_drewN | apply below_drew1) | exact HB.out)⟩⟩
          · rw [if_neg c12] at H
            have c12b0 : decide (a1 < 0) = false := decide_eq_false c12
            clear c12
            have H' := Aside0.mk H
            clear H
            go_wp2
            refine Met.intro ?_
            go_step
            (repeat apply Exists.intro)
            first | refine ⟨?rel150, rfl⟩ | (refine ⟨?rel150, ?st150⟩; case' st150 => (first | rw [c12b0] | simp only [c12b0]))
            case rel150 => exact ⟨_, (decide (a1 > 15)), (by first | rfl | (simp; done) | (simp [*]; done)), H', ⟨by first | omega | exact Nat.le_refl _⟩, ⟨by (with_reducible repeat (first | apply Kd.R_alloc | apply Kd.R_drewN | apply Kd.R_drew)); exact HO417.out⟩, ⟨by repeat (first | (with_reducible first | exact HB.out | apply below_alloc | apply pw_below_drewN | apply below_drew1) | exact HB.out)⟩⟩
        · rw [if_neg c11] at H
          have c11b0 : (a0 == 16) = false := beq_eq_false_iff_ne.mpr c11
          have c11b1 : (a0 != 16) = true := bne_iff_ne.mpr c11
          have H' := Aside0.mk H
          clear H
          go_wp2
          go_meet
          case rel => exact ⟨_, (true), (by first | rfl | (simp; done) | (simp [*]; done)), H', ⟨by first | omega | exact Nat.le_refl _⟩, ⟨by (with_reducible repeat (first | apply Kd.R_alloc | apply Kd.R_drewN | apply Kd.R_drew)); exact HO417.out⟩, ⟨by repeat (first | (with_reducible first | exact HB.out | apply below_alloc | apply pw_below_drewN | apply below_drew1) | exact HB.out)⟩⟩
    case rest =>
      clear HC6
      try clear c1
      try clear p2
      try clear c4
      try clear c8
      try clear c9
      try clear c9b0
      try clear c9b1
      try clear c10
      try clear c10b0
      try clear c11
      try clear c11b0
      try clear c11b1
      try clear c12
      try clear c12b0
      obtain ⟨kq, x26_5, rfl, HA, HJ5, HO_5, HB⟩ := hcut
      (try simp only [i64_w, i32_w])
      cases kq with
      | zero => exact absurd HA.out (by simp [madrigallaw2_TabsLsf.j0])
      | succ kj5 =>
        have H := HA.out
        clear HA
        simp only [madrigallaw2_TabsLsf.j0] at H
        by_cases c13 : x26_5 = true
        · subst c13
          have H1 : (some ((t415.length : Int) == 0)) = some r := by rw [if_pos rfl] at H; exact H
          clear H
          have H := H1
          clear H1
          obtain rfl := Option.some.inj H
          obtain ⟨Ao14, co14, eo14⟩ := Kd.R_slice HO_5.out
          subst eo14
          go_wp2
          go_ret
          exact ⟨by first | rfl | (simp [errW_none, errW_some] <;> rfl) | (simp [*, errW_none, errW_some] <;> rfl), by repeat (first | (with_reducible first | exact HB.out | apply below_alloc | apply pw_below_drewN | apply below_drew1) | exact HB.out)⟩
        · replace c13 := Bool.eq_false_iff.mpr c13
          subst c13
          have H1 : (madrigallaw2_TabsLsf.l0 kj5 a0 t415 0 0) = some r := by rw [if_neg (show ¬ (false = true) by decide)] at H; exact H
          clear H
          have H := H1
          clear H1
          have H' := Aside0.mk H
          clear H
          go_wp2
          go_loopg [6, 7] kj5 (fun kq v6 v7 w' => ∃ (x6_2 : Int) (x7_2 : Int), v6 = .int .i64 x6_2 ∧ v7 = .int .i64 x7_2 ∧ Aside0 (madrigallaw2_TabsLsf.l0 kq a0 t415 x6_2 x7_2 = some r) ∧ Aside0 (kq ≤ kj5) ∧ Aside0 (Kd.R (Kd.int .i64) 2 w' w.heap.size (fun _ => True) v416 t415) ∧ Aside0 (Below w.heap.size w w'))
          case atStart => exact ⟨(0), (0), (by first | rfl | (simp; done) | (simp [*]; done)), (by first | rfl | (simp; done) | (simp [*]; done)), H', ⟨Nat.le_refl _⟩, ⟨by (with_reducible repeat (first | apply Kd.R_alloc | apply Kd.R_drewN | apply Kd.R_drew)); exact HO_5.out⟩, ⟨by repeat (first | (with_reducible first | exact HB.out | apply below_alloc | apply pw_below_drewN | apply below_drew1) | exact HB.out)⟩⟩
          case round =>
            clear H'
            try clear c1
            try clear p2
            try clear c4
            try clear c8
            try clear c9
            try clear c9b0
            try clear c9b1
            try clear c10
            try clear c10b0
            try clear c11
            try clear c11b0
            try clear c11b1
            try clear c12
            try clear c12b0
            try clear c13
            try clear c14
            try clear p2
            obtain ⟨x6_2, x7_2, rfl, rfl, HA, HK2, HO_5, HB⟩ := hrel
            (try simp only [i64_w, i32_w])
            cases gk with
            | zero => exact absurd HA.out (by simp [madrigallaw2_TabsLsf.l0])
            | succ k2 =>
              have H := HA.out
              clear HA
              simp only [madrigallaw2_TabsLsf.l0] at H
              by_cases c15 : x7_2 < (t415.length : Int)
              · rw [if_pos c15] at H
                have c15b0 : decide (x7_2 < (t415.length : Int)) = true := decide_eq_true c15
                clear c15
                by_cases c16 : 0 ≤ x7_2
                · rw [if_pos c16] at H
                  have c16b0 : decide (0 ≤ x7_2) = true := decide_eq_true c16
                  clear c16
                  by_cases c17 : (wrap64 ((rd t415 x7_2) - x6_2)) < 400
                  · rw [if_pos c17] at H
                    exact absurd H (by simp)
                  · rw [if_neg c17] at H
                    have c17b0 : decide ((wrap64 ((rd t415 x7_2) - x6_2)) < 400) = false := decide_eq_false c17
                    clear c17
                    have H' := Aside0.mk H
                    clear H
                    obtain ⟨Ao18, co18, eo18⟩ := Kd.R_slice HO_5.out
                    subst eo18
                    have p418 : 0 ≤ (x7_2 : Int) := of_decide_eq_true (by first | (with_reducible assumption) | assumption)
                    have q418 : x7_2 < (t415.length : Int) := of_decide_eq_true (by first | (with_reducible assumption) | assumption)
                    obtain ⟨ad418, e418, hx418_0⟩ := Kd.at_int (Kd.R_reads' HO_5.out).2.2 x7_2 p418 q418
                    cases e418
                    replace p418 := eq_true p418
                    replace q418 := eq_true q418
                    have p419 : 0 ≤ (x7_2 : Int) := of_decide_eq_true (by first | (with_reducible assumption) | assumption)
                    have q419 : x7_2 < (t415.length : Int) := of_decide_eq_true (by first | (with_reducible assumption) | assumption)
                    obtain ⟨ad419, e419, hx419_0⟩ := Kd.at_int (Kd.R_reads' HO_5.out).2.2 x7_2 p419 q419
                    obtain rfl : ad418 = ad419 := (by injection e419)
                    replace p419 := eq_true p419
                    replace q419 := eq_true q419
                    go_wp2
                    go_roundg k2
                    case measure => have := HJ5.out; have := HK2.out; omega
                    case rel => exact ⟨(rd t415 x7_2), (wrap64 (x7_2 + 1)), (by first | rfl | (simp; done) | (simp [*]; done)), (by first | rfl | (simp; done) | (simp [*]; done)), H', ⟨by have := HJ5.out; have := HK2.out; omega⟩, ⟨by (with_reducible repeat (first | apply Kd.R_alloc | apply Kd.R_drewN | apply Kd.R_drew)); exact HO_5.out⟩, ⟨by repeat (first | (with_reducible first | exact HB.out | apply below_alloc | apply pw_below_drewN | apply below_drew1) | exact HB.out)⟩⟩
                · rw [if_neg c16] at H
                  exact absurd H (by simp)
              · rw [if_neg c15] at H
                have c15b0 : decide (x7_2 < (t415.length : Int)) = false := decide_eq_false c15
                clear c15
                by_cases c19 : (t415.length : Int) = a0
                · rw [if_pos c19] at H
                  have c19b0 : ((t415.length : Int) == a0) = true := beq_iff_eq.mpr c19
                  have c19b1 : ((t415.length : Int) != a0) = false := bne_eq_false_iff_eq.mpr c19
                  clear c19
                  obtain rfl := Option.some.inj H
                  obtain ⟨Ao20, co20, eo20⟩ := Kd.R_slice HO_5.out
                  subst eo20
                  go_wp2
                  go_ret
                  exact ⟨by first | rfl | (simp [errW_none, errW_some] <;> rfl) | (simp [*, errW_none, errW_some] <;> rfl), by repeat (first | (with_reducible first | exact HB.out | apply below_alloc | apply pw_below_drewN | apply below_drew1) | exact HB.out)⟩
                · rw [if_neg c19] at H
                  exact absurd H (by simp)
  · replace c4 := Bool.eq_false_iff.mpr c4
    subst c4
    have H1 : (none) = some r := by rw [if_neg (show ¬ (false = true) by decide)] at H; exact H
    clear H
    have H := H1
    clear H1
    exact absurd H (by simp)

/-- THE ONE PURE STATEMENT of madrigallaw2_TabsLsf. -/
def madrigallaw2_TabsLsf.Pure : Prop := ∀ (a0 : Int) (a1 : Int), (Lit.int .i64 a0).wf = true → (Lit.int .i64 a1).wf = true → ∃ k, madrigallaw2_TabsLsf.f k a0 a1 = some true
theorem madrigallaw2_TabsLsf.walk (P : madrigallaw2_TabsLsf.Pure) (a0 : Int) (a1 : Int) (w : World) (w0 : (Lit.int .i64 a0).wf = true) (w1 : (Lit.int .i64 a1).wf = true) :
    Calls Try.prog 8 #[.int .i64 a0, .int .i64 a1] w fun e w' => e = .returned (.bool true) ∧ Below w.heap.size w w' := by
  obtain ⟨k, h⟩ := P a0 a1 w0 w1
  refine (madrigallaw2_TabsLsf.calls k a0 a1 true w h).mono ?_
  rintro e w' ⟨rfl, hd⟩
  exact ⟨rfl, hd⟩

end Go.Proofs.Ytkhcckemcamcbaa.P
