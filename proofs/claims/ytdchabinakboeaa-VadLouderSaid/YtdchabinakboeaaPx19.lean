/- The machine side of the laws of one chapter, without conditions: each call of a Go function comes to what the Lean function of its name answers. Written for this claim by a program of the prover. -/
import Derived.Test.YtdchabinakboeaaPx0
import Derived.Test.YtdchabinakboeaaPx5
import Derived.Test.YtdchabinakboeaaPx6
import Derived.Test.YtdchabinakboeaaPx7
import Derived.Test.YtdchabinakboeaaPx9
import Derived.Test.YtdchabinakboeaaPx10
namespace Go.Proofs.Ytdchabinakboeaa.P
open Go.RowKit Go.Proofs.YtdchabinakboeaaW.PrintWords Go.Proofs.YtdchabinakboeaaW.PrintLast Go.Proofs.YtdchabinakboeaaW.PrintMore
attribute [local go_sem] max2_int min2_int max_two min_two max_three min_three max_four min_four   -- for this text's walks alone
set_option linter.unusedVariables false
set_option linter.unusedSimpArgs false

/-! ### madrigallaw13_VadLouder: function 6 -/
mutual
def madrigallaw13_VadLouder.j0 : Nat → List Int → List (List Int) → Bool → Option (Bool)
  | 0, _, _, _ => none
  | k + 1, x0, x1, x20 => if x20 = true then (some true) else (madrigallaw13_VadLouder.l0 k x0 x1 ([] : List Int) 0)
def madrigallaw13_VadLouder.l0 : Nat → List Int → List (List Int) → List Int → Int → Option (Bool)
  | 0, _, _, _, _ => none
  | k + 1, x0, x1, x5, x6 => if x6 < (x0.length : Int) then (if 0 ≤ x6 then (if (rd x0 x6) < (-16383) then (some true) else (if (rd x0 x6) > 16383 then (some true) else (if x5.length < 17592186044416 then (madrigallaw13_VadLouder.l0 k x0 x1 (x5 ++ [wrap64 (2 * (rd x0 x6))]) (wrap64 (x6 + 1))) else (none)))) else (none)) else ((vad_Level.f k x0).bind fun t270 => ((vad_Level.f k x5).bind fun t271 => (if t271 < t270 then (madrigallaw13_VadLouder.j2 k x1 true) else (madrigallaw13_VadLouder.j2 k x1 (decide (t271 > (wrap64 (t270 + 514))))))))
def madrigallaw13_VadLouder.j2 : Nat → List (List Int) → Bool → Option (Bool)
  | 0, _, _ => none
  | k + 1, x1, x59 => if x59 = true then (none) else ((vad_New.f).bind fun bt272 => (madrigallaw13_VadLouder.l1 k x1 0 bt272.1 bt272.2))
def madrigallaw13_VadLouder.l1 : Nat → List (List Int) → Int → Int → Int → Option (Bool)
  | 0, _, _, _, _ => none
  | k + 1, x1, x10, x275000, x275001 => if x10 < (x1.length : Int) then (if 0 ≤ x10 then ((vad_Meter_Step.f k x275000 x275001 (rd_L1 x1 x10)).bind fun bt276 => ((vad_Meter_Floor.f bt276.2.1 bt276.2.2).bind fun bt279 => ((vad_Level.f k (rd_L1 x1 x10)).bind fun t283 => (if bt279.1 > t283 then (none) else ((vad_Meter_Floor.f bt279.2.1 bt279.2.2).bind fun bt284 => (if bt284.1 < 0 then (none) else (madrigallaw13_VadLouder.l1 k x1 (wrap64 (x10 + 1)) bt284.2.1 bt284.2.2))))))) else (none)) else (some true)
end
def madrigallaw13_VadLouder.f (k : Nat) (l0 : List Int) (l1 : List (List Int)) : Option (Bool) := (madrigallaw13_awake.f k).bind fun t263 => (if t263 = true then (if (l0.length : Int) > 960 then (madrigallaw13_VadLouder.j0 k l0 l1 true) else (madrigallaw13_VadLouder.j0 k l0 l1 (decide ((l1.length : Int) > 30)))) else (none))
theorem madrigallaw13_VadLouder.mono_l : ∀ k, (∀ y0 y1 y2, LeO (madrigallaw13_VadLouder.j0 k y0 y1 y2) (madrigallaw13_VadLouder.j0 (k + 1) y0 y1 y2)) ∧ (∀ y0 y1 y2 y3, LeO (madrigallaw13_VadLouder.l0 k y0 y1 y2 y3) (madrigallaw13_VadLouder.l0 (k + 1) y0 y1 y2 y3)) ∧ (∀ y0 y1, LeO (madrigallaw13_VadLouder.j2 k y0 y1) (madrigallaw13_VadLouder.j2 (k + 1) y0 y1)) ∧ (∀ y0 y1 y2 y3, LeO (madrigallaw13_VadLouder.l1 k y0 y1 y2 y3) (madrigallaw13_VadLouder.l1 (k + 1) y0 y1 y2 y3))
  | 0 => ⟨fun _ _ _ r h => by simp [madrigallaw13_VadLouder.j0] at h, fun _ _ _ _ r h => by simp [madrigallaw13_VadLouder.l0] at h, fun _ _ r h => by simp [madrigallaw13_VadLouder.j2] at h, fun _ _ _ _ r h => by simp [madrigallaw13_VadLouder.l1] at h⟩
  | k + 1 => by
    obtain ⟨ih0, ih1, ih2, ih3⟩ := madrigallaw13_VadLouder.mono_l k
    refine ⟨?_, ?_, ?_, ?_⟩
    · intro y0 y1 y2
      unfold madrigallaw13_VadLouder.j0
      repeat' first
      | (with_reducible exact ih0 _ _ _)
      | (with_reducible exact ih1 _ _ _ _)
      | (with_reducible exact ih2 _ _)
      | (with_reducible exact ih3 _ _ _ _)
      | (with_reducible exact madrigallaw13_awake.mono _)
      | (with_reducible exact vad_Level.mono _ _)
      | (with_reducible exact vad_Meter_Step.mono _ _ _ _)
      | (with_reducible exact LeO.refl _)
      | (with_reducible exact LeO.none _)
      | (with_reducible refine LeO.ite ?_ ?_)
      | (with_reducible refine LeO.bind ?_ (fun _ => ?_))
      | exact ih0 _ _ _
      | exact ih1 _ _ _ _
      | exact ih2 _ _
      | exact ih3 _ _ _ _
      | exact madrigallaw13_awake.mono _
      | exact vad_Level.mono _ _
      | exact vad_Meter_Step.mono _ _ _ _
      | exact LeO.none _
      | refine LeO.ite ?_ ?_
      | refine LeO.bind ?_ (fun _ => ?_)
    · intro y0 y1 y2 y3
      unfold madrigallaw13_VadLouder.l0
      repeat' first
      | (with_reducible exact ih0 _ _ _)
      | (with_reducible exact ih1 _ _ _ _)
      | (with_reducible exact ih2 _ _)
      | (with_reducible exact ih3 _ _ _ _)
      | (with_reducible exact madrigallaw13_awake.mono _)
      | (with_reducible exact vad_Level.mono _ _)
      | (with_reducible exact vad_Meter_Step.mono _ _ _ _)
      | (with_reducible exact LeO.refl _)
      | (with_reducible exact LeO.none _)
      | (with_reducible refine LeO.ite ?_ ?_)
      | (with_reducible refine LeO.bind ?_ (fun _ => ?_))
      | exact ih0 _ _ _
      | exact ih1 _ _ _ _
      | exact ih2 _ _
      | exact ih3 _ _ _ _
      | exact madrigallaw13_awake.mono _
      | exact vad_Level.mono _ _
      | exact vad_Meter_Step.mono _ _ _ _
      | exact LeO.none _
      | refine LeO.ite ?_ ?_
      | refine LeO.bind ?_ (fun _ => ?_)
    · intro y0 y1
      unfold madrigallaw13_VadLouder.j2
      repeat' first
      | (with_reducible exact ih0 _ _ _)
      | (with_reducible exact ih1 _ _ _ _)
      | (with_reducible exact ih2 _ _)
      | (with_reducible exact ih3 _ _ _ _)
      | (with_reducible exact madrigallaw13_awake.mono _)
      | (with_reducible exact vad_Level.mono _ _)
      | (with_reducible exact vad_Meter_Step.mono _ _ _ _)
      | (with_reducible exact LeO.refl _)
      | (with_reducible exact LeO.none _)
      | (with_reducible refine LeO.ite ?_ ?_)
      | (with_reducible refine LeO.bind ?_ (fun _ => ?_))
      | exact ih0 _ _ _
      | exact ih1 _ _ _ _
      | exact ih2 _ _
      | exact ih3 _ _ _ _
      | exact madrigallaw13_awake.mono _
      | exact vad_Level.mono _ _
      | exact vad_Meter_Step.mono _ _ _ _
      | exact LeO.none _
      | refine LeO.ite ?_ ?_
      | refine LeO.bind ?_ (fun _ => ?_)
    · intro y0 y1 y2 y3
      unfold madrigallaw13_VadLouder.l1
      repeat' first
      | (with_reducible exact ih0 _ _ _)
      | (with_reducible exact ih1 _ _ _ _)
      | (with_reducible exact ih2 _ _)
      | (with_reducible exact ih3 _ _ _ _)
      | (with_reducible exact madrigallaw13_awake.mono _)
      | (with_reducible exact vad_Level.mono _ _)
      | (with_reducible exact vad_Meter_Step.mono _ _ _ _)
      | (with_reducible exact LeO.refl _)
      | (with_reducible exact LeO.none _)
      | (with_reducible refine LeO.ite ?_ ?_)
      | (with_reducible refine LeO.bind ?_ (fun _ => ?_))
      | exact ih0 _ _ _
      | exact ih1 _ _ _ _
      | exact ih2 _ _
      | exact ih3 _ _ _ _
      | exact madrigallaw13_awake.mono _
      | exact vad_Level.mono _ _
      | exact vad_Meter_Step.mono _ _ _ _
      | exact LeO.none _
      | refine LeO.ite ?_ ?_
      | refine LeO.bind ?_ (fun _ => ?_)
theorem madrigallaw13_VadLouder.mono : ∀ a0 a1 k, LeO (madrigallaw13_VadLouder.f k a0 a1) (madrigallaw13_VadLouder.f (k + 1) a0 a1) := by
  intro a0 a1 k
  obtain ⟨ih0, ih1, ih2, ih3⟩ := madrigallaw13_VadLouder.mono_l k
  unfold madrigallaw13_VadLouder.f
  repeat' first
      | (with_reducible exact ih0 _ _ _)
      | (with_reducible exact ih1 _ _ _ _)
      | (with_reducible exact ih2 _ _)
      | (with_reducible exact ih3 _ _ _ _)
      | (with_reducible exact madrigallaw13_awake.mono _)
      | (with_reducible exact vad_Level.mono _ _)
      | (with_reducible exact vad_Meter_Step.mono _ _ _ _)
      | (with_reducible exact LeO.refl _)
      | (with_reducible exact LeO.none _)
      | (with_reducible refine LeO.ite ?_ ?_)
      | (with_reducible refine LeO.bind ?_ (fun _ => ?_))
      | exact ih0 _ _ _
      | exact ih1 _ _ _ _
      | exact ih2 _ _
      | exact ih3 _ _ _ _
      | exact madrigallaw13_awake.mono _
      | exact vad_Level.mono _ _
      | exact vad_Meter_Step.mono _ _ _ _
      | exact LeO.none _
      | refine LeO.ite ?_ ?_
      | refine LeO.bind ?_ (fun _ => ?_)
def madrigallaw13_VadLouder.T21 : Bool × List (List Nat × List Nat) := (true, [([], []), ([0], [0]), ([], []), ([], []), ([2, 3], [2, 3]), ([4], [4]), ([5, 1], [5]), ([1, 6], [1, 6]), ([7, 6], [7]), ([8], [8]), ([9, 8, 8], [8, 9]), ([10, 8], [8, 10]), ([8, 11], [8, 11])])
def madrigallaw13_VadLouder.B21 : List Nat := [0, 1, 0, 0, 12, 28, 63, 127, 255, 511, 1023, 2047, 4095]
theorem madrigallaw13_VadLouder.tab21 : rtab .any (opsOf Try.f6 21) = madrigallaw13_VadLouder.T21 := by kernel_rfl
theorem madrigallaw13_VadLouder.bits21 : waitsOk madrigallaw13_VadLouder.T21.2 madrigallaw13_VadLouder.B21 = true := by kernel_rfl
set_option maxHeartbeats 8000000 in
set_option maxRecDepth 100000 in
theorem madrigallaw13_VadLouder.calls (k : Nat) (A0 : Option Addr) (c0 : Nat) (l0 : List Int) (A1 : Option Addr) (c1 : Nat) (l1 : List (List Int)) (r : Bool) (w : World) (hr0 : Kd.C (Kd.int .i64) w A0 l0.length l0) (hc0 : l0.length ≤ c0) (hr1 : Kd.C (Kd.slice 2 (Kd.int .i64)) w A1 l1.length l1) (hc1 : l1.length ≤ c1) (h : madrigallaw13_VadLouder.f k l0 l1 = some r) :
    Calls Try.prog 6 #[.slice A0 l0.length c0, .slice A1 l1.length c1] w fun e w' => e = .returned (.bool r) ∧ Below w.heap.size w w' := by
  have HR0 := Aside0.mk hr0
  have HC0 := Aside0.mk hc0
  clear hr0 hc0
  have HR1 := Aside0.mk hr1
  have HC1 := Aside0.mk hc1
  clear hr1 hc1
  have HB := Aside0.mk (Below.refl w.heap.size w)
  have H : ((madrigallaw13_awake.f k).bind fun t263 => (if t263 = true then (if (l0.length : Int) > 960 then (madrigallaw13_VadLouder.j0 k l0 l1 true) else (madrigallaw13_VadLouder.j0 k l0 l1 (decide ((l1.length : Int) > 30)))) else (none))) = some r := h
  clear h
  replace H := Option.bind_eq_some_iff.mp H
  obtain ⟨t263, A30, H⟩ := H
  replace H : (if t263 = true then (if (l0.length : Int) > 960 then (madrigallaw13_VadLouder.j0 k l0 l1 true) else (madrigallaw13_VadLouder.j0 k l0 l1 (decide ((l1.length : Int) > 30)))) else (none)) = some r := H
  have A3 := Aside0.mk A30
  clear A30
  by_cases c4 : t263 = true
  · subst c4
    have H1 : (if (l0.length : Int) > 960 then (madrigallaw13_VadLouder.j0 k l0 l1 true) else (madrigallaw13_VadLouder.j0 k l0 l1 (decide ((l1.length : Int) > 30)))) = some r := by rw [if_pos rfl] at H; exact H
    clear H
    have H := H1
    clear H1
    have HC5 := Aside0.mk H
    clear H
    go_enter Try.func6, Try.ntmps6
    go_upto_region 3 with (first | ((with_reducible refine gate_callee (f := 14) rfl ?_); refine goesL_ (some 11) rfl rfl Try.func14 (by kernel_rfl) rfl #[] rfl (by (try simp only [List.map_toArray, List.map_cons, List.map_nil]); first | done | rfl | (simp only [List.length_drop, List.length_take]; rfl)) ?_; (with_reducible refine (madrigallaw13_awake.calls k  true _ A3.out).mono ?_); rintro e w6 ⟨rfl, hb⟩; refine ⟨_, rfl, ?_⟩; have n0_ := Aside0.mk (below_step (by repeat (first | (with_reducible first | exact HB.out | apply below_alloc | apply pw_below_drewN | apply below_drew1) | exact HB.out)) hb); clear HB; have HB := n0_; clear n0_; (try clear hb); (try clear hb2); (try clear hk); (try clear hi); (try clear hge)))
    (try simp only [Act.put, List.setIfInBounds_toArray, List.set_cons_zero, List.set_cons_succ])
    go_cut [20] (fun v20 wc => ∃ (kq : Nat) (x20_4 : Bool), v20 = .bool x20_4 ∧ Aside0 (madrigallaw13_VadLouder.j0 kq l0 l1 x20_4 = some r) ∧ Aside0 (kq ≤ k) ∧ Aside0 (Below w.heap.size w wc))
    case first =>
      have H := HC5.out
      clear HC5
      by_cases c7 : (l0.length : Int) > 960
      · rw [if_pos c7] at H
        have c7b0 : decide (960 < (l0.length : Int)) = true := decide_eq_true c7
        have c7b1 : decide (960 < l0.length) = true := decide_eq_true (by omega)
        clear c7
        (first | rw [c7b0] | (simp only [i64_w, i32_w]; rw [c7b0]) | skip)
        have H' := Aside0.mk H
        clear H
        go_wp2
        go_meet
        case rel => exact ⟨_, (true), (by first | rfl | (simp; done) | (simp [*]; done)), H', ⟨by first | omega | exact Nat.le_refl _⟩, ⟨by repeat (first | (with_reducible first | exact HB.out | apply below_alloc | apply pw_below_drewN | apply below_drew1) | exact HB.out)⟩⟩
      · rw [if_neg c7] at H
        have c7b0 : decide (960 < (l0.length : Int)) = false := decide_eq_false c7
        have c7b1 : decide (960 < l0.length) = false := decide_eq_false (by omega)
        clear c7
        (first | rw [c7b0] | (simp only [i64_w, i32_w]; rw [c7b0]) | skip)
        have H' := Aside0.mk H
        clear H
        go_wp2
        go_meet
        case rel => exact ⟨_, (decide ((l1.length : Int) > 30)), (by first | rfl | (simp; done) | (simp [*]; done)), H', ⟨by first | omega | exact Nat.le_refl _⟩, ⟨by repeat (first | (with_reducible first | exact HB.out | apply below_alloc | apply pw_below_drewN | apply below_drew1) | exact HB.out)⟩⟩
    case rest =>
      clear HC5
      try clear c1
      try clear p2
      try clear c4
      try clear c6
      try clear c7
      try clear c7b0
      try clear c7b1
      obtain ⟨kq, x20_4, rfl, HA, HJ4, HB⟩ := hcut
      (try simp only [i64_w, i32_w])
      cases kq with
      | zero => exact absurd HA.out (by simp [madrigallaw13_VadLouder.j0])
      | succ kj4 =>
        have H := HA.out
        clear HA
        simp only [madrigallaw13_VadLouder.j0] at H
        by_cases c8 : x20_4 = true
        · subst c8
          have H1 : (some true) = some r := by rw [if_pos rfl] at H; exact H
          clear H
          have H := H1
          clear H1
          obtain rfl := Option.some.inj H
          go_wp2
          go_ret
          exact ⟨by first | rfl | (simp [errW_none, errW_some] <;> rfl) | (simp [*, errW_none, errW_some] <;> rfl), by repeat (first | (with_reducible first | exact HB.out | apply below_alloc | apply pw_below_drewN | apply below_drew1) | exact HB.out)⟩
        · replace c8 := Bool.eq_false_iff.mpr c8
          subst c8
          have H1 : (madrigallaw13_VadLouder.l0 kj4 l0 l1 ([] : List Int) 0) = some r := by rw [if_neg (show ¬ (false = true) by decide)] at H; exact H
          clear H
          have H := H1
          clear H1
          have H' := Aside0.mk H
          clear H
          go_wp2
          go_loopg [5, 6] kj4 (fun kq v5 v6 w' => ∃ (x5_2 : List Int) (x6_2 : Int), v6 = .int .i64 x6_2 ∧ Aside0 (madrigallaw13_VadLouder.l0 kq l0 l1 x5_2 x6_2 = some r) ∧ Aside0 (kq ≤ kj4) ∧ Aside0 (Kd.R (Kd.int .i64) 2 w' w.heap.size (fun _ => True) v5 x5_2) ∧ Aside0 (Below w.heap.size w w'))
          case atStart => exact ⟨(([] : List Int)), (0), (by first | rfl | (simp; done) | (simp [*]; done)), H', ⟨Nat.le_refl _⟩, ⟨by first | exact Kd.R_nil _ _ _ _ _ | exact Kd.N_nil _ _ _ _ _ | exact Kd.V_nil _ _ _ _ _ | exact Kd.Q_nil _ _ _ _ _ | exact Kd.S_nil _ _ _ _ _⟩, ⟨by repeat (first | (with_reducible first | exact HB.out | apply below_alloc | apply pw_below_drewN | apply below_drew1) | exact HB.out)⟩⟩
          case round =>
            clear H'
            try clear c1
            try clear p2
            try clear c4
            try clear c6
            try clear c7
            try clear c7b0
            try clear c7b1
            try clear c8
            try clear p2
            obtain ⟨x5_2, x6_2, rfl, HA, HK2, HO_5, HB⟩ := hrel
            (try simp only [i64_w, i32_w])
            cases gk with
            | zero => exact absurd HA.out (by simp [madrigallaw13_VadLouder.l0])
            | succ k2 =>
              have H := HA.out
              clear HA
              simp only [madrigallaw13_VadLouder.l0] at H
              by_cases c9 : x6_2 < (l0.length : Int)
              · rw [if_pos c9] at H
                have c9b0 : decide (x6_2 < (l0.length : Int)) = true := decide_eq_true c9
                clear c9
                by_cases c10 : 0 ≤ x6_2
                · rw [if_pos c10] at H
                  have c10b0 : decide (0 ≤ x6_2) = true := decide_eq_true c10
                  clear c10
                  by_cases c11 : (rd l0 x6_2) < (-16383)
                  · rw [if_pos c11] at H
                    have c11b0 : decide ((rd l0 x6_2) < (-16383)) = true := decide_eq_true c11
                    clear c11
                    obtain rfl := Option.some.inj H
                    have p264 : 0 ≤ (x6_2 : Int) := of_decide_eq_true (by first | (with_reducible assumption) | assumption)
                    have q264 : x6_2 < (l0.length : Int) := of_decide_eq_true (by first | (with_reducible assumption) | assumption)
                    obtain ⟨ad264, e264, hx264_0⟩ := Kd.at_int HR0.out x6_2 p264 q264
                    cases e264
                    replace hx264_0 := (HB.out.cell (World.block_lt_of_cell? w _ hx264_0)).trans hx264_0
                    replace p264 := eq_true p264
                    replace q264 := eq_true q264
                    go_wp2
                    go_ret
                    exact ⟨by first | rfl | (simp [errW_none, errW_some] <;> rfl) | (simp [*, errW_none, errW_some] <;> rfl), by repeat (first | (with_reducible first | exact HB.out | apply below_alloc | apply pw_below_drewN | apply below_drew1) | exact HB.out)⟩
                  · rw [if_neg c11] at H
                    have c11b0 : decide ((rd l0 x6_2) < (-16383)) = false := decide_eq_false c11
                    clear c11
                    by_cases c12 : (rd l0 x6_2) > 16383
                    · rw [if_pos c12] at H
                      have c12b0 : decide (16383 < (rd l0 x6_2)) = true := decide_eq_true c12
                      clear c12
                      obtain rfl := Option.some.inj H
                      have p264 : 0 ≤ (x6_2 : Int) := of_decide_eq_true (by first | (with_reducible assumption) | assumption)
                      have q264 : x6_2 < (l0.length : Int) := of_decide_eq_true (by first | (with_reducible assumption) | assumption)
                      obtain ⟨ad264, e264, hx264_0⟩ := Kd.at_int HR0.out x6_2 p264 q264
                      cases e264
                      replace hx264_0 := (HB.out.cell (World.block_lt_of_cell? w _ hx264_0)).trans hx264_0
                      replace p264 := eq_true p264
                      replace q264 := eq_true q264
                      have p265 : 0 ≤ (x6_2 : Int) := of_decide_eq_true (by first | (with_reducible assumption) | assumption)
                      have q265 : x6_2 < (l0.length : Int) := of_decide_eq_true (by first | (with_reducible assumption) | assumption)
                      obtain ⟨ad265, e265, hx265_0⟩ := Kd.at_int HR0.out x6_2 p265 q265
                      obtain rfl : ad264 = ad265 := (by injection e265)
                      replace hx265_0 := (HB.out.cell (World.block_lt_of_cell? w _ hx265_0)).trans hx265_0
                      replace p265 := eq_true p265
                      replace q265 := eq_true q265
                      go_wp2
                      go_ret
                      exact ⟨by first | rfl | (simp [errW_none, errW_some] <;> rfl) | (simp [*, errW_none, errW_some] <;> rfl), by repeat (first | (with_reducible first | exact HB.out | apply below_alloc | apply pw_below_drewN | apply below_drew1) | exact HB.out)⟩
                    · rw [if_neg c12] at H
                      have c12b0 : decide (16383 < (rd l0 x6_2)) = false := decide_eq_false c12
                      clear c12
                      by_cases c13 : x5_2.length < 17592186044416
                      · rw [if_pos c13] at H
                        have LMc13 := Aside0.mk c13
                        clear c13
                        obtain ⟨y267, hy267⟩ : ∃ y_ : List Int, y_ = (x5_2 ++ [wrap64 (2 * (rd l0 x6_2))]) := ⟨_, rfl⟩
                        replace H : (madrigallaw13_VadLouder.l0 k2 l0 l1 y267 (wrap64 (x6_2 + 1))) = some r := by first | (rw [hy267]; with_reducible exact H) | (have H2_ := (Option.bind_some _ _).symm.trans H; rw [hy267]; with_reducible exact H2_) | (have H2_ := (Option.bind_some _ _).symm.trans H; with_reducible exact H2_) | with_reducible exact H | (rw [hy267]; exact H) | exact H
                        have Ny267 := Aside0.mk hy267
                        clear hy267
                        have H' := Aside0.mk H
                        clear H
                        have p264 : 0 ≤ (x6_2 : Int) := of_decide_eq_true (by first | (with_reducible assumption) | assumption)
                        have q264 : x6_2 < (l0.length : Int) := of_decide_eq_true (by first | (with_reducible assumption) | assumption)
                        obtain ⟨ad264, e264, hx264_0⟩ := Kd.at_int HR0.out x6_2 p264 q264
                        cases e264
                        replace hx264_0 := (HB.out.cell (World.block_lt_of_cell? w _ hx264_0)).trans hx264_0
                        replace p264 := eq_true p264
                        replace q264 := eq_true q264
                        have p265 : 0 ≤ (x6_2 : Int) := of_decide_eq_true (by first | (with_reducible assumption) | assumption)
                        have q265 : x6_2 < (l0.length : Int) := of_decide_eq_true (by first | (with_reducible assumption) | assumption)
                        obtain ⟨ad265, e265, hx265_0⟩ := Kd.at_int HR0.out x6_2 p265 q265
                        obtain rfl : ad264 = ad265 := (by injection e265)
                        replace hx265_0 := (HB.out.cell (World.block_lt_of_cell? w _ hx265_0)).trans hx265_0
                        replace p265 := eq_true p265
                        replace q265 := eq_true q265
                        have p266 : 0 ≤ (x6_2 : Int) := of_decide_eq_true (by first | (with_reducible assumption) | assumption)
                        have q266 : x6_2 < (l0.length : Int) := of_decide_eq_true (by first | (with_reducible assumption) | assumption)
                        obtain ⟨ad266, e266, hx266_0⟩ := Kd.at_int HR0.out x6_2 p266 q266
                        obtain rfl : ad264 = ad266 := (by injection e266)
                        replace hx266_0 := (HB.out.cell (World.block_lt_of_cell? w _ hx266_0)).trans hx266_0
                        replace p266 := eq_true p266
                        replace q266 := eq_true q266
                        go_wp2_with (first | ((with_reducible refine gate_builtin (b := .append) (xs := #[.tmp 39, .tmp 45]) rfl ?_); (try (refine gate_guard (by rfl) ?_; dsimp only)); at_builtin; refine Kd.R_append (Kd.int .i64) (w0 := w) w.heap.size rfl (.tmp 39) (.tmp 45) 28 2 (.int .i64 0) 8 rfl Try.underlying28 info2 rfl (by decide) (by omega) u5 x5_2 (wrap64 (2 * (rd l0 x6_2))) [.int .i64 (wrap64 (2 * (rd l0 x6_2)))] (fun _ => True) (fun _ => False) rfl rfl ?aP (fun _ hk => hk.elim) ?aF ?aO ?aB ?aS ?aL ?_; (case aP => exact rfl); (case aB => exact (by repeat (first | (with_reducible first | exact HB.out | apply below_alloc | apply pw_below_drewN | apply below_drew1) | exact HB.out))); (case aF => exact (fun _ _ => trivial)); (case aO => exact (by (with_reducible repeat (first | apply Kd.R_alloc | apply Kd.R_drewN | apply Kd.R_drew)); exact HO_5.out)); (case aS => exact (below_size (by repeat (first | (with_reducible first | exact HB.out | apply below_alloc | apply pw_below_drewN | apply below_drew1) | exact HB.out)))); (case aL => have := LMc13.out; omega); intro v268 w14 ho hb hg hat; rw [← Ny267.out] at ho; have n0_ := Aside0.mk (hb); have n1_ := Aside0.mk (ho); clear HB; clear HO_5; have HB := n0_; have HO269 := n1_; clear n0_ n1_; clear ho hb hg hat))
                        go_roundg k2
                        case measure => have := HJ4.out; have := HK2.out; omega
                        case rel => exact ⟨(y267), (wrap64 (x6_2 + 1)), (by first | rfl | (simp; done) | (simp [*]; done)), H', ⟨by have := HJ4.out; have := HK2.out; omega⟩, ⟨by (with_reducible repeat (first | apply Kd.R_alloc | apply Kd.R_drewN | apply Kd.R_drew)); exact HO269.out⟩, ⟨by repeat (first | (with_reducible first | exact HB.out | apply below_alloc | apply pw_below_drewN | apply below_drew1) | exact HB.out)⟩⟩
                      · rw [if_neg c13] at H
                        exact absurd H (by simp)
                · rw [if_neg c10] at H
                  exact absurd H (by simp)
              · rw [if_neg c9] at H
                have c9b0 : decide (x6_2 < (l0.length : Int)) = false := decide_eq_false c9
                clear c9
                replace H := Option.bind_eq_some_iff.mp H
                obtain ⟨t270, A150, H⟩ := H
                replace H : ((vad_Level.f k2 x5_2).bind fun t271 => (if t271 < t270 then (madrigallaw13_VadLouder.j2 k2 l1 true) else (madrigallaw13_VadLouder.j2 k2 l1 (decide (t271 > (wrap64 (t270 + 514))))))) = some r := H
                have A15 := Aside0.mk A150
                clear A150
                replace H := Option.bind_eq_some_iff.mp H
                obtain ⟨t271, A160, H⟩ := H
                replace H : (if t271 < t270 then (madrigallaw13_VadLouder.j2 k2 l1 true) else (madrigallaw13_VadLouder.j2 k2 l1 (decide (t271 > (wrap64 (t270 + 514)))))) = some r := H
                have A16 := Aside0.mk A160
                clear A160
                have HC17 := Aside0.mk H
                clear H
                go_upto_region 14 with (first | ((with_reducible refine gate_callee (f := 15) rfl ?_); refine goesL_ (some 48) rfl rfl Try.func15 (by kernel_rfl) rfl #[.slice A0 l0.length c0] rfl (by (try simp only [List.map_toArray, List.map_cons, List.map_nil]); first | done | rfl | (simp only [List.length_drop, List.length_take]; rfl)) ?_; (with_reducible refine (vad_Level.calls k2 _ _ l0 t270 _ ?side1 ?side2 A15.out).mono ?_); (case side1 => repeat (first | exact (Kd.C_below HR0.out HB.out) | (with_reducible refine Kd.C_alloc ?_ _) | (with_reducible refine Kd.C_drewN ?_ _) | (with_reducible refine Kd.C_drew ?_))); (case side2 => exact HC0.out); rintro e w18 ⟨rfl, hb⟩; refine ⟨_, rfl, ?_⟩; have n0_ := Aside0.mk (Kd.R_below (by (with_reducible repeat (first | apply Kd.R_alloc | apply Kd.R_drewN | apply Kd.R_drew)); exact HO_5.out) hb); have n1_ := Aside0.mk (below_step (by repeat (first | (with_reducible first | exact HB.out | apply below_alloc | apply pw_below_drewN | apply below_drew1) | exact HB.out)) hb); clear HO_5; clear HB; have HO_5 := n0_; have HB := n1_; clear n0_ n1_; (try clear hb); (try clear hb2); (try clear hk); (try clear hi); (try clear hge); obtain ⟨Ao19, co19, eo19⟩ := Kd.R_slice HO_5.out; subst eo19) | ((with_reducible refine gate_callee (f := 15) rfl ?_); refine goesL_ (some 50) rfl rfl Try.func15 (by kernel_rfl) rfl #[.slice Ao19 x5_2.length co19] rfl (by (try simp only [List.map_toArray, List.map_cons, List.map_nil]); first | done | rfl | (simp only [List.length_drop, List.length_take]; rfl)) ?_; (with_reducible refine (vad_Level.calls k2 _ _ x5_2 t271 _ ?side1 ?side2 A16.out).mono ?_); (case side1 => repeat (first | exact (Kd.R_reads' HO_5.out).2.2 | (with_reducible refine Kd.C_alloc ?_ _) | (with_reducible refine Kd.C_drewN ?_ _) | (with_reducible refine Kd.C_drew ?_))); (case side2 => exact (Kd.R_reads' HO_5.out).2.1); rintro e w20 ⟨rfl, hb⟩; refine ⟨_, rfl, ?_⟩; have n0_ := Aside0.mk (Kd.R_below (by (with_reducible repeat (first | apply Kd.R_alloc | apply Kd.R_drewN | apply Kd.R_drew)); exact HO_5.out) hb); have n1_ := Aside0.mk (below_step (by repeat (first | (with_reducible first | exact HB.out | apply below_alloc | apply pw_below_drewN | apply below_drew1) | exact HB.out)) hb); clear HO_5; clear HB; have HO_5 := n0_; have HB := n1_; clear n0_ n1_; (try clear hb); (try clear hb2); (try clear hk); (try clear hi); (try clear hge)))
                (try simp only [Act.put, List.setIfInBounds_toArray, List.set_cons_zero, List.set_cons_succ])
                go_cut [59] (fun v59 wc => ∃ (kq : Nat) (x59_16 : Bool), v59 = .bool x59_16 ∧ Aside0 (madrigallaw13_VadLouder.j2 kq l1 x59_16 = some r) ∧ Aside0 (kq ≤ k2) ∧ Aside0 (Below w.heap.size w wc))
                case first =>
                  have H := HC17.out
                  clear HC17
                  by_cases c21 : t271 < t270
                  · rw [if_pos c21] at H
                    have c21b0 : decide (t271 < t270) = true := decide_eq_true c21
                    clear c21
                    (first | rw [c21b0] | (simp only [i64_w, i32_w]; rw [c21b0]) | skip)
                    have H' := Aside0.mk H
                    clear H
                    go_wp2
                    go_meet
                    case rel => exact ⟨_, (true), (by first | rfl | (simp; done) | (simp [*]; done)), H', ⟨by have := HJ4.out; have := HK2.out; first | omega | exact Nat.le_refl _⟩, ⟨by repeat (first | (with_reducible first | exact HB.out | apply below_alloc | apply pw_below_drewN | apply below_drew1) | exact HB.out)⟩⟩
                  · rw [if_neg c21] at H
                    have c21b0 : decide (t271 < t270) = false := decide_eq_false c21
                    clear c21
                    (first | rw [c21b0] | (simp only [i64_w, i32_w]; rw [c21b0]) | skip)
                    have H' := Aside0.mk H
                    clear H
                    go_wp2
                    go_meet
                    case rel => exact ⟨_, (decide (t271 > (wrap64 (t270 + 514)))), (by first | rfl | (simp; done) | (simp [*]; done)), H', ⟨by have := HJ4.out; have := HK2.out; first | omega | exact Nat.le_refl _⟩, ⟨by repeat (first | (with_reducible first | exact HB.out | apply below_alloc | apply pw_below_drewN | apply below_drew1) | exact HB.out)⟩⟩
                case rest =>
                  clear HC17
                  try clear c1
                  try clear c2
                  try clear p2
                  try clear q2
                  try clear hx2
                  try clear c4
                  try clear c6
                  try clear p6
                  try clear c7
                  try clear c7b0
                  try clear c7b1
                  try clear c8
                  try clear c9
                  try clear c9b0
                  try clear c10
                  try clear c10b0
                  try clear c11
                  try clear c11b0
                  try clear c12
                  try clear c12b0
                  try clear c13
                  try clear c14
                  try clear c15
                  try clear c21
                  try clear c21b0
                  try clear hx264_0
                  try clear hx265_0
                  try clear hx266_0
                  try clear p2
                  try clear p264
                  try clear p265
                  try clear p266
                  try clear q264
                  try clear q265
                  try clear q266
                  obtain ⟨kq, x59_16, rfl, HA, HJ16, HB⟩ := hcut
                  (try simp only [i64_w, i32_w])
                  cases kq with
                  | zero => exact absurd HA.out (by simp [madrigallaw13_VadLouder.j2])
                  | succ kj16 =>
                    have H := HA.out
                    clear HA
                    simp only [madrigallaw13_VadLouder.j2] at H
                    by_cases c22 : x59_16 = true
                    · subst c22
                      have H1 : (none) = some r := by rw [if_pos rfl] at H; exact H
                      clear H
                      have H := H1
                      clear H1
                      exact absurd H (by simp)
                    · replace c22 := Bool.eq_false_iff.mpr c22
                      subst c22
                      have H1 : ((vad_New.f).bind fun bt272 => (madrigallaw13_VadLouder.l1 kj16 l1 0 bt272.1 bt272.2)) = some r := by rw [if_neg (show ¬ (false = true) by decide)] at H; exact H
                      clear H
                      have H := H1
                      clear H1
                      replace H := Option.bind_eq_some_iff.mp H
                      obtain ⟨⟨t272, t273⟩, A230, H⟩ := H
                      replace H : (madrigallaw13_VadLouder.l1 kj16 l1 0 t272 t273) = some r := H
                      have A23 := Aside0.mk A230
                      clear A230
                      have H' := Aside0.mk H
                      clear H
                      go_wp2_with (first | ((with_reducible refine gate_callee (f := 16) rfl ?_); refine goesL_ (some 60) rfl rfl Try.func16 (by kernel_rfl) rfl #[] rfl (by (try simp only [List.map_toArray, List.map_cons, List.map_nil]); first | done | rfl | (simp only [List.length_drop, List.length_take]; rfl)) ?_; (with_reducible refine (vad_New.calls  t272 t273 w _ ?side1 A23.out).mono ?_); (case side1 => repeat (first | (with_reducible first | exact HB.out | apply below_alloc | apply pw_below_drewN | apply below_drew1) | exact HB.out)); rintro e w24 ⟨g274, rfl, hi, hb, hb2, hge⟩; refine ⟨_, rfl, ?_⟩; have n0_ := Aside0.mk (hb); have n1_ := Aside0.mk (hi); clear HB; have HB := n0_; have HI274 := n1_; clear n0_ n1_; (try clear hb); (try clear hb2); (try clear hk); (try clear hi); (try clear hge)))
                      go_loopg [10] kj16 (fun kq v10 w' => ∃ (x10_4 : Int) (x275000_4 : Int) (x275001_4 : Int), v10 = .int .i64 x10_4 ∧ Aside0 (madrigallaw13_VadLouder.l1 kq l1 x10_4 x275000_4 x275001_4 = some r) ∧ Aside0 (kq ≤ kj16) ∧ Aside0 (IsS62 w w' g274 x275000_4 x275001_4) ∧ Aside0 (Below w.heap.size w w'))
                      case atStart => exact ⟨(0), (t272), (t273), (by first | rfl | (simp; done) | (simp [*]; done)), H', ⟨Nat.le_refl _⟩, ⟨by repeat (first | (with_reducible first | exact HI274.out | apply IsS62.alloc | apply IsS62.drewN | apply IsS62.drew | apply IsS62.set_0 | apply IsS62.set_1) | exact HI274.out)⟩, ⟨by repeat (first | (with_reducible first | exact HB.out | apply below_alloc | apply pw_below_drewN | apply below_drew1 | refine below_set ?_ (IsS62.ge HI274.out)) | exact HB.out)⟩⟩
                      case round =>
                        clear H'
                        try clear c1
                        try clear c2
                        try clear p2
                        try clear q2
                        try clear hx2
                        try clear c4
                        try clear c6
                        try clear p6
                        try clear c7
                        try clear c7b0
                        try clear c7b1
                        try clear c8
                        try clear c9
                        try clear c9b0
                        try clear c10
                        try clear c10b0
                        try clear c11
                        try clear c11b0
                        try clear c12
                        try clear c12b0
                        try clear c13
                        try clear c14
                        try clear c15
                        try clear c16
                        try clear c21
                        try clear c21b0
                        try clear c22
                        try clear hx264_0
                        try clear hx265_0
                        try clear hx266_0
                        try clear p2
                        try clear p264
                        try clear p265
                        try clear p266
                        try clear p6
                        try clear q2
                        try clear q264
                        try clear q265
                        try clear q266
                        obtain ⟨x10_4, x275000_4, x275001_4, rfl, HA, HK4, HI274, HB⟩ := hrel
                        (try simp only [i64_w, i32_w])
                        cases gk with
                        | zero => exact absurd HA.out (by simp [madrigallaw13_VadLouder.l1])
                        | succ k4 =>
                          have H := HA.out
                          clear HA
                          simp only [madrigallaw13_VadLouder.l1] at H
                          by_cases c25 : x10_4 < (l1.length : Int)
                          · rw [if_pos c25] at H
                            have c25b0 : decide (x10_4 < (l1.length : Int)) = true := decide_eq_true c25
                            clear c25
                            by_cases c26 : 0 ≤ x10_4
                            · rw [if_pos c26] at H
                              have c26b0 : decide (0 ≤ x10_4) = true := decide_eq_true c26
                              clear c26
                              replace H := Option.bind_eq_some_iff.mp H
                              obtain ⟨⟨t276, t277, t278⟩, A270, H⟩ := H
                              replace H : ((vad_Meter_Floor.f t277 t278).bind fun bt279 => ((vad_Level.f k4 (rd_L1 l1 x10_4)).bind fun t283 => (if bt279.1 > t283 then (none) else ((vad_Meter_Floor.f bt279.2.1 bt279.2.2).bind fun bt284 => (if bt284.1 < 0 then (none) else (madrigallaw13_VadLouder.l1 k4 l1 (wrap64 (x10_4 + 1)) bt284.2.1 bt284.2.2)))))) = some r := H
                              have A27 := Aside0.mk A270
                              clear A270
                              replace H := Option.bind_eq_some_iff.mp H
                              obtain ⟨⟨t279, t280, t281⟩, A280, H⟩ := H
                              replace H : ((vad_Level.f k4 (rd_L1 l1 x10_4)).bind fun t283 => (if t279 > t283 then (none) else ((vad_Meter_Floor.f t280 t281).bind fun bt284 => (if bt284.1 < 0 then (none) else (madrigallaw13_VadLouder.l1 k4 l1 (wrap64 (x10_4 + 1)) bt284.2.1 bt284.2.2))))) = some r := H
                              have A28 := Aside0.mk A280
                              clear A280
                              replace H := Option.bind_eq_some_iff.mp H
                              obtain ⟨t283, A290, H⟩ := H
                              replace H : (if t279 > t283 then (none) else ((vad_Meter_Floor.f t280 t281).bind fun bt284 => (if bt284.1 < 0 then (none) else (madrigallaw13_VadLouder.l1 k4 l1 (wrap64 (x10_4 + 1)) bt284.2.1 bt284.2.2)))) = some r := H
                              have A29 := Aside0.mk A290
                              clear A290
                              by_cases c30 : t279 > t283
                              · rw [if_pos c30] at H
                                have c30b0 : decide (t283 < t279) = true := decide_eq_true c30
                                clear c30
                                exact absurd H (by simp)
                              · rw [if_neg c30] at H
                                have c30b0 : decide (t283 < t279) = false := decide_eq_false c30
                                clear c30
                                replace H := Option.bind_eq_some_iff.mp H
                                obtain ⟨⟨t284, t285, t286⟩, A310, H⟩ := H
                                replace H : (if t284 < 0 then (none) else (madrigallaw13_VadLouder.l1 k4 l1 (wrap64 (x10_4 + 1)) t285 t286)) = some r := H
                                have A31 := Aside0.mk A310
                                clear A310
                                by_cases c32 : t284 < 0
                                · rw [if_pos c32] at H
                                  exact absurd H (by simp)
                                · rw [if_neg c32] at H
                                  have c32b0 : decide (t284 < 0) = false := decide_eq_false c32
                                  clear c32
                                  have H' := Aside0.mk H
                                  clear H
                                  have p275 : 0 ≤ (x10_4 : Int) := of_decide_eq_true (by first | (with_reducible assumption) | assumption)
                                  have q275 : x10_4 < (l1.length : Int) := of_decide_eq_true (by first | (with_reducible assumption) | assumption)
                                  obtain ⟨ad275, A275_0, c275_0, e275, hx275_0, hl275_0, hi275_0⟩ := at_L1 HR1.out x10_4 p275 q275
                                  cases e275
                                  replace hx275_0 := (HB.out.cell (World.block_lt_of_cell? w _ hx275_0)).trans hx275_0
                                  have HR275_0 := Aside0.mk hi275_0
                                  have HC275_0 := Aside0.mk hl275_0
                                  clear hi275_0 hl275_0
                                  replace p275 := eq_true p275
                                  replace q275 := eq_true q275
                                  try go_wp2_with (first | ((with_reducible refine gate_callee (f := 20) rfl ?_); refine goesL_ (some 72) rfl rfl Try.func20 (by kernel_rfl) rfl #[.pointer (some ⟨g274, 0, none⟩), .slice A275_0 (rd_L1 l1 x10_4).length c275_0] rfl (by (try simp only [List.map_toArray, List.map_cons, List.map_nil]); first | done | rfl | (simp only [List.length_drop, List.length_take]; rfl)) ?_; (with_reducible refine (vad_Meter_Step.calls k4 g274 x275000_4 x275001_4 _ _ (rd_L1 l1 x10_4) t276 t277 t278 w _ ?side1 ?side2 ?side3 ?side4 ?side5 A27.out).mono ?_); (case side1 => repeat (first | (with_reducible first | exact HI274.out | apply IsS62.alloc | apply IsS62.drewN | apply IsS62.drew | apply IsS62.set_0 | apply IsS62.set_1) | exact HI274.out)); (case side2 => repeat (first | (with_reducible first | exact HB.out | apply below_alloc | apply pw_below_drewN | apply below_drew1 | refine below_set ?_ (IsS62.ge HI274.out)) | exact HB.out)); (case side3 => repeat (first | exact (Kd.C_below HR275_0.out HB.out) | (with_reducible refine Kd.C_alloc ?_ _) | (with_reducible refine Kd.C_drewN ?_ _) | (with_reducible refine Kd.C_drew ?_))); (case side4 => exact HC275_0.out); (case side5 => exact Kd.far_C 0 HR275_0.out (IsS62.ge HI274.out)); rintro e w33 ⟨rfl, hi, hb, hk⟩; refine ⟨_, rfl, ?_⟩; have n0_ := Aside0.mk (hb); have n1_ := Aside0.mk (hi); clear HB; clear HI274; have HB := n0_; have HI274 := n1_; clear n0_ n1_; (try clear hb); (try clear hb2); (try clear hk); (try clear hi); (try clear hge)))
                                  have n0_ := Aside0.mk (IsS62.drew HI274.out)
                                  have n1_ := Aside0.mk (below_drew1 HB.out)
                                  clear HI274
                                  clear HB
                                  have HI274 := n0_
                                  have HB := n1_
                                  clear n0_ n1_
                                  have p282 : 0 ≤ (x10_4 : Int) := of_decide_eq_true (by first | (with_reducible assumption) | assumption)
                                  have q282 : x10_4 < (l1.length : Int) := of_decide_eq_true (by first | (with_reducible assumption) | assumption)
                                  obtain ⟨ad282, A282_0, c282_0, e282, hx282_0, hl282_0, hi282_0⟩ := at_L1 HR1.out x10_4 p282 q282
                                  have hw282_0 := hx282_0
                                  obtain rfl : ad275 = ad282 := (by injection e282)
                                  replace hx282_0 := (HB.out.cell (World.block_lt_of_cell? w _ hx282_0)).trans hx282_0
                                  have HR282_0 := Aside0.mk hi282_0
                                  have HC282_0 := Aside0.mk hl282_0
                                  clear hi282_0 hl282_0
                                  replace p282 := eq_true p282
                                  replace q282 := eq_true q282
                                  refine start_ (n := 13) (S := fun w' => w'.cell? (ad275.add (x10_4).toNat) = some (.slice A282_0 (rd_L1 l1 x10_4).length c282_0)) (ds := []) #[false, false, false, false, false, false, false, false, false, false, false, false, false] (by kernel_rfl) rfl rfl (((HB.out.cell (World.block_lt_of_cell? w _ hw282_0)).trans hw282_0)) (fun hHeld => ?_); refine with_tabW madrigallaw13_VadLouder.tab21 madrigallaw13_VadLouder.bits21 (fun HT_ HW_ => ?_)
                                  generalize w33.drew = w34 at HI274 HB HR282_0 hx282_0 hHeld ⊢
                                  refine pure_ (i := 0) (N := some 73) (v := ?_) (a' := ?_) #[true, false, false, false, false, false, false, false, false, false, false, false, false] rfl rfl (any_of HT_.out (by kernel_rfl)) (fun _ _ _ h => h) (Or.inl ⟨by rfl, ?_⟩) ?_ ?_
                                  rotate_left
                                  · intro w'
                                    go_simp
                                    with_reducible rfl
                                  rotate_left
                                  · simp only [Act.put, List.setIfInBounds_toArray, List.set_cons_zero, List.set_cons_succ, i64_w, i32_w]
                                    rfl
                                  refine pure_ (i := 2) (N := some 75) (v := ?_) (a' := ?_) #[true, false, true, false, false, false, false, false, false, false, false, false, false] rfl rfl (any_of HT_.out (by kernel_rfl)) (fun _ _ _ h => h) (Or.inl ⟨by rfl, ?_⟩) ?_ ?_
                                  rotate_left
                                  · intro w'
                                    go_simp
                                    with_reducible rfl
                                  rotate_left
                                  · simp only [Act.put, List.setIfInBounds_toArray, List.set_cons_zero, List.set_cons_succ, i64_w, i32_w]
                                    rfl
                                  refine pure_ (i := 3) (N := some 76) (v := ?_) (a' := ?_) #[true, false, true, true, false, false, false, false, false, false, false, false, false] rfl rfl (any_of HT_.out (by kernel_rfl)) (fun _ _ _ h => h) (Or.inl ⟨by rfl, ?_⟩) ?_ ?_
                                  rotate_left
                                  · intro w'
                                    go_simp
                                    with_reducible rfl
                                  rotate_left
                                  · simp only [Act.put, List.setIfInBounds_toArray, List.set_cons_zero, List.set_cons_succ, i64_w, i32_w]
                                    rfl
                                  refine pure_ (i := 4) (N := some 77) (v := ?_) (a' := ?_) #[true, false, true, true, true, false, false, false, false, false, false, false, false] rfl rfl (any_of HT_.out (by kernel_rfl)) (fun _ _ _ h => h) (Or.inl ⟨by rfl, ?_⟩) ?_ ?_
                                  rotate_left
                                  · intro w'
                                    go_simp
                                    with_reducible rfl
                                  rotate_left
                                  · simp only [Act.put, List.setIfInBounds_toArray, List.set_cons_zero, List.set_cons_succ, i64_w, i32_w]
                                    rfl
                                  refine take_ (i := 5) (N := some 78) (v := ?_) (a' := ?_) #[true, false, true, true, true, true, false, false, false, false, false, false, false] rfl rfl (take_ofW HT_.out HW_.out (by kernel_rfl)) (fun _ _ _ h => h) (Or.inl ⟨by rfl, ?_⟩) hHeld ?_ ?_
                                  rotate_left
                                  · intro w' s0
                                    go_simp
                                    with_reducible rfl
                                  rotate_left
                                  · simp only [Act.put, List.setIfInBounds_toArray, List.set_cons_zero, List.set_cons_succ, i64_w, i32_w]
                                    rfl
                                  refine one_ (i := 1) (N := some 74) #[true, true, true, true, true, true, false, false, false, false, false, false, false] rfl rfl (one_of HT_.out (by kernel_rfl)) (by decide) (fun K hK => ?_)
                                  refine goes_ Try.func21 (by kernel_rfl) rfl #[.pointer (some ⟨g274, 0, none⟩)] (by rfl) rfl rfl (by (try simp only [List.map_toArray, List.map_cons, List.map_nil]); first | done | rfl | (simp only [List.length_drop, List.length_take]; rfl)) ?_
                                  with_reducible refine (vad_Meter_Floor.calls g274 t277 t278 t279 t280 t281 w _ ?side1 ?side2 A28.out).mono ?_
                                  (case side1 => repeat (first | (with_reducible first | exact HI274.out | apply IsS62.alloc | apply IsS62.drewN | apply IsS62.drew | apply IsS62.set_0 | apply IsS62.set_1) | exact HI274.out))
                                  (case side2 => repeat (first | (with_reducible first | exact HB.out | apply below_alloc | apply pw_below_drewN | apply below_drew1 | refine below_set ?_ (IsS62.ge HI274.out)) | exact HB.out))
                                  rintro e w35 ⟨rfl, hi, hb, hk⟩
                                  refine ⟨_, rfl, ?_⟩
                                  have n0_ := Aside0.mk (hb)
                                  have n1_ := Aside0.mk (hi)
                                  clear HB
                                  clear HI274
                                  have HB := n0_
                                  have HI274 := n1_
                                  clear n0_ n1_
                                  (try clear hb)
                                  (try clear hb2)
                                  (try clear hk)
                                  (try clear hi)
                                  (try clear hge)
                                  refine hK.out _ _ (((HB.out.cell (World.block_lt_of_cell? w _ hw282_0)).trans hw282_0)) (fun hHeld => ?_)
                                  clear hK K
                                  refine norm_ (a' := ?_) ?_ ?_
                                  rotate_left
                                  · show Act.put _ (some 74) _ = _
                                    simp only [Act.put, List.setIfInBounds_toArray, List.set_cons_zero, List.set_cons_succ, i64_w, i32_w]
                                    rfl
                                  refine one_ (i := 6) (N := some 79) #[true, true, true, true, true, true, true, false, false, false, false, false, false] rfl rfl (one_of HT_.out (by kernel_rfl)) (by decide) (fun K hK => ?_)
                                  refine goes_ Try.func15 (by kernel_rfl) rfl #[.slice A282_0 (rd_L1 l1 x10_4).length c282_0] (by rfl) rfl rfl (by (try simp only [List.map_toArray, List.map_cons, List.map_nil]); first | done | rfl | (simp only [List.length_drop, List.length_take]; rfl)) ?_
                                  with_reducible refine (vad_Level.calls k4 _ _ (rd_L1 l1 x10_4) t283 _ ?side1 ?side2 A29.out).mono ?_
                                  (case side1 => repeat (first | exact (Kd.C_below HR282_0.out HB.out) | (with_reducible refine Kd.C_alloc ?_ _) | (with_reducible refine Kd.C_drewN ?_ _) | (with_reducible refine Kd.C_drew ?_)))
                                  (case side2 => exact HC282_0.out)
                                  rintro e w36 ⟨rfl, hb⟩
                                  refine ⟨_, rfl, ?_⟩
                                  have n0_ := Aside0.mk (IsS62.below (by repeat (first | (with_reducible first | exact HI274.out | apply IsS62.alloc | apply IsS62.drewN | apply IsS62.drew | apply IsS62.set_0 | apply IsS62.set_1) | exact HI274.out)) hb)
                                  have n1_ := Aside0.mk (below_step (by repeat (first | (with_reducible first | exact HB.out | apply below_alloc | apply pw_below_drewN | apply below_drew1 | refine below_set ?_ (IsS62.ge HI274.out)) | exact HB.out)) hb)
                                  clear HI274
                                  clear HB
                                  have HI274 := n0_
                                  have HB := n1_
                                  clear n0_ n1_
                                  (try clear hb)
                                  (try clear hb2)
                                  (try clear hk)
                                  (try clear hi)
                                  (try clear hge)
                                  refine hK.out _ _ (((HB.out.cell (World.block_lt_of_cell? w _ hw282_0)).trans hw282_0)) (fun hHeld => ?_)
                                  clear hK K
                                  refine norm_ (a' := ?_) ?_ ?_
                                  rotate_left
                                  · show Act.put _ (some 79) _ = _
                                    simp only [Act.put, List.setIfInBounds_toArray, List.set_cons_zero, List.set_cons_succ, i64_w, i32_w]
                                    rfl
                                  refine pure_ (i := 7) (N := some 80) (v := ?_) (a' := ?_) #[true, true, true, true, true, true, true, true, false, false, false, false, false] rfl rfl (any_of HT_.out (by kernel_rfl)) (fun _ _ _ h => h) (Or.inl ⟨by rfl, ?_⟩) ?_ ?_
                                  rotate_left
                                  · intro w'
                                    go_simp
                                    with_reducible rfl
                                  rotate_left
                                  · simp only [Act.put, List.setIfInBounds_toArray, List.set_cons_zero, List.set_cons_succ, i64_w, i32_w]
                                    rfl
                                  refine pure_ (i := 8) (N := some 81) (v := ?_) (a' := ?_) #[true, true, true, true, true, true, true, true, true, false, false, false, false] rfl rfl (any_of HT_.out (by kernel_rfl)) (fun _ _ _ h => h) (Or.inl ⟨by rfl, ?_⟩) ?_ ?_
                                  rotate_left
                                  · intro w'
                                    go_simp
                                    with_reducible rfl
                                  rotate_left
                                  · simp only [Act.put, List.setIfInBounds_toArray, List.set_cons_zero, List.set_cons_succ, i64_w, i32_w]
                                    rfl
                                  refine pure_ (i := 9) (N := some 82) (v := ?_) (a' := ?_) #[true, true, true, true, true, true, true, true, true, true, false, false, false] rfl rfl (any_of HT_.out (by kernel_rfl)) (fun _ _ _ h => h) (Or.inl ⟨by rfl, ?_⟩) ?_ ?_
                                  rotate_left
                                  · intro w'
                                    go_simp
                                    with_reducible rfl
                                  rotate_left
                                  · simp only [Act.put, List.setIfInBounds_toArray, List.set_cons_zero, List.set_cons_succ, i64_w, i32_w]
                                    rfl
                                  refine one_ (i := 10) (N := some 83) #[true, true, true, true, true, true, true, true, true, true, true, false, false] rfl rfl (one_of HT_.out (by kernel_rfl)) (by decide) (fun K hK => ?_)
                                  refine goes_ Try.func21 (by kernel_rfl) rfl #[.pointer (some ⟨g274, 0, none⟩)] (by rfl) rfl rfl (by (try simp only [List.map_toArray, List.map_cons, List.map_nil]); first | done | rfl | (simp only [List.length_drop, List.length_take]; rfl)) ?_
                                  with_reducible refine (vad_Meter_Floor.calls g274 t280 t281 t284 t285 t286 w _ ?side1 ?side2 A31.out).mono ?_
                                  (case side1 => repeat (first | (with_reducible first | exact HI274.out | apply IsS62.alloc | apply IsS62.drewN | apply IsS62.drew | apply IsS62.set_0 | apply IsS62.set_1) | exact HI274.out))
                                  (case side2 => repeat (first | (with_reducible first | exact HB.out | apply below_alloc | apply pw_below_drewN | apply below_drew1 | refine below_set ?_ (IsS62.ge HI274.out)) | exact HB.out))
                                  rintro e w37 ⟨rfl, hi, hb, hk⟩
                                  refine ⟨_, rfl, ?_⟩
                                  have n0_ := Aside0.mk (hb)
                                  have n1_ := Aside0.mk (hi)
                                  clear HB
                                  clear HI274
                                  have HB := n0_
                                  have HI274 := n1_
                                  clear n0_ n1_
                                  (try clear hb)
                                  (try clear hb2)
                                  (try clear hk)
                                  (try clear hi)
                                  (try clear hge)
                                  refine hK.out _ _ (((HB.out.cell (World.block_lt_of_cell? w _ hw282_0)).trans hw282_0)) (fun hHeld => ?_)
                                  clear hK K
                                  refine norm_ (a' := ?_) ?_ ?_
                                  rotate_left
                                  · show Act.put _ (some 83) _ = _
                                    simp only [Act.put, List.setIfInBounds_toArray, List.set_cons_zero, List.set_cons_succ, i64_w, i32_w]
                                    rfl
                                  refine pure_ (i := 11) (N := some 84) (v := ?_) (a' := ?_) #[true, true, true, true, true, true, true, true, true, true, true, true, false] rfl rfl (any_of HT_.out (by kernel_rfl)) (fun _ _ _ h => h) (Or.inl ⟨by rfl, ?_⟩) ?_ ?_
                                  rotate_left
                                  · intro w'
                                    go_simp
                                    with_reducible rfl
                                  rotate_left
                                  · simp only [Act.put, List.setIfInBounds_toArray, List.set_cons_zero, List.set_cons_succ, i64_w, i32_w]
                                    rfl
                                  refine pure_ (i := 12) (N := some 85) (v := ?_) (a' := ?_) #[true, true, true, true, true, true, true, true, true, true, true, true, true] rfl rfl (any_of HT_.out (by kernel_rfl)) (fun _ _ _ h => h) (Or.inl ⟨by rfl, ?_⟩) ?_ ?_
                                  rotate_left
                                  · intro w'
                                    go_simp
                                    with_reducible rfl
                                  rotate_left
                                  · simp only [Act.put, List.setIfInBounds_toArray, List.set_cons_zero, List.set_cons_succ, i64_w, i32_w]
                                    rfl
                                  refine done_ (done_of HT_.out (by kernel_rfl)) ?_
                                  try go_wp2
                                  go_roundg k4
                                  case measure => have := HJ4.out; have := HK2.out; have := HJ16.out; have := HK4.out; omega
                                  case rel => exact ⟨(wrap64 (x10_4 + 1)), (t285), (t286), (by first | rfl | (simp; done) | (simp [*]; done)), H', ⟨by have := HJ4.out; have := HK2.out; have := HJ16.out; have := HK4.out; omega⟩, ⟨by repeat (first | (with_reducible first | exact HI274.out | apply IsS62.alloc | apply IsS62.drewN | apply IsS62.drew | apply IsS62.set_0 | apply IsS62.set_1) | exact HI274.out)⟩, ⟨by repeat (first | (with_reducible first | exact HB.out | apply below_alloc | apply pw_below_drewN | apply below_drew1 | refine below_set ?_ (IsS62.ge HI274.out)) | exact HB.out)⟩⟩
                            · rw [if_neg c26] at H
                              exact absurd H (by simp)
                          · rw [if_neg c25] at H
                            have c25b0 : decide (x10_4 < (l1.length : Int)) = false := decide_eq_false c25
                            clear c25
                            obtain rfl := Option.some.inj H
                            go_wp2
                            go_ret
                            exact ⟨by first | rfl | (simp [errW_none, errW_some] <;> rfl) | (simp [*, errW_none, errW_some] <;> rfl), by repeat (first | (with_reducible first | exact HB.out | apply below_alloc | apply pw_below_drewN | apply below_drew1 | refine below_set ?_ (IsS62.ge HI274.out)) | exact HB.out)⟩
  · replace c4 := Bool.eq_false_iff.mpr c4
    subst c4
    have H1 : (none) = some r := by rw [if_neg (show ¬ (false = true) by decide)] at H; exact H
    clear H
    have H := H1
    clear H1
    exact absurd H (by simp)

/-- THE ONE PURE STATEMENT of madrigallaw13_VadLouder. -/
def madrigallaw13_VadLouder.Pure : Prop := ∀ (l0 : List Int) (l1 : List (List Int)), l0.length ≤ maxLen → l0.length * 8 ≤ 140737488351232 → (∀ x ∈ l0, (Lit.int .i64 x).wf = true) → l1.length ≤ maxLen → (∀ z ∈ l1, z.length ≤ maxLen ∧ ∀ x ∈ z, (Lit.int .i64 x).wf = true) → ∃ k, madrigallaw13_VadLouder.f k l0 l1 = some true
theorem madrigallaw13_VadLouder.walk (P : madrigallaw13_VadLouder.Pure) (a0 : Option Addr) (len0 cap0 : Nat) (z0 : List Int) (a1 : Option Addr) (len1 cap1 : Nat) (z1 : List (List Int)) (w : World) (w0 : (a0 = none ∧ len0 = 0 ∧ cap0 = 0 ∧ z0 = []) ∨ ∃ x, a0 = some x ∧ len0 ≤ cap0 ∧ cap0 ≤ maxLen ∧ z0.length = cap0 ∧ (∀ i, i < z0.length → w.cell? (x.add i) = some (.int .i64 (z0.getD i 0))) ∧ ∀ n ∈ z0, (Lit.int .i64 n).wf = true) (y0 : len0 * 8 ≤ 140737488351232) (w1 : Kd.C (Kd.slice 2 (Kd.int .i64)) w a1 len1 z1) (y1 : len1 ≤ cap1 ∧ z1.length ≤ maxLen ∧ ∀ z ∈ z1, z.length ≤ maxLen ∧ ∀ x ∈ z, (Lit.int .i64 x).wf = true) :
    Calls Try.prog 6 #[.slice a0 len0 cap0, .slice a1 len1 cap1] w fun e w' => e = .returned (.bool true) ∧ Below w.heap.size w w' := by
  obtain ⟨l0, rfl, hr0, hm0, hw0, hc0⟩ := ReadsInt.ofRowC w0
  obtain ⟨y1, hm1, hw1⟩ := y1
  obtain rfl : z1.length = len1 := w1.1
  obtain ⟨k, h⟩ := P l0 z1 hm0 y0 hw0 hm1 hw1
  refine (madrigallaw13_VadLouder.calls k _ _ l0 _ _ z1 true w (Kd.C_of_reads (d := (0 : Int)) (h1 := fun _ => rfl) hr0) hc0 w1 y1 h).mono ?_
  rintro e w' ⟨rfl, hd⟩
  exact ⟨rfl, hd⟩

end Go.Proofs.Ytdchabinakboeaa.P
