/- The machine side of the laws of one chapter, without conditions: each call of a Go function comes to what the Lean function of its name answers. Written for this claim by a program of the prover. -/
import Derived.Test.YtdchabinakboeaaPx0
import Derived.Test.YtdchabinakboeaaPx6
import Derived.Test.YtdchabinakboeaaPx7
import Derived.Test.YtdchabinakboeaaPx9
import Derived.Test.YtdchabinakboeaaPx10
namespace Go.Proofs.Ytdchabinakboeaa.P
open Go.RowKit Go.Proofs.YtdchabinakboeaaW.PrintWords Go.Proofs.YtdchabinakboeaaW.PrintLast Go.Proofs.YtdchabinakboeaaW.PrintMore
attribute [local go_sem] max2_int min2_int max_two min_two max_three min_three max_four min_four   -- for this text's walks alone
set_option linter.unusedVariables false
set_option linter.unusedSimpArgs false

/-! ### madrigallaw13_VadFades: function 5 -/
mutual
def madrigallaw13_VadFades.j0 : Nat → List (List Int) → Int → Bool → Option (Bool)
  | 0, _, _, _ => none
  | k + 1, x0, x1, x20 => if x20 = true then (some true) else ((vad_New.f).bind fun bt244 => (madrigallaw13_VadFades.l0 k x0 x1 0 bt244.1 bt244.2))
def madrigallaw13_VadFades.l0 : Nat → List (List Int) → Int → Int → Int → Int → Option (Bool)
  | 0, _, _, _, _, _ => none
  | k + 1, x0, x1, x6, x247000, x247001 => if x6 < (x0.length : Int) then (if 0 ≤ x6 then ((vad_Meter_Step.f k x247000 x247001 (rd_L1 x0 x6)).bind fun bt248 => (madrigallaw13_VadFades.l0 k x0 x1 (wrap64 (x6 + 1)) bt248.2.1 bt248.2.2)) else (none)) else (madrigallaw13_VadFades.l1 k x1 0 x247000 x247001)
def madrigallaw13_VadFades.l1 : Nat → Int → Int → Int → Int → Option (Bool)
  | 0, _, _, _, _ => none
  | k + 1, x1, x7, x247000, x247001 => if x7 < x1 then (if 80 ≤ 35184372088832 then ((vad_Meter_Step.f k x247000 x247001 (List.replicate 80 0)).bind fun bt254 => (if bt254.1 = true then (if x7 ≥ 4 then (none) else ((vad_Meter_Floor.f bt254.2.1 bt254.2.2).bind fun bt257 => (if bt257.1 = 0 then (madrigallaw13_VadFades.l1 k x1 (wrap64 (x7 + 1)) bt257.2.1 bt257.2.2) else (none)))) else ((vad_Meter_Floor.f bt254.2.1 bt254.2.2).bind fun bt260 => (if bt260.1 = 0 then (madrigallaw13_VadFades.l1 k x1 (wrap64 (x7 + 1)) bt260.2.1 bt260.2.2) else (none))))) else (none)) else (some true)
end
def madrigallaw13_VadFades.f (k : Nat) (l0 : List (List Int)) (a1 : Int) : Option (Bool) := (madrigallaw13_awake.f k).bind fun t243 => (if t243 = true then (if (l0.length : Int) > 30 then (madrigallaw13_VadFades.j0 k l0 a1 true) else (if a1 < 0 then (madrigallaw13_VadFades.j0 k l0 a1 true) else (madrigallaw13_VadFades.j0 k l0 a1 (decide (a1 > 60))))) else (none))
theorem madrigallaw13_VadFades.mono_l : ∀ k, (∀ y0 y1 y2, LeO (madrigallaw13_VadFades.j0 k y0 y1 y2) (madrigallaw13_VadFades.j0 (k + 1) y0 y1 y2)) ∧ (∀ y0 y1 y2 y3 y4, LeO (madrigallaw13_VadFades.l0 k y0 y1 y2 y3 y4) (madrigallaw13_VadFades.l0 (k + 1) y0 y1 y2 y3 y4)) ∧ (∀ y0 y1 y2 y3, LeO (madrigallaw13_VadFades.l1 k y0 y1 y2 y3) (madrigallaw13_VadFades.l1 (k + 1) y0 y1 y2 y3))
  | 0 => ⟨fun _ _ _ r h => by simp [madrigallaw13_VadFades.j0] at h, fun _ _ _ _ _ r h => by simp [madrigallaw13_VadFades.l0] at h, fun _ _ _ _ r h => by simp [madrigallaw13_VadFades.l1] at h⟩
  | k + 1 => by
    obtain ⟨ih0, ih1, ih2⟩ := madrigallaw13_VadFades.mono_l k
    refine ⟨?_, ?_, ?_⟩
    · intro y0 y1 y2
      unfold madrigallaw13_VadFades.j0
      repeat' first
      | (with_reducible exact ih0 _ _ _)
      | (with_reducible exact ih1 _ _ _ _ _)
      | (with_reducible exact ih2 _ _ _ _)
      | (with_reducible exact madrigallaw13_awake.mono _)
      | (with_reducible exact vad_Meter_Step.mono _ _ _ _)
      | (with_reducible exact LeO.refl _)
      | (with_reducible exact LeO.none _)
      | (with_reducible refine LeO.ite ?_ ?_)
      | (with_reducible refine LeO.bind ?_ (fun _ => ?_))
      | exact ih0 _ _ _
      | exact ih1 _ _ _ _ _
      | exact ih2 _ _ _ _
      | exact madrigallaw13_awake.mono _
      | exact vad_Meter_Step.mono _ _ _ _
      | exact LeO.none _
      | refine LeO.ite ?_ ?_
      | refine LeO.bind ?_ (fun _ => ?_)
    · intro y0 y1 y2 y3 y4
      unfold madrigallaw13_VadFades.l0
      repeat' first
      | (with_reducible exact ih0 _ _ _)
      | (with_reducible exact ih1 _ _ _ _ _)
      | (with_reducible exact ih2 _ _ _ _)
      | (with_reducible exact madrigallaw13_awake.mono _)
      | (with_reducible exact vad_Meter_Step.mono _ _ _ _)
      | (with_reducible exact LeO.refl _)
      | (with_reducible exact LeO.none _)
      | (with_reducible refine LeO.ite ?_ ?_)
      | (with_reducible refine LeO.bind ?_ (fun _ => ?_))
      | exact ih0 _ _ _
      | exact ih1 _ _ _ _ _
      | exact ih2 _ _ _ _
      | exact madrigallaw13_awake.mono _
      | exact vad_Meter_Step.mono _ _ _ _
      | exact LeO.none _
      | refine LeO.ite ?_ ?_
      | refine LeO.bind ?_ (fun _ => ?_)
    · intro y0 y1 y2 y3
      unfold madrigallaw13_VadFades.l1
      repeat' first
      | (with_reducible exact ih0 _ _ _)
      | (with_reducible exact ih1 _ _ _ _ _)
      | (with_reducible exact ih2 _ _ _ _)
      | (with_reducible exact madrigallaw13_awake.mono _)
      | (with_reducible exact vad_Meter_Step.mono _ _ _ _)
      | (with_reducible exact LeO.refl _)
      | (with_reducible exact LeO.none _)
      | (with_reducible refine LeO.ite ?_ ?_)
      | (with_reducible refine LeO.bind ?_ (fun _ => ?_))
      | exact ih0 _ _ _
      | exact ih1 _ _ _ _ _
      | exact ih2 _ _ _ _
      | exact madrigallaw13_awake.mono _
      | exact vad_Meter_Step.mono _ _ _ _
      | exact LeO.none _
      | refine LeO.ite ?_ ?_
      | refine LeO.bind ?_ (fun _ => ?_)
theorem madrigallaw13_VadFades.mono : ∀ a0 a1 k, LeO (madrigallaw13_VadFades.f k a0 a1) (madrigallaw13_VadFades.f (k + 1) a0 a1) := by
  intro a0 a1 k
  obtain ⟨ih0, ih1, ih2⟩ := madrigallaw13_VadFades.mono_l k
  unfold madrigallaw13_VadFades.f
  repeat' first
      | (with_reducible exact ih0 _ _ _)
      | (with_reducible exact ih1 _ _ _ _ _)
      | (with_reducible exact ih2 _ _ _ _)
      | (with_reducible exact madrigallaw13_awake.mono _)
      | (with_reducible exact vad_Meter_Step.mono _ _ _ _)
      | (with_reducible exact LeO.refl _)
      | (with_reducible exact LeO.none _)
      | (with_reducible refine LeO.ite ?_ ?_)
      | (with_reducible refine LeO.bind ?_ (fun _ => ?_))
      | exact ih0 _ _ _
      | exact ih1 _ _ _ _ _
      | exact ih2 _ _ _ _
      | exact madrigallaw13_awake.mono _
      | exact vad_Meter_Step.mono _ _ _ _
      | exact LeO.none _
      | refine LeO.ite ?_ ?_
      | refine LeO.bind ?_ (fun _ => ?_)
set_option maxHeartbeats 8000000 in
set_option maxRecDepth 100000 in
theorem madrigallaw13_VadFades.calls (k : Nat) (A0 : Option Addr) (c0 : Nat) (l0 : List (List Int)) (a1 : Int) (r : Bool) (w : World) (hr0 : Kd.C (Kd.slice 2 (Kd.int .i64)) w A0 l0.length l0) (hc0 : l0.length ≤ c0) (h : madrigallaw13_VadFades.f k l0 a1 = some r) :
    Calls Try.prog 5 #[.slice A0 l0.length c0, .int .i64 a1] w fun e w' => e = .returned (.bool r) ∧ Below w.heap.size w w' := by
  have HR0 := Aside0.mk hr0
  have HC0 := Aside0.mk hc0
  clear hr0 hc0
  have HB := Aside0.mk (Below.refl w.heap.size w)
  have H : ((madrigallaw13_awake.f k).bind fun t243 => (if t243 = true then (if (l0.length : Int) > 30 then (madrigallaw13_VadFades.j0 k l0 a1 true) else (if a1 < 0 then (madrigallaw13_VadFades.j0 k l0 a1 true) else (madrigallaw13_VadFades.j0 k l0 a1 (decide (a1 > 60))))) else (none))) = some r := h
  clear h
  replace H := Option.bind_eq_some_iff.mp H
  obtain ⟨t243, A30, H⟩ := H
  replace H : (if t243 = true then (if (l0.length : Int) > 30 then (madrigallaw13_VadFades.j0 k l0 a1 true) else (if a1 < 0 then (madrigallaw13_VadFades.j0 k l0 a1 true) else (madrigallaw13_VadFades.j0 k l0 a1 (decide (a1 > 60))))) else (none)) = some r := H
  have A3 := Aside0.mk A30
  clear A30
  by_cases c4 : t243 = true
  · subst c4
    have H1 : (if (l0.length : Int) > 30 then (madrigallaw13_VadFades.j0 k l0 a1 true) else (if a1 < 0 then (madrigallaw13_VadFades.j0 k l0 a1 true) else (madrigallaw13_VadFades.j0 k l0 a1 (decide (a1 > 60))))) = some r := by rw [if_pos rfl] at H; exact H
    clear H
    have H := H1
    clear H1
    have HC5 := Aside0.mk H
    clear H
    go_enter Try.func5, Try.ntmps5
    go_upto_region 3 with (first | ((with_reducible refine gate_callee (f := 14) rfl ?_); refine goesL_ (some 8) rfl rfl Try.func14 (by kernel_rfl) rfl #[] rfl (by (try simp only [List.map_toArray, List.map_cons, List.map_nil]); first | done | rfl | (simp only [List.length_drop, List.length_take]; rfl)) ?_; (with_reducible refine (madrigallaw13_awake.calls k  true _ A3.out).mono ?_); rintro e w6 ⟨rfl, hb⟩; refine ⟨_, rfl, ?_⟩; have n0_ := Aside0.mk (below_step (by repeat (first | (with_reducible first | exact HB.out | apply below_alloc | apply pw_below_drewN | apply below_drew1) | exact HB.out)) hb); clear HB; have HB := n0_; clear n0_; (try clear hb); (try clear hb2); (try clear hk); (try clear hi); (try clear hge)))
    (try simp only [Act.put, List.setIfInBounds_toArray, List.set_cons_zero, List.set_cons_succ])
    go_cut [20] (fun v20 wc => ∃ (kq : Nat) (x20_4 : Bool), v20 = .bool x20_4 ∧ Aside0 (madrigallaw13_VadFades.j0 kq l0 a1 x20_4 = some r) ∧ Aside0 (kq ≤ k) ∧ Aside0 (Below w.heap.size w wc))
    case first =>
      have H := HC5.out
      clear HC5
      by_cases c7 : (l0.length : Int) > 30
      · rw [if_pos c7] at H
        have c7b0 : decide (30 < (l0.length : Int)) = true := decide_eq_true c7
        have c7b1 : decide (30 < l0.length) = true := decide_eq_true (by omega)
        clear c7
        (first | rw [c7b0] | (simp only [i64_w, i32_w]; rw [c7b0]) | skip)
        have H' := Aside0.mk H
        clear H
        go_wp2
        go_meet
        case rel => exact ⟨_, (true), (by first | rfl | (simp; done) | (simp [*]; done)), H', ⟨by first | omega | exact Nat.le_refl _⟩, ⟨by repeat (first | (with_reducible first | exact HB.out | apply below_alloc | apply pw_below_drewN | apply below_drew1) | exact HB.out)⟩⟩
      · rw [if_neg c7] at H
        have c7b0 : decide (30 < (l0.length : Int)) = false := decide_eq_false c7
        have c7b1 : decide (30 < l0.length) = false := decide_eq_false (by omega)
        clear c7
        (first | rw [c7b0] | (simp only [i64_w, i32_w]; rw [c7b0]) | skip)
        by_cases c8 : a1 < 0
        · rw [if_pos c8] at H
          have c8b0 : decide (a1 < 0) = true := decide_eq_true c8
          clear c8
          have H' := Aside0.mk H
          clear H
          go_wp2
          go_meet
          case rel => exact ⟨_, (true), (by first | rfl | (simp; done) | (simp [*]; done)), H', ⟨by first | omega | exact Nat.le_refl _⟩, ⟨by repeat (first | (with_reducible first | exact HB.out | apply below_alloc | apply pw_below_drewN | apply below_drew1) | exact HB.out)⟩⟩
        · rw [if_neg c8] at H
          have c8b0 : decide (a1 < 0) = false := decide_eq_false c8
          clear c8
          have H' := Aside0.mk H
          clear H
          go_wp2
          go_meet
          case rel => exact ⟨_, (decide (a1 > 60)), (by first | rfl | (simp; done) | (simp [*]; done)), H', ⟨by first | omega | exact Nat.le_refl _⟩, ⟨by repeat (first | (with_reducible first | exact HB.out | apply below_alloc | apply pw_below_drewN | apply below_drew1) | exact HB.out)⟩⟩
    case rest =>
      clear HC5
      try clear c1
      try clear p2
      try clear c4
      try clear c5
      try clear c7
      try clear c7b0
      try clear c7b1
      try clear c8
      try clear c8b0
      obtain ⟨kq, x20_4, rfl, HA, HJ4, HB⟩ := hcut
      (try simp only [i64_w, i32_w])
      cases kq with
      | zero => exact absurd HA.out (by simp [madrigallaw13_VadFades.j0])
      | succ kj4 =>
        have H := HA.out
        clear HA
        simp only [madrigallaw13_VadFades.j0] at H
        by_cases c9 : x20_4 = true
        · subst c9
          have H1 : (some true) = some r := by rw [if_pos rfl] at H; exact H
          clear H
          have H := H1
          clear H1
          obtain rfl := Option.some.inj H
          go_wp2
          go_ret
          exact ⟨by first | rfl | (simp [errW_none, errW_some] <;> rfl) | (simp [*, errW_none, errW_some] <;> rfl), by repeat (first | (with_reducible first | exact HB.out | apply below_alloc | apply pw_below_drewN | apply below_drew1) | exact HB.out)⟩
        · replace c9 := Bool.eq_false_iff.mpr c9
          subst c9
          have H1 : ((vad_New.f).bind fun bt244 => (madrigallaw13_VadFades.l0 kj4 l0 a1 0 bt244.1 bt244.2)) = some r := by rw [if_neg (show ¬ (false = true) by decide)] at H; exact H
          clear H
          have H := H1
          clear H1
          replace H := Option.bind_eq_some_iff.mp H
          obtain ⟨⟨t244, t245⟩, A100, H⟩ := H
          replace H : (madrigallaw13_VadFades.l0 kj4 l0 a1 0 t244 t245) = some r := H
          have A10 := Aside0.mk A100
          clear A100
          have H' := Aside0.mk H
          clear H
          go_wp2_with (first | ((with_reducible refine gate_callee (f := 16) rfl ?_); refine goesL_ (some 21) rfl rfl Try.func16 (by kernel_rfl) rfl #[] rfl (by (try simp only [List.map_toArray, List.map_cons, List.map_nil]); first | done | rfl | (simp only [List.length_drop, List.length_take]; rfl)) ?_; (with_reducible refine (vad_New.calls  t244 t245 w _ ?side1 A10.out).mono ?_); (case side1 => repeat (first | (with_reducible first | exact HB.out | apply below_alloc | apply pw_below_drewN | apply below_drew1) | exact HB.out)); rintro e w11 ⟨g246, rfl, hi, hb, hb2, hge⟩; refine ⟨_, rfl, ?_⟩; have n0_ := Aside0.mk (hb); have n1_ := Aside0.mk (hi); clear HB; have HB := n0_; have HI246 := n1_; clear n0_ n1_; (try clear hb); (try clear hb2); (try clear hk); (try clear hi); (try clear hge)))
          go_loopg [6] kj4 (fun kq v6 w' => ∃ (x6_2 : Int) (x247000_2 : Int) (x247001_2 : Int), v6 = .int .i64 x6_2 ∧ Aside0 (madrigallaw13_VadFades.l0 kq l0 a1 x6_2 x247000_2 x247001_2 = some r) ∧ Aside0 (kq ≤ kj4) ∧ Aside0 (IsS62 w w' g246 x247000_2 x247001_2) ∧ Aside0 (Below w.heap.size w w'))
          case atStart => exact ⟨(0), (t244), (t245), (by first | rfl | (simp; done) | (simp [*]; done)), H', ⟨Nat.le_refl _⟩, ⟨by repeat (first | (with_reducible first | exact HI246.out | apply IsS62.alloc | apply IsS62.drewN | apply IsS62.drew | apply IsS62.set_0 | apply IsS62.set_1) | exact HI246.out)⟩, ⟨by repeat (first | (with_reducible first | exact HB.out | apply below_alloc | apply pw_below_drewN | apply below_drew1 | refine below_set ?_ (IsS62.ge HI246.out)) | exact HB.out)⟩⟩
          case round =>
            clear H'
            try clear c1
            try clear p2
            try clear c4
            try clear c5
            try clear c7
            try clear c7b0
            try clear c7b1
            try clear c8
            try clear c8b0
            try clear c9
            try clear p2
            obtain ⟨x6_2, x247000_2, x247001_2, rfl, HA, HK2, HI246, HB⟩ := hrel
            (try simp only [i64_w, i32_w])
            cases gk with
            | zero => exact absurd HA.out (by simp [madrigallaw13_VadFades.l0])
            | succ k2 =>
              have H := HA.out
              clear HA
              simp only [madrigallaw13_VadFades.l0] at H
              by_cases c12 : x6_2 < (l0.length : Int)
              · rw [if_pos c12] at H
                have c12b0 : decide (x6_2 < (l0.length : Int)) = true := decide_eq_true c12
                clear c12
                by_cases c13 : 0 ≤ x6_2
                · rw [if_pos c13] at H
                  have c13b0 : decide (0 ≤ x6_2) = true := decide_eq_true c13
                  clear c13
                  replace H := Option.bind_eq_some_iff.mp H
                  obtain ⟨⟨t248, t249, t250⟩, A140, H⟩ := H
                  replace H : (madrigallaw13_VadFades.l0 k2 l0 a1 (wrap64 (x6_2 + 1)) t249 t250) = some r := H
                  have A14 := Aside0.mk A140
                  clear A140
                  have H' := Aside0.mk H
                  clear H
                  have p247 : 0 ≤ (x6_2 : Int) := of_decide_eq_true (by first | (with_reducible assumption) | assumption)
                  have q247 : x6_2 < (l0.length : Int) := of_decide_eq_true (by first | (with_reducible assumption) | assumption)
                  obtain ⟨ad247, A247_0, c247_0, e247, hx247_0, hl247_0, hi247_0⟩ := at_L1 HR0.out x6_2 p247 q247
                  cases e247
                  replace hx247_0 := (HB.out.cell (World.block_lt_of_cell? w _ hx247_0)).trans hx247_0
                  have HR247_0 := Aside0.mk hi247_0
                  have HC247_0 := Aside0.mk hl247_0
                  clear hi247_0 hl247_0
                  replace p247 := eq_true p247
                  replace q247 := eq_true q247
                  go_wp2_with (first | ((with_reducible refine gate_callee (f := 20) rfl ?_); refine goesL_ (some 33) rfl rfl Try.func20 (by kernel_rfl) rfl #[.pointer (some ⟨g246, 0, none⟩), .slice A247_0 (rd_L1 l0 x6_2).length c247_0] rfl (by (try simp only [List.map_toArray, List.map_cons, List.map_nil]); first | done | rfl | (simp only [List.length_drop, List.length_take]; rfl)) ?_; (with_reducible refine (vad_Meter_Step.calls k2 g246 x247000_2 x247001_2 _ _ (rd_L1 l0 x6_2) t248 t249 t250 w _ ?side1 ?side2 ?side3 ?side4 ?side5 A14.out).mono ?_); (case side1 => repeat (first | (with_reducible first | exact HI246.out | apply IsS62.alloc | apply IsS62.drewN | apply IsS62.drew | apply IsS62.set_0 | apply IsS62.set_1) | exact HI246.out)); (case side2 => repeat (first | (with_reducible first | exact HB.out | apply below_alloc | apply pw_below_drewN | apply below_drew1 | refine below_set ?_ (IsS62.ge HI246.out)) | exact HB.out)); (case side3 => repeat (first | exact (Kd.C_below HR247_0.out HB.out) | (with_reducible refine Kd.C_alloc ?_ _) | (with_reducible refine Kd.C_drewN ?_ _) | (with_reducible refine Kd.C_drew ?_))); (case side4 => exact HC247_0.out); (case side5 => exact Kd.far_C 0 HR247_0.out (IsS62.ge HI246.out)); rintro e w15 ⟨rfl, hi, hb, hk⟩; refine ⟨_, rfl, ?_⟩; have n0_ := Aside0.mk (hb); have n1_ := Aside0.mk (hi); clear HB; clear HI246; have HB := n0_; have HI246 := n1_; clear n0_ n1_; (try clear hb); (try clear hb2); (try clear hk); (try clear hi); (try clear hge)))
                  go_roundg k2
                  case measure => have := HJ4.out; have := HK2.out; omega
                  case rel => exact ⟨(wrap64 (x6_2 + 1)), (t249), (t250), (by first | rfl | (simp; done) | (simp [*]; done)), H', ⟨by have := HJ4.out; have := HK2.out; omega⟩, ⟨by repeat (first | (with_reducible first | exact HI246.out | apply IsS62.alloc | apply IsS62.drewN | apply IsS62.drew | apply IsS62.set_0 | apply IsS62.set_1) | exact HI246.out)⟩, ⟨by repeat (first | (with_reducible first | exact HB.out | apply below_alloc | apply pw_below_drewN | apply below_drew1 | refine below_set ?_ (IsS62.ge HI246.out)) | exact HB.out)⟩⟩
                · rw [if_neg c13] at H
                  exact absurd H (by simp)
              · rw [if_neg c12] at H
                have c12b0 : decide (x6_2 < (l0.length : Int)) = false := decide_eq_false c12
                clear c12
                have H' := Aside0.mk H
                clear H
                go_wp2
                go_loopg [7] k2 (fun kq v7 w' => ∃ (x7_3 : Int) (x247000_3 : Int) (x247001_3 : Int), v7 = .int .i64 x7_3 ∧ Aside0 (madrigallaw13_VadFades.l1 kq a1 x7_3 x247000_3 x247001_3 = some r) ∧ Aside0 (kq ≤ k2) ∧ Aside0 (IsS62 w w' g246 x247000_3 x247001_3) ∧ Aside0 (Below w.heap.size w w'))
                case atStart => exact ⟨(0), (x247000_2), (x247001_2), (by first | rfl | (simp; done) | (simp [*]; done)), H', ⟨Nat.le_refl _⟩, ⟨by repeat (first | (with_reducible first | exact HI246.out | apply IsS62.alloc | apply IsS62.drewN | apply IsS62.drew | apply IsS62.set_0 | apply IsS62.set_1) | exact HI246.out)⟩, ⟨by repeat (first | (with_reducible first | exact HB.out | apply below_alloc | apply pw_below_drewN | apply below_drew1 | refine below_set ?_ (IsS62.ge HI246.out)) | exact HB.out)⟩⟩
                case round =>
                  clear H'
                  try clear c1
                  try clear c2
                  try clear p2
                  try clear q2
                  try clear hx2
                  try clear c4
                  try clear c5
                  try clear p6
                  try clear c7
                  try clear c7b0
                  try clear c7b1
                  try clear c8
                  try clear c8b0
                  try clear c9
                  try clear c12
                  try clear c12b0
                  try clear c13
                  try clear c13b0
                  try clear c14
                  try clear hx247_0
                  try clear p2
                  try clear p247
                  try clear q247
                  obtain ⟨x7_3, x247000_3, x247001_3, rfl, HA, HK3, HI246, HB⟩ := hrel
                  (try simp only [i64_w, i32_w])
                  cases gk with
                  | zero => exact absurd HA.out (by simp [madrigallaw13_VadFades.l1])
                  | succ k3 =>
                    have H := HA.out
                    clear HA
                    simp only [madrigallaw13_VadFades.l1] at H
                    by_cases c16 : x7_3 < a1
                    · rw [if_pos c16] at H
                      have c16b0 : decide (x7_3 < a1) = true := decide_eq_true c16
                      clear c16
                      by_cases c17 : 80 ≤ 35184372088832
                      · rw [if_pos c17] at H
                        have c17b0 := eq_true c17
                        have c17b1 : decide (80 ≤ 35184372088832) = true := decide_eq_true c17
                        clear c17
                        obtain ⟨y251, hy251⟩ : ∃ y_ : List Int, y_ = (List.replicate 80 0) := ⟨_, rfl⟩
                        replace H : ((vad_Meter_Step.f k3 x247000_3 x247001_3 y251).bind fun bt254 => (if bt254.1 = true then (if x7_3 ≥ 4 then (none) else ((vad_Meter_Floor.f bt254.2.1 bt254.2.2).bind fun bt257 => (if bt257.1 = 0 then (madrigallaw13_VadFades.l1 k3 a1 (wrap64 (x7_3 + 1)) bt257.2.1 bt257.2.2) else (none)))) else ((vad_Meter_Floor.f bt254.2.1 bt254.2.2).bind fun bt260 => (if bt260.1 = 0 then (madrigallaw13_VadFades.l1 k3 a1 (wrap64 (x7_3 + 1)) bt260.2.1 bt260.2.2) else (none))))) = some r := by first | (rw [hy251]; with_reducible exact H) | (have H2_ := (Option.bind_some _ _).symm.trans H; rw [hy251]; with_reducible exact H2_) | (have H2_ := (Option.bind_some _ _).symm.trans H; with_reducible exact H2_) | with_reducible exact H | (rw [hy251]; exact H) | exact H
                        have Ny251 := Aside0.mk hy251
                        clear hy251
                        replace H := Option.bind_eq_some_iff.mp H
                        obtain ⟨⟨t254, t255, t256⟩, A180, H⟩ := H
                        replace H : (if t254 = true then (if x7_3 ≥ 4 then (none) else ((vad_Meter_Floor.f t255 t256).bind fun bt257 => (if bt257.1 = 0 then (madrigallaw13_VadFades.l1 k3 a1 (wrap64 (x7_3 + 1)) bt257.2.1 bt257.2.2) else (none)))) else ((vad_Meter_Floor.f t255 t256).bind fun bt260 => (if bt260.1 = 0 then (madrigallaw13_VadFades.l1 k3 a1 (wrap64 (x7_3 + 1)) bt260.2.1 bt260.2.2) else (none)))) = some r := H
                        have A18 := Aside0.mk A180
                        clear A180
                        by_cases c19 : t254 = true
                        · subst c19
                          have H1 : (if x7_3 ≥ 4 then (none) else ((vad_Meter_Floor.f t255 t256).bind fun bt257 => (if bt257.1 = 0 then (madrigallaw13_VadFades.l1 k3 a1 (wrap64 (x7_3 + 1)) bt257.2.1 bt257.2.2) else (none)))) = some r := by rw [if_pos rfl] at H; exact H
                          clear H
                          have H := H1
                          clear H1
                          by_cases c20 : x7_3 ≥ 4
                          · rw [if_pos c20] at H
                            exact absurd H (by simp)
                          · rw [if_neg c20] at H
                            have c20b0 : decide (4 ≤ x7_3) = false := decide_eq_false c20
                            clear c20
                            replace H := Option.bind_eq_some_iff.mp H
                            obtain ⟨⟨t257, t258, t259⟩, A210, H⟩ := H
                            replace H : (if t257 = 0 then (madrigallaw13_VadFades.l1 k3 a1 (wrap64 (x7_3 + 1)) t258 t259) else (none)) = some r := H
                            have A21 := Aside0.mk A210
                            clear A210
                            by_cases c22 : t257 = 0
                            · rw [if_pos c22] at H
                              have c22b0 : (t257 == 0) = true := beq_iff_eq.mpr c22
                              have c22b1 : (t257 != 0) = false := bne_eq_false_iff_eq.mpr c22
                              clear c22
                              have H' := Aside0.mk H
                              clear H
                              go_wp2_with (first | ((with_reducible refine gate_dst (N := 40) rfl ?_); refine Kd.R_make (Kd.int .i64) _ 2 rfl (N := 40) rfl 28 _ _ rfl 80 rfl rfl Try.underlying28 (.int .i64 0) 8 info2 rfl (by decide) (by omega) 0 (ok := fun _ => True) (okp := fun _ => True) rfl (fun _ hk => hk) trivial (by omega) (by omega) (Below.refl _ _) (Nat.le_refl _) ?_; intro v252 w23 ho24 hb hg_ hnew_; clear hg_ hnew_; (first | rw [← Ny251.out] at ho24 | (simp only [Int.reduceToNat] at ho24; rw [← Ny251.out] at ho24)); have n0_ := Aside0.mk (Kd.R_lower ho24 (below_size (by repeat (first | (with_reducible first | exact HB.out | apply below_alloc | apply pw_below_drewN | apply below_drew1 | refine below_set ?_ (IsS62.ge HI246.out)) | exact HB.out)))); have n1_ := Aside0.mk (IsS62.below (by repeat (first | (with_reducible first | exact HI246.out | apply IsS62.alloc | apply IsS62.drewN | apply IsS62.drew | apply IsS62.set_0 | apply IsS62.set_1) | exact HI246.out)) hb); have n2_ := Aside0.mk (below_step (by repeat (first | (with_reducible first | exact HB.out | apply below_alloc | apply pw_below_drewN | apply below_drew1 | refine below_set ?_ (IsS62.ge HI246.out)) | exact HB.out)) hb); clear HI246; clear HB; have HO253 := n0_; have HI246 := n1_; have HB := n2_; clear n0_ n1_ n2_; clear hb ho24; obtain ⟨Ao25, co25, eo25⟩ := Kd.R_slice HO253.out; subst eo25) | ((with_reducible refine gate_callee (f := 20) rfl ?_); refine goesL_ (some 41) rfl rfl Try.func20 (by kernel_rfl) rfl #[.pointer (some ⟨g246, 0, none⟩), .slice Ao25 y251.length co25] rfl (by (try simp only [List.map_toArray, List.map_cons, List.map_nil]); first | done | rfl | (simp only [List.length_drop, List.length_take]; rfl)) ?_; (with_reducible refine (vad_Meter_Step.calls k3 g246 x247000_3 x247001_3 _ _ y251 true t255 t256 w _ ?side1 ?side2 ?side3 ?side4 ?side5 A18.out).mono ?_); (case side1 => repeat (first | (with_reducible first | exact HI246.out | apply IsS62.alloc | apply IsS62.drewN | apply IsS62.drew | apply IsS62.set_0 | apply IsS62.set_1) | exact HI246.out)); (case side2 => repeat (first | (with_reducible first | exact HB.out | apply below_alloc | apply pw_below_drewN | apply below_drew1 | refine below_set ?_ (IsS62.ge HI246.out)) | exact HB.out)); (case side3 => repeat (first | exact (Kd.R_reads' HO253.out).2.2 | (with_reducible refine Kd.C_alloc ?_ _) | (with_reducible refine Kd.C_drewN ?_ _) | (with_reducible refine Kd.C_drew ?_))); (case side4 => exact (Kd.R_reads' HO253.out).2.1); (case side5 => exact far_slice (IsS62.own_ne HI246.out HO253.out (by decide))); rintro e w26 ⟨rfl, hi, hb, hk⟩; refine ⟨_, rfl, ?_⟩; have n0_ := Aside0.mk (Kd.R_mono (Kd.R_keep (IsS62.apart (show IsS62 w _ g246 x247000_3 x247001_3 from by repeat (first | (with_reducible first | exact HI246.out | apply IsS62.alloc | apply IsS62.drewN | apply IsS62.drew | apply IsS62.set_0 | apply IsS62.set_1) | exact HI246.out)) (by (with_reducible repeat (first | apply Kd.R_alloc | apply Kd.R_drewN | apply Kd.R_drew)); exact HO253.out) (by decide)) hk (fun _ h => h.2)) (fun _ h => h.1)); have n1_ := Aside0.mk (hb); have n2_ := Aside0.mk (hi); clear HO253; clear HB; clear HI246; have HO253 := n0_; have HB := n1_; have HI246 := n2_; clear n0_ n1_ n2_; (try clear hb); (try clear hb2); (try clear hk); (try clear hi); (try clear hge)) | (go_at_call 21; (with_reducible refine (vad_Meter_Floor.calls g246 t255 t256 t257 t258 t259 w _ ?side1 ?side2 A21.out).mono ?_); (case side1 => repeat (first | (with_reducible first | exact HI246.out | apply IsS62.alloc | apply IsS62.drewN | apply IsS62.drew | apply IsS62.set_0 | apply IsS62.set_1) | exact HI246.out)); (case side2 => repeat (first | (with_reducible first | exact HB.out | apply below_alloc | apply pw_below_drewN | apply below_drew1 | refine below_set ?_ (IsS62.ge HI246.out)) | exact HB.out)); rintro e w27 ⟨rfl, hi, hb, hk⟩; have n0_ := Aside0.mk (Kd.R_mono (Kd.R_keep (IsS62.apart (show IsS62 w _ g246 t255 t256 from by repeat (first | (with_reducible first | exact HI246.out | apply IsS62.alloc | apply IsS62.drewN | apply IsS62.drew | apply IsS62.set_0 | apply IsS62.set_1) | exact HI246.out)) (by (with_reducible repeat (first | apply Kd.R_alloc | apply Kd.R_drewN | apply Kd.R_drew)); exact HO253.out) (by decide)) hk (fun _ h => h.2)) (fun _ h => h.1)); have n1_ := Aside0.mk (hb); have n2_ := Aside0.mk (hi); clear HO253; clear HB; clear HI246; have HO253 := n0_; have HB := n1_; have HI246 := n2_; clear n0_ n1_ n2_; (try clear hb); (try clear hb2); (try clear hk); (try clear hi); (try clear hge)))
                              go_roundg k3
                              case measure => have := HJ4.out; have := HK2.out; have := HK3.out; omega
                              case rel => exact ⟨(wrap64 (x7_3 + 1)), (t258), (t259), (by first | rfl | (simp; done) | (simp [*]; done)), H', ⟨by have := HJ4.out; have := HK2.out; have := HK3.out; omega⟩, ⟨by repeat (first | (with_reducible first | exact HI246.out | apply IsS62.alloc | apply IsS62.drewN | apply IsS62.drew | apply IsS62.set_0 | apply IsS62.set_1) | exact HI246.out)⟩, ⟨by repeat (first | (with_reducible first | exact HB.out | apply below_alloc | apply pw_below_drewN | apply below_drew1 | refine below_set ?_ (IsS62.ge HI246.out)) | exact HB.out)⟩⟩
                            · rw [if_neg c22] at H
                              exact absurd H (by simp)
                        · replace c19 := Bool.eq_false_iff.mpr c19
                          subst c19
                          have H1 : ((vad_Meter_Floor.f t255 t256).bind fun bt260 => (if bt260.1 = 0 then (madrigallaw13_VadFades.l1 k3 a1 (wrap64 (x7_3 + 1)) bt260.2.1 bt260.2.2) else (none))) = some r := by rw [if_neg (show ¬ (false = true) by decide)] at H; exact H
                          clear H
                          have H := H1
                          clear H1
                          replace H := Option.bind_eq_some_iff.mp H
                          obtain ⟨⟨t260, t261, t262⟩, A280, H⟩ := H
                          replace H : (if t260 = 0 then (madrigallaw13_VadFades.l1 k3 a1 (wrap64 (x7_3 + 1)) t261 t262) else (none)) = some r := H
                          have A28 := Aside0.mk A280
                          clear A280
                          by_cases c29 : t260 = 0
                          · rw [if_pos c29] at H
                            have c29b0 : (t260 == 0) = true := beq_iff_eq.mpr c29
                            have c29b1 : (t260 != 0) = false := bne_eq_false_iff_eq.mpr c29
                            clear c29
                            have H' := Aside0.mk H
                            clear H
                            go_wp2_with (first | ((with_reducible refine gate_dst (N := 40) rfl ?_); refine Kd.R_make (Kd.int .i64) _ 2 rfl (N := 40) rfl 28 _ _ rfl 80 rfl rfl Try.underlying28 (.int .i64 0) 8 info2 rfl (by decide) (by omega) 0 (ok := fun _ => True) (okp := fun _ => True) rfl (fun _ hk => hk) trivial (by omega) (by omega) (Below.refl _ _) (Nat.le_refl _) ?_; intro v252 w30 ho31 hb hg_ hnew_; clear hg_ hnew_; (first | rw [← Ny251.out] at ho31 | (simp only [Int.reduceToNat] at ho31; rw [← Ny251.out] at ho31)); have n0_ := Aside0.mk (Kd.R_lower ho31 (below_size (by repeat (first | (with_reducible first | exact HB.out | apply below_alloc | apply pw_below_drewN | apply below_drew1 | refine below_set ?_ (IsS62.ge HI246.out)) | exact HB.out)))); have n1_ := Aside0.mk (IsS62.below (by repeat (first | (with_reducible first | exact HI246.out | apply IsS62.alloc | apply IsS62.drewN | apply IsS62.drew | apply IsS62.set_0 | apply IsS62.set_1) | exact HI246.out)) hb); have n2_ := Aside0.mk (below_step (by repeat (first | (with_reducible first | exact HB.out | apply below_alloc | apply pw_below_drewN | apply below_drew1 | refine below_set ?_ (IsS62.ge HI246.out)) | exact HB.out)) hb); clear HI246; clear HB; have HO253 := n0_; have HI246 := n1_; have HB := n2_; clear n0_ n1_ n2_; clear hb ho31; obtain ⟨Ao32, co32, eo32⟩ := Kd.R_slice HO253.out; subst eo32) | ((with_reducible refine gate_callee (f := 20) rfl ?_); refine goesL_ (some 41) rfl rfl Try.func20 (by kernel_rfl) rfl #[.pointer (some ⟨g246, 0, none⟩), .slice Ao32 y251.length co32] rfl (by (try simp only [List.map_toArray, List.map_cons, List.map_nil]); first | done | rfl | (simp only [List.length_drop, List.length_take]; rfl)) ?_; (with_reducible refine (vad_Meter_Step.calls k3 g246 x247000_3 x247001_3 _ _ y251 false t255 t256 w _ ?side1 ?side2 ?side3 ?side4 ?side5 A18.out).mono ?_); (case side1 => repeat (first | (with_reducible first | exact HI246.out | apply IsS62.alloc | apply IsS62.drewN | apply IsS62.drew | apply IsS62.set_0 | apply IsS62.set_1) | exact HI246.out)); (case side2 => repeat (first | (with_reducible first | exact HB.out | apply below_alloc | apply pw_below_drewN | apply below_drew1 | refine below_set ?_ (IsS62.ge HI246.out)) | exact HB.out)); (case side3 => repeat (first | exact (Kd.R_reads' HO253.out).2.2 | (with_reducible refine Kd.C_alloc ?_ _) | (with_reducible refine Kd.C_drewN ?_ _) | (with_reducible refine Kd.C_drew ?_))); (case side4 => exact (Kd.R_reads' HO253.out).2.1); (case side5 => exact far_slice (IsS62.own_ne HI246.out HO253.out (by decide))); rintro e w33 ⟨rfl, hi, hb, hk⟩; refine ⟨_, rfl, ?_⟩; have n0_ := Aside0.mk (Kd.R_mono (Kd.R_keep (IsS62.apart (show IsS62 w _ g246 x247000_3 x247001_3 from by repeat (first | (with_reducible first | exact HI246.out | apply IsS62.alloc | apply IsS62.drewN | apply IsS62.drew | apply IsS62.set_0 | apply IsS62.set_1) | exact HI246.out)) (by (with_reducible repeat (first | apply Kd.R_alloc | apply Kd.R_drewN | apply Kd.R_drew)); exact HO253.out) (by decide)) hk (fun _ h => h.2)) (fun _ h => h.1)); have n1_ := Aside0.mk (hb); have n2_ := Aside0.mk (hi); clear HO253; clear HB; clear HI246; have HO253 := n0_; have HB := n1_; have HI246 := n2_; clear n0_ n1_ n2_; (try clear hb); (try clear hb2); (try clear hk); (try clear hi); (try clear hge)) | (go_at_call 21; (with_reducible refine (vad_Meter_Floor.calls g246 t255 t256 t260 t261 t262 w _ ?side1 ?side2 A28.out).mono ?_); (case side1 => repeat (first | (with_reducible first | exact HI246.out | apply IsS62.alloc | apply IsS62.drewN | apply IsS62.drew | apply IsS62.set_0 | apply IsS62.set_1) | exact HI246.out)); (case side2 => repeat (first | (with_reducible first | exact HB.out | apply below_alloc | apply pw_below_drewN | apply below_drew1 | refine below_set ?_ (IsS62.ge HI246.out)) | exact HB.out)); rintro e w34 ⟨rfl, hi, hb, hk⟩; have n0_ := Aside0.mk (Kd.R_mono (Kd.R_keep (IsS62.apart (show IsS62 w _ g246 t255 t256 from by repeat (first | (with_reducible first | exact HI246.out | apply IsS62.alloc | apply IsS62.drewN | apply IsS62.drew | apply IsS62.set_0 | apply IsS62.set_1) | exact HI246.out)) (by (with_reducible repeat (first | apply Kd.R_alloc | apply Kd.R_drewN | apply Kd.R_drew)); exact HO253.out) (by decide)) hk (fun _ h => h.2)) (fun _ h => h.1)); have n1_ := Aside0.mk (hb); have n2_ := Aside0.mk (hi); clear HO253; clear HB; clear HI246; have HO253 := n0_; have HB := n1_; have HI246 := n2_; clear n0_ n1_ n2_; (try clear hb); (try clear hb2); (try clear hk); (try clear hi); (try clear hge)))
                            go_roundg k3
                            case measure => have := HJ4.out; have := HK2.out; have := HK3.out; omega
                            case rel => exact ⟨(wrap64 (x7_3 + 1)), (t261), (t262), (by first | rfl | (simp; done) | (simp [*]; done)), H', ⟨by have := HJ4.out; have := HK2.out; have := HK3.out; omega⟩, ⟨by repeat (first | (with_reducible first | exact HI246.out | apply IsS62.alloc | apply IsS62.drewN | apply IsS62.drew | apply IsS62.set_0 | apply IsS62.set_1) | exact HI246.out)⟩, ⟨by repeat (first | (with_reducible first | exact HB.out | apply below_alloc | apply pw_below_drewN | apply below_drew1 | refine below_set ?_ (IsS62.ge HI246.out)) | exact HB.out)⟩⟩
                          · rw [if_neg c29] at H
                            exact absurd H (by simp)
                      · rw [if_neg c17] at H
                        exact absurd H (by simp)
                    · rw [if_neg c16] at H
                      have c16b0 : decide (x7_3 < a1) = false := decide_eq_false c16
                      clear c16
                      obtain rfl := Option.some.inj H
                      go_wp2
                      go_ret
                      exact ⟨by first | rfl | (simp [errW_none, errW_some] <;> rfl) | (simp [*, errW_none, errW_some] <;> rfl), by repeat (first | (with_reducible first | exact HB.out | apply below_alloc | apply pw_below_drewN | apply below_drew1 | refine below_set ?_ (IsS62.ge HI246.out)) | exact HB.out)⟩
  · replace c4 := Bool.eq_false_iff.mpr c4
    subst c4
    have H1 : (none) = some r := by rw [if_neg (show ¬ (false = true) by decide)] at H; exact H
    clear H
    have H := H1
    clear H1
    exact absurd H (by simp)

/-- THE ONE PURE STATEMENT of madrigallaw13_VadFades. -/
def madrigallaw13_VadFades.Pure : Prop := ∀ (l0 : List (List Int)) (a1 : Int), l0.length ≤ maxLen → (∀ z ∈ l0, z.length ≤ maxLen ∧ ∀ x ∈ z, (Lit.int .i64 x).wf = true) → (Lit.int .i64 a1).wf = true → ∃ k, madrigallaw13_VadFades.f k l0 a1 = some true
theorem madrigallaw13_VadFades.walk (P : madrigallaw13_VadFades.Pure) (a0 : Option Addr) (len0 cap0 : Nat) (z0 : List (List Int)) (a1 : Int) (w : World) (w0 : Kd.C (Kd.slice 2 (Kd.int .i64)) w a0 len0 z0) (y0 : len0 ≤ cap0 ∧ z0.length ≤ maxLen ∧ ∀ z ∈ z0, z.length ≤ maxLen ∧ ∀ x ∈ z, (Lit.int .i64 x).wf = true) (w1 : (Lit.int .i64 a1).wf = true) :
    Calls Try.prog 5 #[.slice a0 len0 cap0, .int .i64 a1] w fun e w' => e = .returned (.bool true) ∧ Below w.heap.size w w' := by
  obtain ⟨y0, hm0, hw0⟩ := y0
  obtain rfl : z0.length = len0 := w0.1
  obtain ⟨k, h⟩ := P z0 a1 hm0 hw0 w1
  refine (madrigallaw13_VadFades.calls k _ _ z0 a1 true w w0 y0 h).mono ?_
  rintro e w' ⟨rfl, hd⟩
  exact ⟨rfl, hd⟩

end Go.Proofs.Ytdchabinakboeaa.P
