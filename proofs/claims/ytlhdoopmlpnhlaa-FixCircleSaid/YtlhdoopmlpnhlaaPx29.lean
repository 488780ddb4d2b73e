/- The machine side of the laws of one chapter, without conditions: each call of a Go function comes to what the Lean function of its name answers. Written for this claim by a program of the prover. -/
import Derived.Test.YtlhdoopmlpnhlaaPx0
import Derived.Test.YtlhdoopmlpnhlaaPx4
import Derived.Test.YtlhdoopmlpnhlaaPx12
import Derived.Test.YtlhdoopmlpnhlaaPx13
namespace Go.Proofs.Ytlhdoopmlpnhlaa.P
open Go.RowKit Go.Proofs.YtlhdoopmlpnhlaaW.PrintWords Go.Proofs.YtlhdoopmlpnhlaaW.PrintLast Go.Proofs.YtlhdoopmlpnhlaaW.PrintMore
attribute [local go_sem] max2_int min2_int max_two min_two max_three min_three max_four min_four   -- for this text's walks alone
set_option linter.unusedVariables false
set_option linter.unusedSimpArgs false

/-! ### madrigallaw1_FixCircle: function 6 -/
mutual
def madrigallaw1_FixCircle.j0 : Nat → Int → Int → Int → Bool → Option (Bool)
  | 0, _, _, _, _ => none
  | k + 1, x0, x3, x4, x33 => if x33 = true then (none) else (if x0 > 1152921504606846976 then (madrigallaw1_FixCircle.j1 k x0 x3 x4 true) else (madrigallaw1_FixCircle.j1 k x0 x3 x4 (decide (x0 < (-1152921504606846976)))))
def madrigallaw1_FixCircle.j1 : Nat → Int → Int → Int → Bool → Option (Bool)
  | 0, _, _, _, _ => none
  | k + 1, x0, x3, x4, x39 => if x39 = true then (some true) else ((fix_Cos.f k (wrap64 (-x0))).bind fun t244 => (if t244 = x3 then ((fix_Sin.f k (wrap64 (-x0))).bind fun t245 => (if t245 = (wrap64 (-x4)) then ((fix_Cos.f k (wrap64 (x0 + 65536))).bind fun t246 => (if t246 = x3 then ((fix_Cos.f k (wrap64 (x0 + 32768))).bind fun t247 => (if t247 = (wrap64 (-x3)) then ((fix_Sin.f k (wrap64 (x0 + 16384))).bind fun t248 => (some (t248 == x3))) else (none))) else (none))) else (none))) else (none)))
end
def madrigallaw1_FixCircle.f (k : Nat) (a0 : Int) : Option (Bool) := (madrigallaw1_awake.f k).bind fun t241 => (if t241 = true then ((fix_Cos.f k a0).bind fun t242 => ((fix_Sin.f k a0).bind fun t243 => (if (wrap64 ((wrap64 ((wrap64 (t242 * t242)) + (wrap64 (t243 * t243)))) - 1073741824)) > 262144 then (madrigallaw1_FixCircle.j0 k a0 t242 t243 true) else (if (wrap64 ((wrap64 ((wrap64 (t242 * t242)) + (wrap64 (t243 * t243)))) - 1073741824)) < (-262144) then (madrigallaw1_FixCircle.j0 k a0 t242 t243 true) else (if t242 > 32768 then (madrigallaw1_FixCircle.j0 k a0 t242 t243 true) else (madrigallaw1_FixCircle.j0 k a0 t242 t243 (decide (t242 < (-32768))))))))) else (none))
theorem madrigallaw1_FixCircle.mono_l : ∀ k, (∀ y0 y1 y2 y3, LeO (madrigallaw1_FixCircle.j0 k y0 y1 y2 y3) (madrigallaw1_FixCircle.j0 (k + 1) y0 y1 y2 y3)) ∧ (∀ y0 y1 y2 y3, LeO (madrigallaw1_FixCircle.j1 k y0 y1 y2 y3) (madrigallaw1_FixCircle.j1 (k + 1) y0 y1 y2 y3))
  | 0 => ⟨fun _ _ _ _ r h => by simp [madrigallaw1_FixCircle.j0] at h, fun _ _ _ _ r h => by simp [madrigallaw1_FixCircle.j1] at h⟩
  | k + 1 => by
    obtain ⟨ih0, ih1⟩ := madrigallaw1_FixCircle.mono_l k
    refine ⟨?_, ?_⟩
    · intro y0 y1 y2 y3
      unfold madrigallaw1_FixCircle.j0
      repeat' first
      | (with_reducible exact ih0 _ _ _ _)
      | (with_reducible exact ih1 _ _ _ _)
      | (with_reducible exact fix_Cos.mono _ _)
      | (with_reducible exact fix_Sin.mono _ _)
      | (with_reducible exact madrigallaw1_awake.mono _)
      | (with_reducible exact LeO.refl _)
      | (with_reducible exact LeO.none _)
      | (with_reducible refine LeO.ite ?_ ?_)
      | (with_reducible refine LeO.bind ?_ (fun _ => ?_))
      | exact ih0 _ _ _ _
      | exact ih1 _ _ _ _
      | exact fix_Cos.mono _ _
      | exact fix_Sin.mono _ _
      | exact madrigallaw1_awake.mono _
      | exact LeO.none _
      | refine LeO.ite ?_ ?_
      | refine LeO.bind ?_ (fun _ => ?_)
    · intro y0 y1 y2 y3
      unfold madrigallaw1_FixCircle.j1
      repeat' first
      | (with_reducible exact ih0 _ _ _ _)
      | (with_reducible exact ih1 _ _ _ _)
      | (with_reducible exact fix_Cos.mono _ _)
      | (with_reducible exact fix_Sin.mono _ _)
      | (with_reducible exact madrigallaw1_awake.mono _)
      | (with_reducible exact LeO.refl _)
      | (with_reducible exact LeO.none _)
      | (with_reducible refine LeO.ite ?_ ?_)
      | (with_reducible refine LeO.bind ?_ (fun _ => ?_))
      | exact ih0 _ _ _ _
      | exact ih1 _ _ _ _
      | exact fix_Cos.mono _ _
      | exact fix_Sin.mono _ _
      | exact madrigallaw1_awake.mono _
      | exact LeO.none _
      | refine LeO.ite ?_ ?_
      | refine LeO.bind ?_ (fun _ => ?_)
theorem madrigallaw1_FixCircle.mono : ∀ a0 k, LeO (madrigallaw1_FixCircle.f k a0) (madrigallaw1_FixCircle.f (k + 1) a0) := by
  intro a0 k
  obtain ⟨ih0, ih1⟩ := madrigallaw1_FixCircle.mono_l k
  unfold madrigallaw1_FixCircle.f
  repeat' first
      | (with_reducible exact ih0 _ _ _ _)
      | (with_reducible exact ih1 _ _ _ _)
      | (with_reducible exact fix_Cos.mono _ _)
      | (with_reducible exact fix_Sin.mono _ _)
      | (with_reducible exact madrigallaw1_awake.mono _)
      | (with_reducible exact LeO.refl _)
      | (with_reducible exact LeO.none _)
      | (with_reducible refine LeO.ite ?_ ?_)
      | (with_reducible refine LeO.bind ?_ (fun _ => ?_))
      | exact ih0 _ _ _ _
      | exact ih1 _ _ _ _
      | exact fix_Cos.mono _ _
      | exact fix_Sin.mono _ _
      | exact madrigallaw1_awake.mono _
      | exact LeO.none _
      | refine LeO.ite ?_ ?_
      | refine LeO.bind ?_ (fun _ => ?_)
set_option maxHeartbeats 8000000 in
set_option maxRecDepth 100000 in
theorem madrigallaw1_FixCircle.calls (k : Nat) (a0 : Int) (r : Bool) (w : World) (h : madrigallaw1_FixCircle.f k a0 = some r) :
    Calls Try.prog 6 #[.int .i64 a0] w fun e w' => e = .returned (.bool r) ∧ Below w.heap.size w w' := by
  have HB := Aside0.mk (Below.refl w.heap.size w)
  have H : ((madrigallaw1_awake.f k).bind fun t241 => (if t241 = true then ((fix_Cos.f k a0).bind fun t242 => ((fix_Sin.f k a0).bind fun t243 => (if (wrap64 ((wrap64 ((wrap64 (t242 * t242)) + (wrap64 (t243 * t243)))) - 1073741824)) > 262144 then (madrigallaw1_FixCircle.j0 k a0 t242 t243 true) else (if (wrap64 ((wrap64 ((wrap64 (t242 * t242)) + (wrap64 (t243 * t243)))) - 1073741824)) < (-262144) then (madrigallaw1_FixCircle.j0 k a0 t242 t243 true) else (if t242 > 32768 then (madrigallaw1_FixCircle.j0 k a0 t242 t243 true) else (madrigallaw1_FixCircle.j0 k a0 t242 t243 (decide (t242 < (-32768))))))))) else (none))) = some r := h
  clear h
  replace H := Option.bind_eq_some_iff.mp H
  obtain ⟨t241, A20, H⟩ := H
  replace H : (if t241 = true then ((fix_Cos.f k a0).bind fun t242 => ((fix_Sin.f k a0).bind fun t243 => (if (wrap64 ((wrap64 ((wrap64 (t242 * t242)) + (wrap64 (t243 * t243)))) - 1073741824)) > 262144 then (madrigallaw1_FixCircle.j0 k a0 t242 t243 true) else (if (wrap64 ((wrap64 ((wrap64 (t242 * t242)) + (wrap64 (t243 * t243)))) - 1073741824)) < (-262144) then (madrigallaw1_FixCircle.j0 k a0 t242 t243 true) else (if t242 > 32768 then (madrigallaw1_FixCircle.j0 k a0 t242 t243 true) else (madrigallaw1_FixCircle.j0 k a0 t242 t243 (decide (t242 < (-32768))))))))) else (none)) = some r := H
  have A2 := Aside0.mk A20
  clear A20
  by_cases c3 : t241 = true
  · subst c3
    have H1 : ((fix_Cos.f k a0).bind fun t242 => ((fix_Sin.f k a0).bind fun t243 => (if (wrap64 ((wrap64 ((wrap64 (t242 * t242)) + (wrap64 (t243 * t243)))) - 1073741824)) > 262144 then (madrigallaw1_FixCircle.j0 k a0 t242 t243 true) else (if (wrap64 ((wrap64 ((wrap64 (t242 * t242)) + (wrap64 (t243 * t243)))) - 1073741824)) < (-262144) then (madrigallaw1_FixCircle.j0 k a0 t242 t243 true) else (if t242 > 32768 then (madrigallaw1_FixCircle.j0 k a0 t242 t243 true) else (madrigallaw1_FixCircle.j0 k a0 t242 t243 (decide (t242 < (-32768))))))))) = some r := by rw [if_pos rfl] at H; exact H
    clear H
    have H := H1
    clear H1
    replace H := Option.bind_eq_some_iff.mp H
    obtain ⟨t242, A40, H⟩ := H
    replace H : ((fix_Sin.f k a0).bind fun t243 => (if (wrap64 ((wrap64 ((wrap64 (t242 * t242)) + (wrap64 (t243 * t243)))) - 1073741824)) > 262144 then (madrigallaw1_FixCircle.j0 k a0 t242 t243 true) else (if (wrap64 ((wrap64 ((wrap64 (t242 * t242)) + (wrap64 (t243 * t243)))) - 1073741824)) < (-262144) then (madrigallaw1_FixCircle.j0 k a0 t242 t243 true) else (if t242 > 32768 then (madrigallaw1_FixCircle.j0 k a0 t242 t243 true) else (madrigallaw1_FixCircle.j0 k a0 t242 t243 (decide (t242 < (-32768)))))))) = some r := H
    have A4 := Aside0.mk A40
    clear A40
    replace H := Option.bind_eq_some_iff.mp H
    obtain ⟨t243, A50, H⟩ := H
    replace H : (if (wrap64 ((wrap64 ((wrap64 (t242 * t242)) + (wrap64 (t243 * t243)))) - 1073741824)) > 262144 then (madrigallaw1_FixCircle.j0 k a0 t242 t243 true) else (if (wrap64 ((wrap64 ((wrap64 (t242 * t242)) + (wrap64 (t243 * t243)))) - 1073741824)) < (-262144) then (madrigallaw1_FixCircle.j0 k a0 t242 t243 true) else (if t242 > 32768 then (madrigallaw1_FixCircle.j0 k a0 t242 t243 true) else (madrigallaw1_FixCircle.j0 k a0 t242 t243 (decide (t242 < (-32768))))))) = some r := H
    have A5 := Aside0.mk A50
    clear A50
    have HC6 := Aside0.mk H
    clear H
    go_enter Try.func6, Try.ntmps6
    go_upto_region 6 with (first | ((with_reducible refine gate_callee (f := 11) rfl ?_); refine goesL_ (some 6) rfl rfl Try.func11 (by kernel_rfl) rfl #[] rfl (by (try simp only [List.map_toArray, List.map_cons, List.map_nil]); first | done | rfl | (simp only [List.length_drop, List.length_take]; rfl)) ?_; (with_reducible refine (madrigallaw1_awake.calls k  true _ A2.out).mono ?_); rintro e w7 ⟨rfl, hb⟩; refine ⟨_, rfl, ?_⟩; have n0_ := Aside0.mk (below_step (by repeat (first | (with_reducible first | exact HB.out | apply below_alloc | apply pw_below_drewN | apply below_drew1) | exact HB.out)) hb); clear HB; have HB := n0_; clear n0_; (try clear hb); (try clear hb2); (try clear hk); (try clear hi); (try clear hge)) | ((with_reducible refine gate_callee (f := 12) rfl ?_); refine goesL_ (some 9) rfl rfl Try.func12 (by kernel_rfl) rfl #[.int .i64 a0] rfl (by (try simp only [List.map_toArray, List.map_cons, List.map_nil]); first | done | rfl | (simp only [List.length_drop, List.length_take]; rfl)) ?_; (with_reducible refine (fix_Cos.calls k a0 t242 _ A4.out).mono ?_); rintro e w8 ⟨rfl, hb⟩; refine ⟨_, rfl, ?_⟩; have n0_ := Aside0.mk (below_step (by repeat (first | (with_reducible first | exact HB.out | apply below_alloc | apply pw_below_drewN | apply below_drew1) | exact HB.out)) hb); clear HB; have HB := n0_; clear n0_; (try clear hb); (try clear hb2); (try clear hk); (try clear hi); (try clear hge)) | ((with_reducible refine gate_callee (f := 31) rfl ?_); refine goesL_ (some 11) rfl rfl Try.func31 (by kernel_rfl) rfl #[.int .i64 a0] rfl (by (try simp only [List.map_toArray, List.map_cons, List.map_nil]); first | done | rfl | (simp only [List.length_drop, List.length_take]; rfl)) ?_; (with_reducible refine (fix_Sin.calls k a0 t243 _ A5.out).mono ?_); rintro e w9 ⟨rfl, hb⟩; refine ⟨_, rfl, ?_⟩; have n0_ := Aside0.mk (below_step (by repeat (first | (with_reducible first | exact HB.out | apply below_alloc | apply pw_below_drewN | apply below_drew1) | exact HB.out)) hb); clear HB; have HB := n0_; clear n0_; (try clear hb); (try clear hb2); (try clear hk); (try clear hi); (try clear hge)))
    (try simp only [Act.put, List.setIfInBounds_toArray, List.set_cons_zero, List.set_cons_succ])
    go_cut [33] (fun v33 wc => ∃ (kq : Nat) (x33_5 : Bool), v33 = .bool x33_5 ∧ Aside0 (madrigallaw1_FixCircle.j0 kq a0 t242 t243 x33_5 = some r) ∧ Aside0 (kq ≤ k) ∧ Aside0 (Below w.heap.size w wc))
    case first =>
      have H := HC6.out
      clear HC6
      by_cases c10 : (wrap64 ((wrap64 ((wrap64 (t242 * t242)) + (wrap64 (t243 * t243)))) - 1073741824)) > 262144
      · rw [if_pos c10] at H
        have c10b0 : decide (262144 < (wrap64 ((wrap64 ((wrap64 (t242 * t242)) + (wrap64 (t243 * t243)))) - 1073741824))) = true := decide_eq_true c10
        clear c10
        (first | rw [c10b0] | (simp only [i64_w, i32_w]; rw [c10b0]) | skip)
        have H' := Aside0.mk H
        clear H
        go_wp2
        refine Met.intro ?_
        go_step
        (repeat apply Exists.intro)
        first | refine ⟨?rel122, rfl⟩ | (refine ⟨?rel122, ?st122⟩; case' st122 => (first | rw [c10b0] | simp only [c10b0]))
        case rel122 => exact ⟨_, (true), (by first | rfl | (simp; done) | (simp [*]; done)), H', ⟨by first | omega | exact Nat.le_refl _⟩, ⟨by repeat (first | (with_reducible first | exact HB.out | apply below_alloc | apply pw_below_drewN | apply below_drew1) | exact HB.out)⟩⟩
      · rw [if_neg c10] at H
        have c10b0 : decide (262144 < (wrap64 ((wrap64 ((wrap64 (t242 * t242)) + (wrap64 (t243 * t243)))) - 1073741824))) = false := decide_eq_false c10
        clear c10
        (first | rw [c10b0] | (simp only [i64_w, i32_w]; rw [c10b0]) | skip)
        by_cases c11 : (wrap64 ((wrap64 ((wrap64 (t242 * t242)) + (wrap64 (t243 * t243)))) - 1073741824)) < (-262144)
        · rw [if_pos c11] at H
          have c11b0 : decide ((wrap64 ((wrap64 ((wrap64 (t242 * t242)) + (wrap64 (t243 * t243)))) - 1073741824)) < (-262144)) = true := decide_eq_true c11
          clear c11
          have H' := Aside0.mk H
          clear H
          go_wp2
          refine Met.intro ?_
          go_step
          (repeat apply Exists.intro)
          first | refine ⟨?rel135, rfl⟩ | (refine ⟨?rel135, ?st135⟩; case' st135 => (first | rw [c11b0] | simp only [c11b0]))
          case rel135 => exact ⟨_, (true), (by first | rfl | (simp; done) | (simp [*]; done)), H', ⟨by first | omega | exact Nat.le_refl _⟩, ⟨by repeat (first | (with_reducible first | exact HB.out | apply below_alloc | apply pw_below_drewN | apply below_drew1) | exact HB.out)⟩⟩
        · rw [if_neg c11] at H
          have c11b0 : decide ((wrap64 ((wrap64 ((wrap64 (t242 * t242)) + (wrap64 (t243 * t243)))) - 1073741824)) < (-262144)) = false := decide_eq_false c11
          clear c11
          by_cases c12 : t242 > 32768
          · rw [if_pos c12] at H
            have c12b0 : decide (32768 < t242) = true := decide_eq_true c12
            clear c12
            have H' := Aside0.mk H
            clear H
            go_wp2
            refine Met.intro ?_
            go_step
            (repeat apply Exists.intro)
            first | refine ⟨?rel147, rfl⟩ | (refine ⟨?rel147, ?st147⟩; case' st147 => (first | rw [c12b0] | simp only [c12b0]))
            case rel147 => exact ⟨_, (true), (by first | rfl | (simp; done) | (simp [*]; done)), H', ⟨by first | omega | exact Nat.le_refl _⟩, ⟨by repeat (first | (with_reducible first | exact HB.out | apply below_alloc | apply pw_below_drewN | apply below_drew1) | exact HB.out)⟩⟩
          · rw [if_neg c12] at H
            have c12b0 : decide (32768 < t242) = false := decide_eq_false c12
            clear c12
            have H' := Aside0.mk H
            clear H
            go_wp2
            refine Met.intro ?_
            go_step
            (repeat apply Exists.intro)
            first | refine ⟨?rel155, rfl⟩ | (refine ⟨?rel155, ?st155⟩; case' st155 => (first | rw [c12b0] | simp only [c12b0]))
            case rel155 => exact ⟨_, (decide (t242 < (-32768))), (by first | rfl | (simp; done) | (simp [*]; done)), H', ⟨by first | omega | exact Nat.le_refl _⟩, ⟨by repeat (first | (with_reducible first | exact HB.out | apply below_alloc | apply pw_below_drewN | apply below_drew1) | exact HB.out)⟩⟩
    case rest =>
      clear HC6
      try clear c1
      try clear p2
      try clear c3
      try clear c6
      try clear p6
      try clear c10
      try clear c10b0
      try clear c11
      try clear c11b0
      try clear c12
      try clear c12b0
      obtain ⟨kq, x33_5, rfl, HA, HJ5, HB⟩ := hcut
      (try simp only [i64_w, i32_w])
      cases kq with
      | zero => exact absurd HA.out (by simp [madrigallaw1_FixCircle.j0])
      | succ kj5 =>
        have H := HA.out
        clear HA
        simp only [madrigallaw1_FixCircle.j0] at H
        by_cases c13 : x33_5 = true
        · subst c13
          have H1 : (none) = some r := by rw [if_pos rfl] at H; exact H
          clear H
          have H := H1
          clear H1
          exact absurd H (by simp)
        · replace c13 := Bool.eq_false_iff.mpr c13
          subst c13
          have H1 : (if a0 > 1152921504606846976 then (madrigallaw1_FixCircle.j1 kj5 a0 t242 t243 true) else (madrigallaw1_FixCircle.j1 kj5 a0 t242 t243 (decide (a0 < (-1152921504606846976))))) = some r := by rw [if_neg (show ¬ (false = true) by decide)] at H; exact H
          clear H
          have H := H1
          clear H1
          have HC14 := Aside0.mk H
          clear H
          go_upto_region 8 with (fail)
          go_cut [39] (fun v39 wc => ∃ (kq : Nat) (x39_13 : Bool), v39 = .bool x39_13 ∧ Aside0 (madrigallaw1_FixCircle.j1 kq a0 t242 t243 x39_13 = some r) ∧ Aside0 (kq ≤ kj5) ∧ Aside0 (Below w.heap.size w wc))
          case first =>
            have H := HC14.out
            clear HC14
            by_cases c15 : a0 > 1152921504606846976
            · rw [if_pos c15] at H
              have c15b0 : decide (1152921504606846976 < a0) = true := decide_eq_true c15
              clear c15
              (first | rw [c15b0] | (simp only [i64_w, i32_w]; rw [c15b0]) | skip)
              have H' := Aside0.mk H
              clear H
              go_wp2
              refine Met.intro ?_
              go_step
              (repeat apply Exists.intro)
              first | refine ⟨?rel206, rfl⟩ | (refine ⟨?rel206, ?st206⟩; case' st206 => (first | rw [c15b0] | simp only [c15b0]))
              case rel206 => exact ⟨_, (true), (by first | rfl | (simp; done) | (simp [*]; done)), H', ⟨by have := HJ5.out; first | omega | exact Nat.le_refl _⟩, ⟨by repeat (first | (with_reducible first | exact HB.out | apply below_alloc | apply pw_below_drewN | apply below_drew1) | exact HB.out)⟩⟩
            · rw [if_neg c15] at H
              have c15b0 : decide (1152921504606846976 < a0) = false := decide_eq_false c15
              clear c15
              (first | rw [c15b0] | (simp only [i64_w, i32_w]; rw [c15b0]) | skip)
              have H' := Aside0.mk H
              clear H
              go_wp2
              refine Met.intro ?_
              go_step
              (repeat apply Exists.intro)
              first | refine ⟨?rel215, rfl⟩ | (refine ⟨?rel215, ?st215⟩; case' st215 => (first | rw [c15b0] | simp only [c15b0]))
              case rel215 => exact ⟨_, (decide (a0 < (-1152921504606846976))), (by first | rfl | (simp; done) | (simp [*]; done)), H', ⟨by have := HJ5.out; first | omega | exact Nat.le_refl _⟩, ⟨by repeat (first | (with_reducible first | exact HB.out | apply below_alloc | apply pw_below_drewN | apply below_drew1) | exact HB.out)⟩⟩
          case rest =>
            clear HC14
            try clear c1
            try clear p2
            try clear c3
            try clear c6
            try clear p6
            try clear c10
            try clear c10b0
            try clear c11
            try clear c11b0
            try clear c12
            try clear c12b0
            try clear c13
            try clear c15
            try clear c15b0
            try clear p2
            try clear p6
            obtain ⟨kq, x39_13, rfl, HA, HJ13, HB⟩ := hcut
            (try simp only [i64_w, i32_w])
            cases kq with
            | zero => exact absurd HA.out (by simp [madrigallaw1_FixCircle.j1])
            | succ kj13 =>
              have H := HA.out
              clear HA
              simp only [madrigallaw1_FixCircle.j1] at H
              by_cases c16 : x39_13 = true
              · subst c16
                have H1 : (some true) = some r := by rw [if_pos rfl] at H; exact H
                clear H
                have H := H1
                clear H1
                obtain rfl := Option.some.inj H
                go_wp2
                go_ret
                exact ⟨by first | rfl | (simp [errW_none, errW_some] <;> rfl) | (simp [*, errW_none, errW_some] <;> rfl), by repeat (first | (with_reducible first | exact HB.out | apply below_alloc | apply pw_below_drewN | apply below_drew1) | exact HB.out)⟩
              · replace c16 := Bool.eq_false_iff.mpr c16
                subst c16
                have H1 : ((fix_Cos.f kj13 (wrap64 (-a0))).bind fun t244 => (if t244 = t242 then ((fix_Sin.f kj13 (wrap64 (-a0))).bind fun t245 => (if t245 = (wrap64 (-t243)) then ((fix_Cos.f kj13 (wrap64 (a0 + 65536))).bind fun t246 => (if t246 = t242 then ((fix_Cos.f kj13 (wrap64 (a0 + 32768))).bind fun t247 => (if t247 = (wrap64 (-t242)) then ((fix_Sin.f kj13 (wrap64 (a0 + 16384))).bind fun t248 => (some (t248 == t242))) else (none))) else (none))) else (none))) else (none))) = some r := by rw [if_neg (show ¬ (false = true) by decide)] at H; exact H
                clear H
                have H := H1
                clear H1
                replace H := Option.bind_eq_some_iff.mp H
                obtain ⟨t244, A170, H⟩ := H
                replace H : (if t244 = t242 then ((fix_Sin.f kj13 (wrap64 (-a0))).bind fun t245 => (if t245 = (wrap64 (-t243)) then ((fix_Cos.f kj13 (wrap64 (a0 + 65536))).bind fun t246 => (if t246 = t242 then ((fix_Cos.f kj13 (wrap64 (a0 + 32768))).bind fun t247 => (if t247 = (wrap64 (-t242)) then ((fix_Sin.f kj13 (wrap64 (a0 + 16384))).bind fun t248 => (some (t248 == t242))) else (none))) else (none))) else (none))) else (none)) = some r := H
                have A17 := Aside0.mk A170
                clear A170
                by_cases c18 : t244 = t242
                · rw [if_pos c18] at H
                  have c18b0 : (t244 == t242) = true := beq_iff_eq.mpr c18
                  have c18b1 : (t244 != t242) = false := bne_eq_false_iff_eq.mpr c18
                  clear c18
                  replace H := Option.bind_eq_some_iff.mp H
                  obtain ⟨t245, A190, H⟩ := H
                  replace H : (if t245 = (wrap64 (-t243)) then ((fix_Cos.f kj13 (wrap64 (a0 + 65536))).bind fun t246 => (if t246 = t242 then ((fix_Cos.f kj13 (wrap64 (a0 + 32768))).bind fun t247 => (if t247 = (wrap64 (-t242)) then ((fix_Sin.f kj13 (wrap64 (a0 + 16384))).bind fun t248 => (some (t248 == t242))) else (none))) else (none))) else (none)) = some r := H
                  have A19 := Aside0.mk A190
                  clear A190
                  by_cases c20 : t245 = (wrap64 (-t243))
                  · rw [if_pos c20] at H
                    have c20b0 : (t245 == (wrap64 (-t243))) = true := beq_iff_eq.mpr c20
                    have c20b1 : (t245 != (wrap64 (-t243))) = false := bne_eq_false_iff_eq.mpr c20
                    clear c20
                    replace H := Option.bind_eq_some_iff.mp H
                    obtain ⟨t246, A210, H⟩ := H
                    replace H : (if t246 = t242 then ((fix_Cos.f kj13 (wrap64 (a0 + 32768))).bind fun t247 => (if t247 = (wrap64 (-t242)) then ((fix_Sin.f kj13 (wrap64 (a0 + 16384))).bind fun t248 => (some (t248 == t242))) else (none))) else (none)) = some r := H
                    have A21 := Aside0.mk A210
                    clear A210
                    by_cases c22 : t246 = t242
                    · rw [if_pos c22] at H
                      have c22b0 : (t246 == t242) = true := beq_iff_eq.mpr c22
                      have c22b1 : (t246 != t242) = false := bne_eq_false_iff_eq.mpr c22
                      clear c22
                      replace H := Option.bind_eq_some_iff.mp H
                      obtain ⟨t247, A230, H⟩ := H
                      replace H : (if t247 = (wrap64 (-t242)) then ((fix_Sin.f kj13 (wrap64 (a0 + 16384))).bind fun t248 => (some (t248 == t242))) else (none)) = some r := H
                      have A23 := Aside0.mk A230
                      clear A230
                      by_cases c24 : t247 = (wrap64 (-t242))
                      · rw [if_pos c24] at H
                        have c24b0 : (t247 == (wrap64 (-t242))) = true := beq_iff_eq.mpr c24
                        have c24b1 : (t247 != (wrap64 (-t242))) = false := bne_eq_false_iff_eq.mpr c24
                        clear c24
                        replace H := Option.bind_eq_some_iff.mp H
                        obtain ⟨t248, A250, H⟩ := H
                        replace H : (some (t248 == t242)) = some r := H
                        have A25 := Aside0.mk A250
                        clear A250
                        obtain rfl := Option.some.inj H
                        go_wp2_with (first | ((with_reducible refine gate_callee (f := 12) rfl ?_); refine goesL_ (some 42) rfl rfl Try.func12 (by kernel_rfl) rfl #[.int .i64 (wrap64 (-a0))] rfl (by (try simp only [List.map_toArray, List.map_cons, List.map_nil]); first | done | rfl | (simp only [List.length_drop, List.length_take]; rfl)) ?_; (with_reducible refine (fix_Cos.calls kj13 (wrap64 (-a0)) t244 _ A17.out).mono ?_); rintro e w26 ⟨rfl, hb⟩; refine ⟨_, rfl, ?_⟩; have n0_ := Aside0.mk (below_step (by repeat (first | (with_reducible first | exact HB.out | apply below_alloc | apply pw_below_drewN | apply below_drew1) | exact HB.out)) hb); clear HB; have HB := n0_; clear n0_; (try clear hb); (try clear hb2); (try clear hk); (try clear hi); (try clear hge)) | (go_at_call 31; (with_reducible refine (fix_Sin.calls kj13 (wrap64 (-a0)) t245 _ A19.out).mono ?_); rintro e w27 ⟨rfl, hb⟩; have n0_ := Aside0.mk (below_step (by repeat (first | (with_reducible first | exact HB.out | apply below_alloc | apply pw_below_drewN | apply below_drew1) | exact HB.out)) hb); clear HB; have HB := n0_; clear n0_; (try clear hb); (try clear hb2); (try clear hk); (try clear hi); (try clear hge)) | (go_at_call 12; (with_reducible refine (fix_Cos.calls kj13 (wrap64 (a0 + 65536)) t246 _ A21.out).mono ?_); rintro e w28 ⟨rfl, hb⟩; have n0_ := Aside0.mk (below_step (by repeat (first | (with_reducible first | exact HB.out | apply below_alloc | apply pw_below_drewN | apply below_drew1) | exact HB.out)) hb); clear HB; have HB := n0_; clear n0_; (try clear hb); (try clear hb2); (try clear hk); (try clear hi); (try clear hge)) | (go_at_call 12; (with_reducible refine (fix_Cos.calls kj13 (wrap64 (a0 + 32768)) t247 _ A23.out).mono ?_); rintro e w29 ⟨rfl, hb⟩; have n0_ := Aside0.mk (below_step (by repeat (first | (with_reducible first | exact HB.out | apply below_alloc | apply pw_below_drewN | apply below_drew1) | exact HB.out)) hb); clear HB; have HB := n0_; clear n0_; (try clear hb); (try clear hb2); (try clear hk); (try clear hi); (try clear hge)) | (go_at_call 31; (with_reducible refine (fix_Sin.calls kj13 (wrap64 (a0 + 16384)) t248 _ A25.out).mono ?_); rintro e w30 ⟨rfl, hb⟩; have n0_ := Aside0.mk (below_step (by repeat (first | (with_reducible first | exact HB.out | apply below_alloc | apply pw_below_drewN | apply below_drew1) | exact HB.out)) hb); clear HB; have HB := n0_; clear n0_; (try clear hb); (try clear hb2); (try clear hk); (try clear hi); (try clear hge)))
                        go_ret
                        exact ⟨by first | rfl | (simp [errW_none, errW_some] <;> rfl) | (simp [*, errW_none, errW_some] <;> rfl), by repeat (first | (with_reducible first | exact HB.out | apply below_alloc | apply pw_below_drewN | apply below_drew1) | exact HB.out)⟩
                      · rw [if_neg c24] at H
                        exact absurd H (by simp)
                    · rw [if_neg c22] at H
                      exact absurd H (by simp)
                  · rw [if_neg c20] at H
                    exact absurd H (by simp)
                · rw [if_neg c18] at H
                  exact absurd H (by simp)
  · replace c3 := Bool.eq_false_iff.mpr c3
    subst c3
    have H1 : (none) = some r := by rw [if_neg (show ¬ (false = true) by decide)] at H; exact H
    clear H
    have H := H1
    clear H1
    exact absurd H (by simp)

/-- THE ONE PURE STATEMENT of madrigallaw1_FixCircle. -/
def madrigallaw1_FixCircle.Pure : Prop := ∀ (a0 : Int), (Lit.int .i64 a0).wf = true → ∃ k, madrigallaw1_FixCircle.f k a0 = some true
theorem madrigallaw1_FixCircle.walk (P : madrigallaw1_FixCircle.Pure) (a0 : Int) (w : World) (w0 : (Lit.int .i64 a0).wf = true) :
    Calls Try.prog 6 #[.int .i64 a0] w fun e w' => e = .returned (.bool true) ∧ Below w.heap.size w w' := by
  obtain ⟨k, h⟩ := P a0 w0
  refine (madrigallaw1_FixCircle.calls k a0 true w h).mono ?_
  rintro e w' ⟨rfl, hd⟩
  exact ⟨rfl, hd⟩

end Go.Proofs.Ytlhdoopmlpnhlaa.P
