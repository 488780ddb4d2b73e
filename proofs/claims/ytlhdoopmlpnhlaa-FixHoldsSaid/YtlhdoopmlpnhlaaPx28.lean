/- The machine side of the laws of one chapter, without conditions: each call of a Go function comes to what the Lean function of its name answers. Written for this claim by a program of the prover. -/
import Derived.Test.YtlhdoopmlpnhlaaPx0
import Derived.Test.YtlhdoopmlpnhlaaPx7
import Derived.Test.YtlhdoopmlpnhlaaPx8
import Derived.Test.YtlhdoopmlpnhlaaPx9
import Derived.Test.YtlhdoopmlpnhlaaPx11
import Derived.Test.YtlhdoopmlpnhlaaPx13
namespace Go.Proofs.Ytlhdoopmlpnhlaa.P
open Go.RowKit Go.Proofs.YtlhdoopmlpnhlaaW.PrintWords Go.Proofs.YtlhdoopmlpnhlaaW.PrintLast Go.Proofs.YtlhdoopmlpnhlaaW.PrintMore
attribute [local go_sem] max2_int min2_int max_two min_two max_three min_three max_four min_four   -- for this text's walks alone
set_option linter.unusedVariables false
set_option linter.unusedSimpArgs false

/-! ### madrigallaw1_FixHolds: function 5 -/
mutual
def madrigallaw1_FixHolds.j0 : Nat → Int → Int → Bool → Option (Bool)
  | 0, _, _, _ => none
  | k + 1, x0, x1, x16 => if x16 = true then (some true) else ((fix_Sqrt.f k x0).bind fun t236 => (if t236 < 1 then (madrigallaw1_FixHolds.j1 k x0 x1 true) else (if (wrap64 (t236 * t236)) > x0 then (madrigallaw1_FixHolds.j1 k x0 x1 true) else (if t236 < 3037000499 then (madrigallaw1_FixHolds.j1 k x0 x1 (decide ((wrap64 ((wrap64 (t236 + 1)) * (wrap64 (t236 + 1)))) ≤ x0))) else (madrigallaw1_FixHolds.j1 k x0 x1 false)))))
def madrigallaw1_FixHolds.j1 : Nat → Int → Int → Bool → Option (Bool)
  | 0, _, _, _ => none
  | k + 1, x0, x1, x40 => if x40 = true then (none) else ((fix_Len.f k x0).bind fun t237 => (if t237 < 1 then (madrigallaw1_FixHolds.j2 k x0 x1 t237 true) else (if t237 > 63 then (madrigallaw1_FixHolds.j2 k x0 x1 t237 true) else (if 0 ≤ (IntKind.u64.wrap (wrap64 (t237 - 1))) then (madrigallaw1_FixHolds.j2 k x0 x1 t237 ((shr .i64 x0 (IntKind.u64.wrap (wrap64 (t237 - 1)))) != 1)) else (none)))))
def madrigallaw1_FixHolds.j2 : Nat → Int → Int → Int → Bool → Option (Bool)
  | 0, _, _, _, _ => none
  | k + 1, x0, x1, x6, x56 => if x56 = true then (none) else ((fix_Log2.f k x0).bind fun t238 => (if t238 < (wrap64 (256 * (wrap64 (x6 - 1)))) then (madrigallaw1_FixHolds.j3 k x1 true) else (madrigallaw1_FixHolds.j3 k x1 (decide (t238 ≥ (wrap64 (256 * x6)))))))
def madrigallaw1_FixHolds.j3 : Nat → Int → Bool → Option (Bool)
  | 0, _, _ => none
  | k + 1, x1, x69 => if x69 = true then (none) else (if x1 < 2048 then (madrigallaw1_FixHolds.j4 k x1 true) else (madrigallaw1_FixHolds.j4 k x1 (decide (x1 > 7900))))
def madrigallaw1_FixHolds.j4 : Nat → Int → Bool → Option (Bool)
  | 0, _, _ => none
  | k + 1, x1, x75 => if x75 = true then (some true) else ((fix_Exp2.f k x1).bind fun t239 => ((fix_Log2.f k t239).bind fun t240 => (if (wrap64 (t240 - x1)) ≤ 2 then (some (decide ((wrap64 (t240 - x1)) ≥ (-2)))) else (none))))
end
def madrigallaw1_FixHolds.f (k : Nat) (a0 : Int) (a1 : Int) : Option (Bool) := (madrigallaw1_awake.f k).bind fun t235 => (if t235 = true then (if a0 < 1 then (madrigallaw1_FixHolds.j0 k a0 a1 true) else (madrigallaw1_FixHolds.j0 k a0 a1 (decide (a0 > 4611686018427387904)))) else (none))
theorem madrigallaw1_FixHolds.mono_l : ∀ k, (∀ y0 y1 y2, LeO (madrigallaw1_FixHolds.j0 k y0 y1 y2) (madrigallaw1_FixHolds.j0 (k + 1) y0 y1 y2)) ∧ (∀ y0 y1 y2, LeO (madrigallaw1_FixHolds.j1 k y0 y1 y2) (madrigallaw1_FixHolds.j1 (k + 1) y0 y1 y2)) ∧ (∀ y0 y1 y2 y3, LeO (madrigallaw1_FixHolds.j2 k y0 y1 y2 y3) (madrigallaw1_FixHolds.j2 (k + 1) y0 y1 y2 y3)) ∧ (∀ y0 y1, LeO (madrigallaw1_FixHolds.j3 k y0 y1) (madrigallaw1_FixHolds.j3 (k + 1) y0 y1)) ∧ (∀ y0 y1, LeO (madrigallaw1_FixHolds.j4 k y0 y1) (madrigallaw1_FixHolds.j4 (k + 1) y0 y1))
  | 0 => ⟨fun _ _ _ r h => by simp [madrigallaw1_FixHolds.j0] at h, fun _ _ _ r h => by simp [madrigallaw1_FixHolds.j1] at h, fun _ _ _ _ r h => by simp [madrigallaw1_FixHolds.j2] at h, fun _ _ r h => by simp [madrigallaw1_FixHolds.j3] at h, fun _ _ r h => by simp [madrigallaw1_FixHolds.j4] at h⟩
  | k + 1 => by
    obtain ⟨ih0, ih1, ih2, ih3, ih4⟩ := madrigallaw1_FixHolds.mono_l k
    refine ⟨?_, ?_, ?_, ?_, ?_⟩
    · intro y0 y1 y2
      unfold madrigallaw1_FixHolds.j0
      repeat' first
      | (with_reducible exact ih0 _ _ _)
      | (with_reducible exact ih1 _ _ _)
      | (with_reducible exact ih2 _ _ _ _)
      | (with_reducible exact ih3 _ _)
      | (with_reducible exact ih4 _ _)
      | (with_reducible exact fix_Exp2.mono _ _)
      | (with_reducible exact fix_Len.mono _ _)
      | (with_reducible exact fix_Log2.mono _ _)
      | (with_reducible exact fix_Sqrt.mono _ _)
      | (with_reducible exact madrigallaw1_awake.mono _)
      | (with_reducible exact LeO.refl _)
      | (with_reducible exact LeO.none _)
      | (with_reducible refine LeO.ite ?_ ?_)
      | (with_reducible refine LeO.bind ?_ (fun _ => ?_))
      | exact ih0 _ _ _
      | exact ih1 _ _ _
      | exact ih2 _ _ _ _
      | exact ih3 _ _
      | exact ih4 _ _
      | exact fix_Exp2.mono _ _
      | exact fix_Len.mono _ _
      | exact fix_Log2.mono _ _
      | exact fix_Sqrt.mono _ _
      | exact madrigallaw1_awake.mono _
      | exact LeO.none _
      | refine LeO.ite ?_ ?_
      | refine LeO.bind ?_ (fun _ => ?_)
    · intro y0 y1 y2
      unfold madrigallaw1_FixHolds.j1
      repeat' first
      | (with_reducible exact ih0 _ _ _)
      | (with_reducible exact ih1 _ _ _)
      | (with_reducible exact ih2 _ _ _ _)
      | (with_reducible exact ih3 _ _)
      | (with_reducible exact ih4 _ _)
      | (with_reducible exact fix_Exp2.mono _ _)
      | (with_reducible exact fix_Len.mono _ _)
      | (with_reducible exact fix_Log2.mono _ _)
      | (with_reducible exact fix_Sqrt.mono _ _)
      | (with_reducible exact madrigallaw1_awake.mono _)
      | (with_reducible exact LeO.refl _)
      | (with_reducible exact LeO.none _)
      | (with_reducible refine LeO.ite ?_ ?_)
      | (with_reducible refine LeO.bind ?_ (fun _ => ?_))
      | exact ih0 _ _ _
      | exact ih1 _ _ _
      | exact ih2 _ _ _ _
      | exact ih3 _ _
      | exact ih4 _ _
      | exact fix_Exp2.mono _ _
      | exact fix_Len.mono _ _
      | exact fix_Log2.mono _ _
      | exact fix_Sqrt.mono _ _
      | exact madrigallaw1_awake.mono _
      | exact LeO.none _
      | refine LeO.ite ?_ ?_
      | refine LeO.bind ?_ (fun _ => ?_)
    · intro y0 y1 y2 y3
      unfold madrigallaw1_FixHolds.j2
      repeat' first
      | (with_reducible exact ih0 _ _ _)
      | (with_reducible exact ih1 _ _ _)
      | (with_reducible exact ih2 _ _ _ _)
      | (with_reducible exact ih3 _ _)
      | (with_reducible exact ih4 _ _)
      | (with_reducible exact fix_Exp2.mono _ _)
      | (with_reducible exact fix_Len.mono _ _)
      | (with_reducible exact fix_Log2.mono _ _)
      | (with_reducible exact fix_Sqrt.mono _ _)
      | (with_reducible exact madrigallaw1_awake.mono _)
      | (with_reducible exact LeO.refl _)
      | (with_reducible exact LeO.none _)
      | (with_reducible refine LeO.ite ?_ ?_)
      | (with_reducible refine LeO.bind ?_ (fun _ => ?_))
      | exact ih0 _ _ _
      | exact ih1 _ _ _
      | exact ih2 _ _ _ _
      | exact ih3 _ _
      | exact ih4 _ _
      | exact fix_Exp2.mono _ _
      | exact fix_Len.mono _ _
      | exact fix_Log2.mono _ _
      | exact fix_Sqrt.mono _ _
      | exact madrigallaw1_awake.mono _
      | exact LeO.none _
      | refine LeO.ite ?_ ?_
      | refine LeO.bind ?_ (fun _ => ?_)
    · intro y0 y1
      unfold madrigallaw1_FixHolds.j3
      repeat' first
      | (with_reducible exact ih0 _ _ _)
      | (with_reducible exact ih1 _ _ _)
      | (with_reducible exact ih2 _ _ _ _)
      | (with_reducible exact ih3 _ _)
      | (with_reducible exact ih4 _ _)
      | (with_reducible exact fix_Exp2.mono _ _)
      | (with_reducible exact fix_Len.mono _ _)
      | (with_reducible exact fix_Log2.mono _ _)
      | (with_reducible exact fix_Sqrt.mono _ _)
      | (with_reducible exact madrigallaw1_awake.mono _)
      | (with_reducible exact LeO.refl _)
      | (with_reducible exact LeO.none _)
      | (with_reducible refine LeO.ite ?_ ?_)
      | (with_reducible refine LeO.bind ?_ (fun _ => ?_))
      | exact ih0 _ _ _
      | exact ih1 _ _ _
      | exact ih2 _ _ _ _
      | exact ih3 _ _
      | exact ih4 _ _
      | exact fix_Exp2.mono _ _
      | exact fix_Len.mono _ _
      | exact fix_Log2.mono _ _
      | exact fix_Sqrt.mono _ _
      | exact madrigallaw1_awake.mono _
      | exact LeO.none _
      | refine LeO.ite ?_ ?_
      | refine LeO.bind ?_ (fun _ => ?_)
    · intro y0 y1
      unfold madrigallaw1_FixHolds.j4
      repeat' first
      | (with_reducible exact ih0 _ _ _)
      | (with_reducible exact ih1 _ _ _)
      | (with_reducible exact ih2 _ _ _ _)
      | (with_reducible exact ih3 _ _)
      | (with_reducible exact ih4 _ _)
      | (with_reducible exact fix_Exp2.mono _ _)
      | (with_reducible exact fix_Len.mono _ _)
      | (with_reducible exact fix_Log2.mono _ _)
      | (with_reducible exact fix_Sqrt.mono _ _)
      | (with_reducible exact madrigallaw1_awake.mono _)
      | (with_reducible exact LeO.refl _)
      | (with_reducible exact LeO.none _)
      | (with_reducible refine LeO.ite ?_ ?_)
      | (with_reducible refine LeO.bind ?_ (fun _ => ?_))
      | exact ih0 _ _ _
      | exact ih1 _ _ _
      | exact ih2 _ _ _ _
      | exact ih3 _ _
      | exact ih4 _ _
      | exact fix_Exp2.mono _ _
      | exact fix_Len.mono _ _
      | exact fix_Log2.mono _ _
      | exact fix_Sqrt.mono _ _
      | exact madrigallaw1_awake.mono _
      | exact LeO.none _
      | refine LeO.ite ?_ ?_
      | refine LeO.bind ?_ (fun _ => ?_)
theorem madrigallaw1_FixHolds.mono : ∀ a0 a1 k, LeO (madrigallaw1_FixHolds.f k a0 a1) (madrigallaw1_FixHolds.f (k + 1) a0 a1) := by
  intro a0 a1 k
  obtain ⟨ih0, ih1, ih2, ih3, ih4⟩ := madrigallaw1_FixHolds.mono_l k
  unfold madrigallaw1_FixHolds.f
  repeat' first
      | (with_reducible exact ih0 _ _ _)
      | (with_reducible exact ih1 _ _ _)
      | (with_reducible exact ih2 _ _ _ _)
      | (with_reducible exact ih3 _ _)
      | (with_reducible exact ih4 _ _)
      | (with_reducible exact fix_Exp2.mono _ _)
      | (with_reducible exact fix_Len.mono _ _)
      | (with_reducible exact fix_Log2.mono _ _)
      | (with_reducible exact fix_Sqrt.mono _ _)
      | (with_reducible exact madrigallaw1_awake.mono _)
      | (with_reducible exact LeO.refl _)
      | (with_reducible exact LeO.none _)
      | (with_reducible refine LeO.ite ?_ ?_)
      | (with_reducible refine LeO.bind ?_ (fun _ => ?_))
      | exact ih0 _ _ _
      | exact ih1 _ _ _
      | exact ih2 _ _ _ _
      | exact ih3 _ _
      | exact ih4 _ _
      | exact fix_Exp2.mono _ _
      | exact fix_Len.mono _ _
      | exact fix_Log2.mono _ _
      | exact fix_Sqrt.mono _ _
      | exact madrigallaw1_awake.mono _
      | exact LeO.none _
      | refine LeO.ite ?_ ?_
      | refine LeO.bind ?_ (fun _ => ?_)
set_option maxHeartbeats 8000000 in
set_option maxRecDepth 100000 in
theorem madrigallaw1_FixHolds.calls (k : Nat) (a0 : Int) (a1 : Int) (r : Bool) (w : World) (h : madrigallaw1_FixHolds.f k a0 a1 = some r) :
    Calls Try.prog 5 #[.int .i64 a0, .int .i64 a1] w fun e w' => e = .returned (.bool r) ∧ Below w.heap.size w w' := by
  have HB := Aside0.mk (Below.refl w.heap.size w)
  have H : ((madrigallaw1_awake.f k).bind fun t235 => (if t235 = true then (if a0 < 1 then (madrigallaw1_FixHolds.j0 k a0 a1 true) else (madrigallaw1_FixHolds.j0 k a0 a1 (decide (a0 > 4611686018427387904)))) else (none))) = some r := h
  clear h
  replace H := Option.bind_eq_some_iff.mp H
  obtain ⟨t235, A30, H⟩ := H
  replace H : (if t235 = true then (if a0 < 1 then (madrigallaw1_FixHolds.j0 k a0 a1 true) else (madrigallaw1_FixHolds.j0 k a0 a1 (decide (a0 > 4611686018427387904)))) else (none)) = some r := H
  have A3 := Aside0.mk A30
  clear A30
  by_cases c4 : t235 = true
  · subst c4
    have H1 : (if a0 < 1 then (madrigallaw1_FixHolds.j0 k a0 a1 true) else (madrigallaw1_FixHolds.j0 k a0 a1 (decide (a0 > 4611686018427387904)))) = some r := by rw [if_pos rfl] at H; exact H
    clear H
    have H := H1
    clear H1
    have HC5 := Aside0.mk H
    clear H
    go_enter Try.func5, Try.ntmps5
    go_upto_region 3 with (first | ((with_reducible refine gate_callee (f := 11) rfl ?_); refine goesL_ (some 9) rfl rfl Try.func11 (by kernel_rfl) rfl #[] rfl (by (try simp only [List.map_toArray, List.map_cons, List.map_nil]); first | done | rfl | (simp only [List.length_drop, List.length_take]; rfl)) ?_; (with_reducible refine (madrigallaw1_awake.calls k  true _ A3.out).mono ?_); rintro e w6 ⟨rfl, hb⟩; refine ⟨_, rfl, ?_⟩; have n0_ := Aside0.mk (below_step (by repeat (first | (with_reducible first | exact HB.out | apply below_alloc | apply pw_below_drewN | apply below_drew1) | exact HB.out)) hb); clear HB; have HB := n0_; clear n0_; (try clear hb); (try clear hb2); (try clear hk); (try clear hi); (try clear hge)))
    (try simp only [Act.put, List.setIfInBounds_toArray, List.set_cons_zero, List.set_cons_succ])
    go_cut [16] (fun v16 wc => ∃ (kq : Nat) (x16_4 : Bool), v16 = .bool x16_4 ∧ Aside0 (madrigallaw1_FixHolds.j0 kq a0 a1 x16_4 = some r) ∧ Aside0 (kq ≤ k) ∧ Aside0 (Below w.heap.size w wc))
    case first =>
      have H := HC5.out
      clear HC5
      by_cases c7 : a0 < 1
      · rw [if_pos c7] at H
        have c7b0 : decide (a0 < 1) = true := decide_eq_true c7
        clear c7
        (first | rw [c7b0] | (simp only [i64_w, i32_w]; rw [c7b0]) | skip)
        have H' := Aside0.mk H
        clear H
        go_wp2
        refine Met.intro ?_
        go_step
        (repeat apply Exists.intro)
        first | refine ⟨?rel241, rfl⟩ | (refine ⟨?rel241, ?st241⟩; case' st241 => (first | rw [c7b0] | simp only [c7b0]))
        case rel241 => exact ⟨_, (true), (by first | rfl | (simp; done) | (simp [*]; done)), H', ⟨by first | omega | exact Nat.le_refl _⟩, ⟨by repeat (first | (with_reducible first | exact HB.out | apply below_alloc | apply pw_below_drewN | apply below_drew1) | exact HB.out)⟩⟩
      · rw [if_neg c7] at H
        have c7b0 : decide (a0 < 1) = false := decide_eq_false c7
        clear c7
        (first | rw [c7b0] | (simp only [i64_w, i32_w]; rw [c7b0]) | skip)
        have H' := Aside0.mk H
        clear H
        go_wp2
        refine Met.intro ?_
        go_step
        (repeat apply Exists.intro)
        first | refine ⟨?rel250, rfl⟩ | (refine ⟨?rel250, ?st250⟩; case' st250 => (first | rw [c7b0] | simp only [c7b0]))
        case rel250 => exact ⟨_, (decide (a0 > 4611686018427387904)), (by first | rfl | (simp; done) | (simp [*]; done)), H', ⟨by first | omega | exact Nat.le_refl _⟩, ⟨by repeat (first | (with_reducible first | exact HB.out | apply below_alloc | apply pw_below_drewN | apply below_drew1) | exact HB.out)⟩⟩
    case rest =>
      clear HC5
      try clear c1
      try clear p2
      try clear c4
      try clear c5
      try clear c7
      try clear c7b0
      obtain ⟨kq, x16_4, rfl, HA, HJ4, HB⟩ := hcut
      (try simp only [i64_w, i32_w])
      cases kq with
      | zero => exact absurd HA.out (by simp [madrigallaw1_FixHolds.j0])
      | succ kj4 =>
        have H := HA.out
        clear HA
        simp only [madrigallaw1_FixHolds.j0] at H
        by_cases c8 : x16_4 = true
        · subst c8
          have H1 : (some true) = some r := by rw [if_pos rfl] at H; exact H
          clear H
          have H := H1
          clear H1
          obtain rfl := Option.some.inj H
          go_wp2
          go_ret
          exact ⟨by first | rfl | (simp [errW_none, errW_some] <;> rfl) | (simp [*, errW_none, errW_some] <;> rfl), by repeat (first | (with_reducible first | exact HB.out | apply below_alloc | apply pw_below_drewN | apply below_drew1) | exact HB.out)⟩
        · replace c8 := Bool.eq_false_iff.mpr c8
          subst c8
          have H1 : ((fix_Sqrt.f kj4 a0).bind fun t236 => (if t236 < 1 then (madrigallaw1_FixHolds.j1 kj4 a0 a1 true) else (if (wrap64 (t236 * t236)) > a0 then (madrigallaw1_FixHolds.j1 kj4 a0 a1 true) else (if t236 < 3037000499 then (madrigallaw1_FixHolds.j1 kj4 a0 a1 (decide ((wrap64 ((wrap64 (t236 + 1)) * (wrap64 (t236 + 1)))) ≤ a0))) else (madrigallaw1_FixHolds.j1 kj4 a0 a1 false))))) = some r := by rw [if_neg (show ¬ (false = true) by decide)] at H; exact H
          clear H
          have H := H1
          clear H1
          replace H := Option.bind_eq_some_iff.mp H
          obtain ⟨t236, A90, H⟩ := H
          replace H : (if t236 < 1 then (madrigallaw1_FixHolds.j1 kj4 a0 a1 true) else (if (wrap64 (t236 * t236)) > a0 then (madrigallaw1_FixHolds.j1 kj4 a0 a1 true) else (if t236 < 3037000499 then (madrigallaw1_FixHolds.j1 kj4 a0 a1 (decide ((wrap64 ((wrap64 (t236 + 1)) * (wrap64 (t236 + 1)))) ≤ a0))) else (madrigallaw1_FixHolds.j1 kj4 a0 a1 false)))) = some r := H
          have A9 := Aside0.mk A90
          clear A90
          have HC10 := Aside0.mk H
          clear H
          go_upto_region 6 with (first | ((with_reducible refine gate_callee (f := 16) rfl ?_); refine goesL_ (some 18) rfl rfl Try.func16 (by kernel_rfl) rfl #[.int .i64 a0] rfl (by (try simp only [List.map_toArray, List.map_cons, List.map_nil]); first | done | rfl | (simp only [List.length_drop, List.length_take]; rfl)) ?_; (with_reducible refine (fix_Sqrt.calls kj4 a0 t236 _ A9.out).mono ?_); rintro e w' ⟨rfl, ⟨nd, rfl⟩⟩; refine ⟨_, rfl, ?_⟩))
          (try simp only [Act.put, List.setIfInBounds_toArray, List.set_cons_zero, List.set_cons_succ])
          go_cut [40] (fun v40 wc => ∃ (kq : Nat) (x40_9 : Bool), v40 = .bool x40_9 ∧ Aside0 (madrigallaw1_FixHolds.j1 kq a0 a1 x40_9 = some r) ∧ Aside0 (kq ≤ kj4) ∧ Aside0 (Below w.heap.size w wc))
          case first =>
            have H := HC10.out
            clear HC10
            by_cases c11 : t236 < 1
            · rw [if_pos c11] at H
              have c11b0 : decide (t236 < 1) = true := decide_eq_true c11
              clear c11
              (first | rw [c11b0] | (simp only [i64_w, i32_w]; rw [c11b0]) | skip)
              have H' := Aside0.mk H
              clear H
              go_wp2
              refine Met.intro ?_
              go_step
              (repeat apply Exists.intro)
              first | refine ⟨?rel305, rfl⟩ | (refine ⟨?rel305, ?st305⟩; case' st305 => (first | rw [c11b0] | simp only [c11b0]))
              case rel305 => exact ⟨_, (true), (by first | rfl | (simp; done) | (simp [*]; done)), H', ⟨by have := HJ4.out; first | omega | exact Nat.le_refl _⟩, ⟨by repeat (first | (with_reducible first | exact HB.out | apply below_alloc | apply pw_below_drewN | apply below_drew1) | exact HB.out)⟩⟩
            · rw [if_neg c11] at H
              have c11b0 : decide (t236 < 1) = false := decide_eq_false c11
              clear c11
              (first | rw [c11b0] | (simp only [i64_w, i32_w]; rw [c11b0]) | skip)
              by_cases c12 : (wrap64 (t236 * t236)) > a0
              · rw [if_pos c12] at H
                have c12b0 : decide (a0 < (wrap64 (t236 * t236))) = true := decide_eq_true c12
                clear c12
                have H' := Aside0.mk H
                clear H
                go_wp2
                refine Met.intro ?_
                go_step
                (repeat apply Exists.intro)
                first | refine ⟨?rel318, rfl⟩ | (refine ⟨?rel318, ?st318⟩; case' st318 => (first | rw [c12b0] | simp only [c12b0]))
                case rel318 => exact ⟨_, (true), (by first | rfl | (simp; done) | (simp [*]; done)), H', ⟨by have := HJ4.out; first | omega | exact Nat.le_refl _⟩, ⟨by repeat (first | (with_reducible first | exact HB.out | apply below_alloc | apply pw_below_drewN | apply below_drew1) | exact HB.out)⟩⟩
              · rw [if_neg c12] at H
                have c12b0 : decide (a0 < (wrap64 (t236 * t236))) = false := decide_eq_false c12
                clear c12
                by_cases c13 : t236 < 3037000499
                · rw [if_pos c13] at H
                  have c13b0 : decide (t236 < 3037000499) = true := decide_eq_true c13
                  clear c13
                  have H' := Aside0.mk H
                  clear H
                  go_wp2
                  refine Met.intro ?_
                  go_step
                  (repeat apply Exists.intro)
                  first | refine ⟨?rel330, rfl⟩ | (refine ⟨?rel330, ?st330⟩; case' st330 => (first | rw [c13b0] | simp only [c13b0]))
                  case rel330 => exact ⟨_, (decide ((wrap64 ((wrap64 (t236 + 1)) * (wrap64 (t236 + 1)))) ≤ a0)), (by first | rfl | (simp; done) | (simp [*]; done)), H', ⟨by have := HJ4.out; first | omega | exact Nat.le_refl _⟩, ⟨by repeat (first | (with_reducible first | exact HB.out | apply below_alloc | apply pw_below_drewN | apply below_drew1) | exact HB.out)⟩⟩
                · rw [if_neg c13] at H
                  have c13b0 : decide (t236 < 3037000499) = false := decide_eq_false c13
                  clear c13
                  have H' := Aside0.mk H
                  clear H
                  go_wp2
                  refine Met.intro ?_
                  go_step
                  (repeat apply Exists.intro)
                  first | refine ⟨?rel338, rfl⟩ | (refine ⟨?rel338, ?st338⟩; case' st338 => (first | rw [c13b0] | simp only [c13b0]))
                  case rel338 => exact ⟨_, (false), (by first | rfl | (simp; done) | (simp [*]; done)), H', ⟨by have := HJ4.out; first | omega | exact Nat.le_refl _⟩, ⟨by repeat (first | (with_reducible first | exact HB.out | apply below_alloc | apply pw_below_drewN | apply below_drew1) | exact HB.out)⟩⟩
          case rest =>
            clear HC10
            try clear c1
            try clear p2
            try clear c4
            try clear c5
            try clear p6
            try clear c7
            try clear c7b0
            try clear c8
            try clear c11
            try clear c11b0
            try clear c12
            try clear c12b0
            try clear c13
            try clear c13b0
            try clear p2
            obtain ⟨kq, x40_9, rfl, HA, HJ9, HB⟩ := hcut
            (try simp only [i64_w, i32_w])
            cases kq with
            | zero => exact absurd HA.out (by simp [madrigallaw1_FixHolds.j1])
            | succ kj9 =>
              have H := HA.out
              clear HA
              simp only [madrigallaw1_FixHolds.j1] at H
              by_cases c14 : x40_9 = true
              · subst c14
                have H1 : (none) = some r := by rw [if_pos rfl] at H; exact H
                clear H
                have H := H1
                clear H1
                exact absurd H (by simp)
              · replace c14 := Bool.eq_false_iff.mpr c14
                subst c14
                have H1 : ((fix_Len.f kj9 a0).bind fun t237 => (if t237 < 1 then (madrigallaw1_FixHolds.j2 kj9 a0 a1 t237 true) else (if t237 > 63 then (madrigallaw1_FixHolds.j2 kj9 a0 a1 t237 true) else (if 0 ≤ (IntKind.u64.wrap (wrap64 (t237 - 1))) then (madrigallaw1_FixHolds.j2 kj9 a0 a1 t237 ((shr .i64 a0 (IntKind.u64.wrap (wrap64 (t237 - 1)))) != 1)) else (none))))) = some r := by rw [if_neg (show ¬ (false = true) by decide)] at H; exact H
                clear H
                have H := H1
                clear H1
                replace H := Option.bind_eq_some_iff.mp H
                obtain ⟨t237, A150, H⟩ := H
                replace H : (if t237 < 1 then (madrigallaw1_FixHolds.j2 kj9 a0 a1 t237 true) else (if t237 > 63 then (madrigallaw1_FixHolds.j2 kj9 a0 a1 t237 true) else (if 0 ≤ (IntKind.u64.wrap (wrap64 (t237 - 1))) then (madrigallaw1_FixHolds.j2 kj9 a0 a1 t237 ((shr .i64 a0 (IntKind.u64.wrap (wrap64 (t237 - 1)))) != 1)) else (none)))) = some r := H
                have A15 := Aside0.mk A150
                clear A150
                have HC16 := Aside0.mk H
                clear H
                go_upto_region 9 with (first | ((with_reducible refine gate_callee (f := 17) rfl ?_); refine goesL_ (some 42) rfl rfl Try.func17 (by kernel_rfl) rfl #[.int .i64 a0] rfl (by (try simp only [List.map_toArray, List.map_cons, List.map_nil]); first | done | rfl | (simp only [List.length_drop, List.length_take]; rfl)) ?_; (with_reducible refine (fix_Len.calls kj9 a0 t237 _ A15.out).mono ?_); rintro e w' ⟨rfl, ⟨nd, rfl⟩⟩; refine ⟨_, rfl, ?_⟩))
                (try simp only [Act.put, List.setIfInBounds_toArray, List.set_cons_zero, List.set_cons_succ])
                go_cut [56] (fun v56 wc => ∃ (kq : Nat) (x56_15 : Bool), v56 = .bool x56_15 ∧ Aside0 (madrigallaw1_FixHolds.j2 kq a0 a1 t237 x56_15 = some r) ∧ Aside0 (kq ≤ kj9) ∧ Aside0 (Below w.heap.size w wc))
                case first =>
                  have H := HC16.out
                  clear HC16
                  by_cases c17 : t237 < 1
                  · rw [if_pos c17] at H
                    have c17b0 : decide (t237 < 1) = true := decide_eq_true c17
                    clear c17
                    (first | rw [c17b0] | (simp only [i64_w, i32_w]; rw [c17b0]) | skip)
                    have H' := Aside0.mk H
                    clear H
                    go_wp2
                    refine Met.intro ?_
                    go_step
                    (repeat apply Exists.intro)
                    first | refine ⟨?rel399, rfl⟩ | (refine ⟨?rel399, ?st399⟩; case' st399 => (first | rw [c17b0] | simp only [c17b0]))
                    case rel399 => exact ⟨_, (true), (by first | rfl | (simp; done) | (simp [*]; done)), H', ⟨by have := HJ4.out; have := HJ9.out; first | omega | exact Nat.le_refl _⟩, ⟨by repeat (first | (with_reducible first | exact HB.out | apply below_alloc | apply pw_below_drewN | apply below_drew1) | exact HB.out)⟩⟩
                  · rw [if_neg c17] at H
                    have c17b0 : decide (t237 < 1) = false := decide_eq_false c17
                    clear c17
                    (first | rw [c17b0] | (simp only [i64_w, i32_w]; rw [c17b0]) | skip)
                    by_cases c18 : t237 > 63
                    · rw [if_pos c18] at H
                      have c18b0 : decide (63 < t237) = true := decide_eq_true c18
                      clear c18
                      have H' := Aside0.mk H
                      clear H
                      go_wp2
                      refine Met.intro ?_
                      go_step
                      (repeat apply Exists.intro)
                      first | refine ⟨?rel412, rfl⟩ | (refine ⟨?rel412, ?st412⟩; case' st412 => (first | rw [c18b0] | simp only [c18b0]))
                      case rel412 => exact ⟨_, (true), (by first | rfl | (simp; done) | (simp [*]; done)), H', ⟨by have := HJ4.out; have := HJ9.out; first | omega | exact Nat.le_refl _⟩, ⟨by repeat (first | (with_reducible first | exact HB.out | apply below_alloc | apply pw_below_drewN | apply below_drew1) | exact HB.out)⟩⟩
                    · rw [if_neg c18] at H
                      have c18b0 : decide (63 < t237) = false := decide_eq_false c18
                      clear c18
                      obtain ⟨ji19, hji19⟩ : ∃ j_ : Int, (IntKind.u64.wrap (wrap64 (t237 - 1))) = j_ := ⟨_, rfl⟩
                      replace H : (if 0 ≤ (ji19) then (madrigallaw1_FixHolds.j2 kj9 a0 a1 t237 ((shr .i64 a0 (ji19)) != 1)) else (none)) = some r := by first | (rw [hji19] at H; exact H) | (simp only [hji19] at H ⊢; exact H)
                      by_cases c20 : 0 ≤ (ji19)
                      · rw [if_pos c20] at H
                        have c20b0 := eq_true c20
                        have c20b1 : decide (0 ≤ (ji19)) = true := decide_eq_true c20
                        clear c20
                        obtain ⟨ji21, hji21⟩ : ∃ j_ : Int, (shr .i64 a0 (ji19)) = j_ := ⟨_, rfl⟩
                        replace H : (madrigallaw1_FixHolds.j2 kj9 a0 a1 t237 ((ji21) != 1)) = some r := by first | (rw [hji21] at H; exact H) | (simp only [hji21] at H ⊢; exact H)
                        have hji21_ : (a0 / 2 ^ min (ji19).toNat 64) = ji21 := hji21
                        have hji21z : (ji19) ≤ 64 → (a0 / 2 ^ (ji19).toNat) = ji21 := shr_small hji21
                        have H' := Aside0.mk H
                        clear H
                        go_wp2
                        go_meet
                        case rel => exact ⟨_, (((ji21) != 1)), (by first | rfl | (simp; done) | (simp only [← hji21] <;> (first | rfl | simp)) | (simp [*]; done)), H', ⟨by have := HJ4.out; have := HJ9.out; first | omega | exact Nat.le_refl _⟩, ⟨by repeat (first | (with_reducible first | exact HB.out | apply below_alloc | apply pw_below_drewN | apply below_drew1) | exact HB.out)⟩⟩
                      · rw [if_neg c20] at H
                        exact absurd H (by simp)
                case rest =>
                  clear HC16
                  try clear c1
                  try clear c2
                  try clear p2
                  try clear c4
                  try clear c5
                  try clear p6
                  try clear c7
                  try clear c7b0
                  try clear c8
                  try clear c11
                  try clear c11b0
                  try clear c12
                  try clear c12b0
                  try clear c13
                  try clear c13b0
                  try clear c14
                  try clear c16
                  try clear c17
                  try clear c17b0
                  try clear c18
                  try clear c18b0
                  try clear c20
                  try clear c20b0
                  try clear c20b1
                  try clear p2
                  try clear p6
                  obtain ⟨kq, x56_15, rfl, HA, HJ15, HB⟩ := hcut
                  (try simp only [i64_w, i32_w])
                  cases kq with
                  | zero => exact absurd HA.out (by simp [madrigallaw1_FixHolds.j2])
                  | succ kj15 =>
                    have H := HA.out
                    clear HA
                    simp only [madrigallaw1_FixHolds.j2] at H
                    by_cases c22 : x56_15 = true
                    · subst c22
                      have H1 : (none) = some r := by rw [if_pos rfl] at H; exact H
                      clear H
                      have H := H1
                      clear H1
                      exact absurd H (by simp)
                    · replace c22 := Bool.eq_false_iff.mpr c22
                      subst c22
                      have H1 : ((fix_Log2.f kj15 a0).bind fun t238 => (if t238 < (wrap64 (256 * (wrap64 (t237 - 1)))) then (madrigallaw1_FixHolds.j3 kj15 a1 true) else (madrigallaw1_FixHolds.j3 kj15 a1 (decide (t238 ≥ (wrap64 (256 * t237))))))) = some r := by rw [if_neg (show ¬ (false = true) by decide)] at H; exact H
                      clear H
                      have H := H1
                      clear H1
                      replace H := Option.bind_eq_some_iff.mp H
                      obtain ⟨t238, A230, H⟩ := H
                      replace H : (if t238 < (wrap64 (256 * (wrap64 (t237 - 1)))) then (madrigallaw1_FixHolds.j3 kj15 a1 true) else (madrigallaw1_FixHolds.j3 kj15 a1 (decide (t238 ≥ (wrap64 (256 * t237)))))) = some r := H
                      have A23 := Aside0.mk A230
                      clear A230
                      have HC24 := Aside0.mk H
                      clear H
                      go_upto_region 12 with (first | ((with_reducible refine gate_callee (f := 15) rfl ?_); refine goesL_ (some 58) rfl rfl Try.func15 (by kernel_rfl) rfl #[.int .i64 a0] rfl (by (try simp only [List.map_toArray, List.map_cons, List.map_nil]); first | done | rfl | (simp only [List.length_drop, List.length_take]; rfl)) ?_; (with_reducible refine (fix_Log2.calls kj15 a0 t238 _ A23.out).mono ?_); rintro e w' ⟨rfl, ⟨nd, rfl⟩⟩; refine ⟨_, rfl, ?_⟩))
                      (try simp only [Act.put, List.setIfInBounds_toArray, List.set_cons_zero, List.set_cons_succ])
                      go_cut [69] (fun v69 wc => ∃ (kq : Nat) (x69_23 : Bool), v69 = .bool x69_23 ∧ Aside0 (madrigallaw1_FixHolds.j3 kq a1 x69_23 = some r) ∧ Aside0 (kq ≤ kj15) ∧ Aside0 (Below w.heap.size w wc))
                      case first =>
                        have H := HC24.out
                        clear HC24
                        by_cases c25 : t238 < (wrap64 (256 * (wrap64 (t237 - 1))))
                        · rw [if_pos c25] at H
                          have c25b0 : decide (t238 < (wrap64 (256 * (wrap64 (t237 - 1))))) = true := decide_eq_true c25
                          clear c25
                          (first | rw [c25b0] | (simp only [i64_w, i32_w]; rw [c25b0]) | skip)
                          have H' := Aside0.mk H
                          clear H
                          go_wp2
                          refine Met.intro ?_
                          go_step
                          (repeat apply Exists.intro)
                          first | refine ⟨?rel505, rfl⟩ | (refine ⟨?rel505, ?st505⟩; case' st505 => (first | rw [c25b0] | simp only [c25b0]))
                          case rel505 => exact ⟨_, (true), (by first | rfl | (simp; done) | (simp [*]; done)), H', ⟨by have := HJ4.out; have := HJ9.out; have := HJ15.out; first | omega | exact Nat.le_refl _⟩, ⟨by repeat (first | (with_reducible first | exact HB.out | apply below_alloc | apply pw_below_drewN | apply below_drew1) | exact HB.out)⟩⟩
                        · rw [if_neg c25] at H
                          have c25b0 : decide (t238 < (wrap64 (256 * (wrap64 (t237 - 1))))) = false := decide_eq_false c25
                          clear c25
                          (first | rw [c25b0] | (simp only [i64_w, i32_w]; rw [c25b0]) | skip)
                          have H' := Aside0.mk H
                          clear H
                          go_wp2
                          refine Met.intro ?_
                          go_step
                          (repeat apply Exists.intro)
                          first | refine ⟨?rel514, rfl⟩ | (refine ⟨?rel514, ?st514⟩; case' st514 => (first | rw [c25b0] | simp only [c25b0]))
                          case rel514 => exact ⟨_, (decide (t238 ≥ (wrap64 (256 * t237)))), (by first | rfl | (simp; done) | (simp [*]; done)), H', ⟨by have := HJ4.out; have := HJ9.out; have := HJ15.out; first | omega | exact Nat.le_refl _⟩, ⟨by repeat (first | (with_reducible first | exact HB.out | apply below_alloc | apply pw_below_drewN | apply below_drew1) | exact HB.out)⟩⟩
                      case rest =>
                        clear HC24
                        try clear c1
                        try clear c2
                        try clear p2
                        try clear c4
                        try clear c5
                        try clear p6
                        try clear c7
                        try clear c7b0
                        try clear c8
                        try clear c11
                        try clear c11b0
                        try clear c12
                        try clear c12b0
                        try clear c13
                        try clear c13b0
                        try clear c14
                        try clear c15
                        try clear c16
                        try clear c17
                        try clear c17b0
                        try clear c18
                        try clear c18b0
                        try clear c20
                        try clear c20b0
                        try clear c20b1
                        try clear c22
                        try clear c25
                        try clear c25b0
                        try clear p2
                        try clear p6
                        obtain ⟨kq, x69_23, rfl, HA, HJ23, HB⟩ := hcut
                        (try simp only [i64_w, i32_w])
                        cases kq with
                        | zero => exact absurd HA.out (by simp [madrigallaw1_FixHolds.j3])
                        | succ kj23 =>
                          have H := HA.out
                          clear HA
                          simp only [madrigallaw1_FixHolds.j3] at H
                          by_cases c26 : x69_23 = true
                          · subst c26
                            have H1 : (none) = some r := by rw [if_pos rfl] at H; exact H
                            clear H
                            have H := H1
                            clear H1
                            exact absurd H (by simp)
                          · replace c26 := Bool.eq_false_iff.mpr c26
                            subst c26
                            have H1 : (if a1 < 2048 then (madrigallaw1_FixHolds.j4 kj23 a1 true) else (madrigallaw1_FixHolds.j4 kj23 a1 (decide (a1 > 7900)))) = some r := by rw [if_neg (show ¬ (false = true) by decide)] at H; exact H
                            clear H
                            have H := H1
                            clear H1
                            have HC27 := Aside0.mk H
                            clear H
                            go_upto_region 14 with (fail)
                            go_cut [75] (fun v75 wc => ∃ (kq : Nat) (x75_26 : Bool), v75 = .bool x75_26 ∧ Aside0 (madrigallaw1_FixHolds.j4 kq a1 x75_26 = some r) ∧ Aside0 (kq ≤ kj23) ∧ Aside0 (Below w.heap.size w wc))
                            case first =>
                              have H := HC27.out
                              clear HC27
                              by_cases c28 : a1 < 2048
                              · rw [if_pos c28] at H
                                have c28b0 : decide (a1 < 2048) = true := decide_eq_true c28
                                clear c28
                                (first | rw [c28b0] | (simp only [i64_w, i32_w]; rw [c28b0]) | skip)
                                have H' := Aside0.mk H
                                clear H
                                go_wp2
                                refine Met.intro ?_
                                go_step
                                (repeat apply Exists.intro)
                                first | refine ⟨?rel584, rfl⟩ | (refine ⟨?rel584, ?st584⟩; case' st584 => (first | rw [c28b0] | simp only [c28b0]))
                                case rel584 => exact ⟨_, (true), (by first | rfl | (simp; done) | (simp [*]; done)), H', ⟨by have := HJ4.out; have := HJ9.out; have := HJ15.out; have := HJ23.out; first | omega | exact Nat.le_refl _⟩, ⟨by repeat (first | (with_reducible first | exact HB.out | apply below_alloc | apply pw_below_drewN | apply below_drew1) | exact HB.out)⟩⟩
                              · rw [if_neg c28] at H
                                have c28b0 : decide (a1 < 2048) = false := decide_eq_false c28
                                clear c28
                                (first | rw [c28b0] | (simp only [i64_w, i32_w]; rw [c28b0]) | skip)
                                have H' := Aside0.mk H
                                clear H
                                go_wp2
                                refine Met.intro ?_
                                go_step
                                (repeat apply Exists.intro)
                                first | refine ⟨?rel593, rfl⟩ | (refine ⟨?rel593, ?st593⟩; case' st593 => (first | rw [c28b0] | simp only [c28b0]))
                                case rel593 => exact ⟨_, (decide (a1 > 7900)), (by first | rfl | (simp; done) | (simp [*]; done)), H', ⟨by have := HJ4.out; have := HJ9.out; have := HJ15.out; have := HJ23.out; first | omega | exact Nat.le_refl _⟩, ⟨by repeat (first | (with_reducible first | exact HB.out | apply below_alloc | apply pw_below_drewN | apply below_drew1) | exact HB.out)⟩⟩
                            case rest =>
                              clear HC27
                              try clear c1
                              try clear c2
                              try clear p2
                              try clear c4
                              try clear c5
                              try clear p6
                              try clear c7
                              try clear c7b0
                              try clear c8
                              try clear c11
                              try clear c11b0
                              try clear c12
                              try clear c12b0
                              try clear c13
                              try clear c13b0
                              try clear c14
                              try clear c15
                              try clear c16
                              try clear c17
                              try clear c17b0
                              try clear c18
                              try clear c18b0
                              try clear c20
                              try clear c20b0
                              try clear c20b1
                              try clear c22
                              try clear c25
                              try clear c25b0
                              try clear c26
                              try clear c28
                              try clear c28b0
                              try clear p2
                              try clear p6
                              obtain ⟨kq, x75_26, rfl, HA, HJ26, HB⟩ := hcut
                              (try simp only [i64_w, i32_w])
                              cases kq with
                              | zero => exact absurd HA.out (by simp [madrigallaw1_FixHolds.j4])
                              | succ kj26 =>
                                have H := HA.out
                                clear HA
                                simp only [madrigallaw1_FixHolds.j4] at H
                                by_cases c29 : x75_26 = true
                                · subst c29
                                  have H1 : (some true) = some r := by rw [if_pos rfl] at H; exact H
                                  clear H
                                  have H := H1
                                  clear H1
                                  obtain rfl := Option.some.inj H
                                  go_wp2
                                  go_ret
                                  exact ⟨by first | rfl | (simp [errW_none, errW_some] <;> rfl) | (simp [*, errW_none, errW_some] <;> rfl), by repeat (first | (with_reducible first | exact HB.out | apply below_alloc | apply pw_below_drewN | apply below_drew1) | exact HB.out)⟩
                                · replace c29 := Bool.eq_false_iff.mpr c29
                                  subst c29
                                  have H1 : ((fix_Exp2.f kj26 a1).bind fun t239 => ((fix_Log2.f kj26 t239).bind fun t240 => (if (wrap64 (t240 - a1)) ≤ 2 then (some (decide ((wrap64 (t240 - a1)) ≥ (-2)))) else (none)))) = some r := by rw [if_neg (show ¬ (false = true) by decide)] at H; exact H
                                  clear H
                                  have H := H1
                                  clear H1
                                  replace H := Option.bind_eq_some_iff.mp H
                                  obtain ⟨t239, A300, H⟩ := H
                                  replace H : ((fix_Log2.f kj26 t239).bind fun t240 => (if (wrap64 (t240 - a1)) ≤ 2 then (some (decide ((wrap64 (t240 - a1)) ≥ (-2)))) else (none))) = some r := H
                                  have A30 := Aside0.mk A300
                                  clear A300
                                  replace H := Option.bind_eq_some_iff.mp H
                                  obtain ⟨t240, A310, H⟩ := H
                                  replace H : (if (wrap64 (t240 - a1)) ≤ 2 then (some (decide ((wrap64 (t240 - a1)) ≥ (-2)))) else (none)) = some r := H
                                  have A31 := Aside0.mk A310
                                  clear A310
                                  by_cases c32 : (wrap64 (t240 - a1)) ≤ 2
                                  · rw [if_pos c32] at H
                                    have c32b0 : decide ((wrap64 (t240 - a1)) ≤ 2) = true := decide_eq_true c32
                                    clear c32
                                    obtain rfl := Option.some.inj H
                                    go_wp2_with (first | ((with_reducible refine gate_callee (f := 19) rfl ?_); refine goesL_ (some 77) rfl rfl Try.func19 (by kernel_rfl) rfl #[.int .i64 a1] rfl (by (try simp only [List.map_toArray, List.map_cons, List.map_nil]); first | done | rfl | (simp only [List.length_drop, List.length_take]; rfl)) ?_; (with_reducible refine (fix_Exp2.calls kj26 a1 t239 _ A30.out).mono ?_); rintro e w' ⟨rfl, ⟨nd, rfl⟩⟩; refine ⟨_, rfl, ?_⟩) | ((with_reducible refine gate_callee (f := 15) rfl ?_); refine goesL_ (some 78) rfl rfl Try.func15 (by kernel_rfl) rfl #[.int .i64 t239] rfl (by (try simp only [List.map_toArray, List.map_cons, List.map_nil]); first | done | rfl | (simp only [List.length_drop, List.length_take]; rfl)) ?_; (with_reducible refine (fix_Log2.calls kj26 t239 t240 _ A31.out).mono ?_); rintro e w' ⟨rfl, ⟨nd, rfl⟩⟩; refine ⟨_, rfl, ?_⟩))
                                    go_ret
                                    exact ⟨by first | rfl | (simp [errW_none, errW_some] <;> rfl) | (simp [*, errW_none, errW_some] <;> rfl), by repeat (first | (with_reducible first | exact HB.out | apply below_alloc | apply pw_below_drewN | apply below_drew1) | exact HB.out)⟩
                                  · rw [if_neg c32] at H
                                    exact absurd H (by simp)
  · replace c4 := Bool.eq_false_iff.mpr c4
    subst c4
    have H1 : (none) = some r := by rw [if_neg (show ¬ (false = true) by decide)] at H; exact H
    clear H
    have H := H1
    clear H1
    exact absurd H (by simp)

/-- THE ONE PURE STATEMENT of madrigallaw1_FixHolds. -/
def madrigallaw1_FixHolds.Pure : Prop := ∀ (a0 : Int) (a1 : Int), (Lit.int .i64 a0).wf = true → (Lit.int .i64 a1).wf = true → ∃ k, madrigallaw1_FixHolds.f k a0 a1 = some true
theorem madrigallaw1_FixHolds.walk (P : madrigallaw1_FixHolds.Pure) (a0 : Int) (a1 : Int) (w : World) (w0 : (Lit.int .i64 a0).wf = true) (w1 : (Lit.int .i64 a1).wf = true) :
    Calls Try.prog 5 #[.int .i64 a0, .int .i64 a1] w fun e w' => e = .returned (.bool true) ∧ Below w.heap.size w w' := by
  obtain ⟨k, h⟩ := P a0 a1 w0 w1
  refine (madrigallaw1_FixHolds.calls k a0 a1 true w h).mono ?_
  rintro e w' ⟨rfl, hd⟩
  exact ⟨rfl, hd⟩

end Go.Proofs.Ytlhdoopmlpnhlaa.P
