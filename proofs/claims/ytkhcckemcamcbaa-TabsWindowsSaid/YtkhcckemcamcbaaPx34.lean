/- The machine side of the laws of one chapter, without conditions: each call of a Go function comes to what the Lean function of its name answers. Written for this claim by a program of the prover. -/
import Derived.Test.YtkhcckemcamcbaaPx0
import Derived.Test.YtkhcckemcamcbaaPx15
import Derived.Test.YtkhcckemcamcbaaPx17
namespace Go.Proofs.Ytkhcckemcamcbaa.P
open Go.RowKit Go.Proofs.YtkhcckemcamcbaaW.PrintWords Go.Proofs.YtkhcckemcamcbaaW.PrintLast Go.Proofs.YtkhcckemcamcbaaW.PrintMore
attribute [local go_sem] max2_int min2_int max_two min_two max_three min_three max_four min_four   -- for this text's walks alone
set_option linter.unusedVariables false
set_option linter.unusedSimpArgs false

/-! ### madrigallaw2_TabsWindows: function 6 -/
mutual
def madrigallaw2_TabsWindows.j0 : Nat → Int → Bool → Option (Bool)
  | 0, _, _ => none
  | k + 1, x0, x13 => if x13 = true then ((tabs_Window.f k x0).bind fun t389 => (if (t389.length : Int) = 0 then (some true) else (some (x0 == 1)))) else ((tabs_Window.f k x0).bind fun t392 => (if (t392.length : Int) = x0 then (madrigallaw2_TabsWindows.l0 k x0 t392 0) else (none)))
def madrigallaw2_TabsWindows.l0 : Nat → Int → List Int → Int → Option (Bool)
  | 0, _, _, _ => none
  | k + 1, x0, x3, x4 => if x4 < x0 then (if 0 ≤ x4 then (if x4 < (x3.length : Int) then (if 0 ≤ (wrap64 ((wrap64 (x0 - 1)) - x4)) then (if (wrap64 ((wrap64 (x0 - 1)) - x4)) < (x3.length : Int) then (if (wrap64 ((wrap64 ((wrap64 ((rd x3 x4) * (rd x3 x4))) + (wrap64 ((rd x3 (wrap64 ((wrap64 (x0 - 1)) - x4))) * (rd x3 (wrap64 ((wrap64 (x0 - 1)) - x4))))))) - 1073741824)) > 524288 then (none) else (if (wrap64 ((wrap64 ((wrap64 ((rd x3 x4) * (rd x3 x4))) + (wrap64 ((rd x3 (wrap64 ((wrap64 (x0 - 1)) - x4))) * (rd x3 (wrap64 ((wrap64 (x0 - 1)) - x4))))))) - 1073741824)) < (-524288) then (none) else (if x4 > 0 then (if 0 ≤ (wrap64 (x4 - 1)) then (if (wrap64 (x4 - 1)) < (x3.length : Int) then (if (rd x3 x4) < (rd x3 (wrap64 (x4 - 1))) then (none) else (if (rd x3 x4) < 0 then (none) else (if (rd x3 x4) > 32768 then (none) else (madrigallaw2_TabsWindows.l0 k x0 x3 (wrap64 (x4 + 1)))))) else (none)) else (none)) else (if (rd x3 x4) < 0 then (none) else (if (rd x3 x4) > 32768 then (none) else (madrigallaw2_TabsWindows.l0 k x0 x3 (wrap64 (x4 + 1)))))))) else (none)) else (none)) else (none)) else (none)) else (some true)
end
def madrigallaw2_TabsWindows.f (k : Nat) (a0 : Int) : Option (Bool) := (madrigallaw2_awake.f k).bind fun t388 => (if t388 = true then (if a0 < 2 then (madrigallaw2_TabsWindows.j0 k a0 true) else (madrigallaw2_TabsWindows.j0 k a0 (decide (a0 > 480)))) else (none))
theorem madrigallaw2_TabsWindows.mono_l : ∀ k, (∀ y0 y1, LeO (madrigallaw2_TabsWindows.j0 k y0 y1) (madrigallaw2_TabsWindows.j0 (k + 1) y0 y1)) ∧ (∀ y0 y1 y2, LeO (madrigallaw2_TabsWindows.l0 k y0 y1 y2) (madrigallaw2_TabsWindows.l0 (k + 1) y0 y1 y2))
  | 0 => ⟨fun _ _ r h => by simp [madrigallaw2_TabsWindows.j0] at h, fun _ _ _ r h => by simp [madrigallaw2_TabsWindows.l0] at h⟩
  | k + 1 => by
    obtain ⟨ih0, ih1⟩ := madrigallaw2_TabsWindows.mono_l k
    refine ⟨?_, ?_⟩
    · intro y0 y1
      unfold madrigallaw2_TabsWindows.j0
      repeat' first
      | (with_reducible exact ih0 _ _)
      | (with_reducible exact ih1 _ _ _)
      | (with_reducible exact madrigallaw2_awake.mono _)
      | (with_reducible exact tabs_Window.mono _ _)
      | (with_reducible exact LeO.refl _)
      | (with_reducible exact LeO.none _)
      | (with_reducible refine LeO.ite ?_ ?_)
      | (with_reducible refine LeO.bind ?_ (fun _ => ?_))
      | exact ih0 _ _
      | exact ih1 _ _ _
      | exact madrigallaw2_awake.mono _
      | exact tabs_Window.mono _ _
      | exact LeO.none _
      | refine LeO.ite ?_ ?_
      | refine LeO.bind ?_ (fun _ => ?_)
    · intro y0 y1 y2
      unfold madrigallaw2_TabsWindows.l0
      repeat' first
      | (with_reducible exact ih0 _ _)
      | (with_reducible exact ih1 _ _ _)
      | (with_reducible exact madrigallaw2_awake.mono _)
      | (with_reducible exact tabs_Window.mono _ _)
      | (with_reducible exact LeO.refl _)
      | (with_reducible exact LeO.none _)
      | (with_reducible refine LeO.ite ?_ ?_)
      | (with_reducible refine LeO.bind ?_ (fun _ => ?_))
      | exact ih0 _ _
      | exact ih1 _ _ _
      | exact madrigallaw2_awake.mono _
      | exact tabs_Window.mono _ _
      | exact LeO.none _
      | refine LeO.ite ?_ ?_
      | refine LeO.bind ?_ (fun _ => ?_)
theorem madrigallaw2_TabsWindows.mono : ∀ a0 k, LeO (madrigallaw2_TabsWindows.f k a0) (madrigallaw2_TabsWindows.f (k + 1) a0) := by
  intro a0 k
  obtain ⟨ih0, ih1⟩ := madrigallaw2_TabsWindows.mono_l k
  unfold madrigallaw2_TabsWindows.f
  repeat' first
      | (with_reducible exact ih0 _ _)
      | (with_reducible exact ih1 _ _ _)
      | (with_reducible exact madrigallaw2_awake.mono _)
      | (with_reducible exact tabs_Window.mono _ _)
      | (with_reducible exact LeO.refl _)
      | (with_reducible exact LeO.none _)
      | (with_reducible refine LeO.ite ?_ ?_)
      | (with_reducible refine LeO.bind ?_ (fun _ => ?_))
      | exact ih0 _ _
      | exact ih1 _ _ _
      | exact madrigallaw2_awake.mono _
      | exact tabs_Window.mono _ _
      | exact LeO.none _
      | refine LeO.ite ?_ ?_
      | refine LeO.bind ?_ (fun _ => ?_)
set_option maxHeartbeats 8000000 in
set_option maxRecDepth 100000 in
theorem madrigallaw2_TabsWindows.calls (k : Nat) (a0 : Int) (r : Bool) (w : World) (h : madrigallaw2_TabsWindows.f k a0 = some r) :
    Calls Try.prog 6 #[.int .i64 a0] w fun e w' => e = .returned (.bool r) ∧ Below w.heap.size w w' := by
  have HB := Aside0.mk (Below.refl w.heap.size w)
  have H : ((madrigallaw2_awake.f k).bind fun t388 => (if t388 = true then (if a0 < 2 then (madrigallaw2_TabsWindows.j0 k a0 true) else (madrigallaw2_TabsWindows.j0 k a0 (decide (a0 > 480)))) else (none))) = some r := h
  clear h
  replace H := Option.bind_eq_some_iff.mp H
  obtain ⟨t388, A20, H⟩ := H
  replace H : (if t388 = true then (if a0 < 2 then (madrigallaw2_TabsWindows.j0 k a0 true) else (madrigallaw2_TabsWindows.j0 k a0 (decide (a0 > 480)))) else (none)) = some r := H
  have A2 := Aside0.mk A20
  clear A20
  by_cases c3 : t388 = true
  · subst c3
    have H1 : (if a0 < 2 then (madrigallaw2_TabsWindows.j0 k a0 true) else (madrigallaw2_TabsWindows.j0 k a0 (decide (a0 > 480)))) = some r := by rw [if_pos rfl] at H; exact H
    clear H
    have H := H1
    clear H1
    have HC4 := Aside0.mk H
    clear H
    go_enter Try.func6, Try.ntmps6
    go_upto_region 3 with (first | (go_at_call 10; (with_reducible refine (madrigallaw2_awake.calls k  true _ A2.out).mono ?_); rintro e w5 ⟨rfl, hb⟩; have n0_ := Aside0.mk (below_step (by repeat (first | (with_reducible first | exact HB.out | apply below_alloc | apply pw_below_drewN | apply below_drew1) | exact HB.out)) hb); clear HB; have HB := n0_; clear n0_; (try clear hb); (try clear hb2); (try clear hk); (try clear hi); (try clear hge)))
    repeat (go_quiet (first | (go_at_call 10; (with_reducible refine (madrigallaw2_awake.calls k  true _ A2.out).mono ?_); rintro e w5 ⟨rfl, hb⟩; have n0_ := Aside0.mk (below_step (by repeat (first | (with_reducible first | exact HB.out | apply below_alloc | apply pw_below_drewN | apply below_drew1) | exact HB.out)) hb); clear HB; have HB := n0_; clear n0_; (try clear hb); (try clear hb2); (try clear hk); (try clear hi); (try clear hge))); go_upto_region 3 with (first | (go_at_call 10; (with_reducible refine (madrigallaw2_awake.calls k  true _ A2.out).mono ?_); rintro e w5 ⟨rfl, hb⟩; have n0_ := Aside0.mk (below_step (by repeat (first | (with_reducible first | exact HB.out | apply below_alloc | apply pw_below_drewN | apply below_drew1) | exact HB.out)) hb); clear HB; have HB := n0_; clear n0_; (try clear hb); (try clear hb2); (try clear hk); (try clear hi); (try clear hge))))
    (try simp only [Act.put, List.setIfInBounds_toArray, List.set_cons_zero, List.set_cons_succ])
    go_cut [13] (fun v13 wc => ∃ (kq : Nat) (x13_3 : Bool), v13 = .bool x13_3 ∧ Aside0 (madrigallaw2_TabsWindows.j0 kq a0 x13_3 = some r) ∧ Aside0 (kq ≤ k) ∧ Aside0 (Below w.heap.size w wc))
    case first =>
      have H := HC4.out
      clear HC4
      by_cases c6 : a0 < 2
      · rw [if_pos c6] at H
        have c6b0 : decide (a0 < 2) = true := decide_eq_true c6
        clear c6
        (first | rw [c6b0] | (simp only [i64_w, i32_w]; rw [c6b0]) | skip)
        have H' := Aside0.mk H
        clear H
        go_wp2
        repeat (go_quiet (fail); try go_wp2)
        refine Met.intro ?_
        go_step
        (repeat apply Exists.intro)
        first | refine ⟨?rel108, rfl⟩ | (refine ⟨?rel108, ?st108⟩; case' st108 => (first | rw [c6b0] | simp only [c6b0]))
        case rel108 => exact ⟨_, (true), (by first | rfl | (simp; done) | (simp [*]; done)), H', ⟨by first | omega | exact Nat.le_refl _⟩, ⟨by repeat (first | (with_reducible first | exact HB.out | apply below_alloc | apply pw_below_drewN | apply below_drew1) | exact HB.out)⟩⟩
      · rw [if_neg c6] at H
        have c6b0 : decide (a0 < 2) = false := decide_eq_false c6
        clear c6
        (first | rw [c6b0] | (simp only [i64_w, i32_w]; rw [c6b0]) | skip)
        have H' := Aside0.mk H
        clear H
        go_wp2
        repeat (go_quiet (fail); try go_wp2)
        refine Met.intro ?_
        go_step
        (repeat apply Exists.intro)
        first | refine ⟨?rel118, rfl⟩ | (refine ⟨?rel118, ?st118⟩; case' st118 => (first | rw [c6b0] | simp only [c6b0]))
        case rel118 => exact ⟨_, (decide (a0 > 480)), (by first | rfl | (simp; done) | (simp [*]; done)), H', ⟨by first | omega | exact Nat.le_refl _⟩, ⟨by repeat (first | (with_reducible first | exact HB.out | apply below_alloc | apply pw_below_drewN | apply below_drew1) | exact HB.out)⟩⟩
    case rest =>
      clear HC4
      try clear p2
      try clear c3
      try clear c6
      try clear c6b0
      obtain ⟨kq, x13_3, rfl, HA, HJ3, HB⟩ := hcut
      (try simp only [i64_w, i32_w])
      cases kq with
      | zero => exact absurd HA.out (by simp [madrigallaw2_TabsWindows.j0])
      | succ kj3 =>
        have H := HA.out
        clear HA
        simp only [madrigallaw2_TabsWindows.j0] at H
        by_cases c7 : x13_3 = true
        · subst c7
          have H1 : ((tabs_Window.f kj3 a0).bind fun t389 => (if (t389.length : Int) = 0 then (some true) else (some (a0 == 1)))) = some r := by rw [if_pos rfl] at H; exact H
          clear H
          have H := H1
          clear H1
          replace H := Option.bind_eq_some_iff.mp H
          obtain ⟨t389, A80, H⟩ := H
          replace H : (if (t389.length : Int) = 0 then (some true) else (some (a0 == 1))) = some r := H
          have A8 := Aside0.mk A80
          clear A80
          by_cases c9 : (t389.length : Int) = 0
          · rw [if_pos c9] at H
            have c9b0 : ((t389.length : Int) == 0) = true := beq_iff_eq.mpr c9
            have c9b1 : ((t389.length : Int) != 0) = false := bne_eq_false_iff_eq.mpr c9
            clear c9
            obtain rfl := Option.some.inj H
            go_wp2_with (first | (go_at_call 25; (with_reducible refine (tabs_Window.calls kj3 a0 t389 _ A8.out).mono ?_); rintro e w10 ⟨v390, rfl, ho0, hb⟩; have n0_ := Aside0.mk (Kd.R_lower ho0 (below_size (by repeat (first | (with_reducible first | exact HB.out | apply below_alloc | apply pw_below_drewN | apply below_drew1) | exact HB.out)))); have n1_ := Aside0.mk (below_step (by repeat (first | (with_reducible first | exact HB.out | apply below_alloc | apply pw_below_drewN | apply below_drew1) | exact HB.out)) hb); clear HB; have HO391 := n0_; have HB := n1_; clear n0_ n1_; (try clear hb); (try clear hb2); (try clear hk); (try clear hi); (try clear hge); (try clear ho0); obtain ⟨Ao11, co11, eo11⟩ := Kd.R_slice HO391.out; subst eo11))
            repeat (go_quiet (first | (go_at_call 25; (with_reducible refine (tabs_Window.calls kj3 a0 t389 _ A8.out).mono ?_); rintro e w10 ⟨v390, rfl, ho0, hb⟩; have n0_ := Aside0.mk (Kd.R_lower ho0 (below_size (by repeat (first | (with_reducible first | exact HB.out | apply below_alloc | apply pw_below_drewN | apply below_drew1) | exact HB.out)))); have n1_ := Aside0.mk (below_step (by repeat (first | (with_reducible first | exact HB.out | apply below_alloc | apply pw_below_drewN | apply below_drew1) | exact HB.out)) hb); clear HB; have HO391 := n0_; have HB := n1_; clear n0_ n1_; (try clear hb); (try clear hb2); (try clear hk); (try clear hi); (try clear hge); (try clear ho0); obtain ⟨Ao11, co11, eo11⟩ := Kd.R_slice HO391.out; subst eo11)); try go_wp2_with (first | (go_at_call 25; (with_reducible refine (tabs_Window.calls kj3 a0 t389 _ A8.out).mono ?_); rintro e w10 ⟨v390, rfl, ho0, hb⟩; have n0_ := Aside0.mk (Kd.R_lower ho0 (below_size (by repeat (first | (with_reducible first | exact HB.out | apply below_alloc | apply pw_below_drewN | apply below_drew1) | exact HB.out)))); have n1_ := Aside0.mk (below_step (by repeat (first | (with_reducible first | exact HB.out | apply below_alloc | apply pw_below_drewN | apply below_drew1) | exact HB.out)) hb); clear HB; have HO391 := n0_; have HB := n1_; clear n0_ n1_; (try clear hb); (try clear hb2); (try clear hk); (try clear hi); (try clear hge); (try clear ho0); obtain ⟨Ao11, co11, eo11⟩ := Kd.R_slice HO391.out; subst eo11)))
            go_ret
            exact ⟨by first | rfl | (simp [errW_none, errW_some] <;> rfl) | (simp [*, errW_none, errW_some] <;> rfl), by repeat (first | (with_reducible first | exact HB.out | apply below_alloc | apply pw_below_drewN | apply below_drew1) | exact HB.out)⟩
          · rw [if_neg c9] at H
            have c9b0 : ((t389.length : Int) == 0) = false := beq_eq_false_iff_ne.mpr c9
            have c9b1 : ((t389.length : Int) != 0) = true := bne_iff_ne.mpr c9
            have c9b2 : ¬ (t389 = []) := fun h_ => c9 (by rw [h_]; rfl)
            obtain rfl := Option.some.inj H
            go_wp2_with (first | (go_at_call 25; (with_reducible refine (tabs_Window.calls kj3 a0 t389 _ A8.out).mono ?_); rintro e w12 ⟨v390, rfl, ho0, hb⟩; have n0_ := Aside0.mk (Kd.R_lower ho0 (below_size (by repeat (first | (with_reducible first | exact HB.out | apply below_alloc | apply pw_below_drewN | apply below_drew1) | exact HB.out)))); have n1_ := Aside0.mk (below_step (by repeat (first | (with_reducible first | exact HB.out | apply below_alloc | apply pw_below_drewN | apply below_drew1) | exact HB.out)) hb); clear HB; have HO391 := n0_; have HB := n1_; clear n0_ n1_; (try clear hb); (try clear hb2); (try clear hk); (try clear hi); (try clear hge); (try clear ho0); obtain ⟨Ao13, co13, eo13⟩ := Kd.R_slice HO391.out; subst eo13))
            repeat (go_quiet (first | (go_at_call 25; (with_reducible refine (tabs_Window.calls kj3 a0 t389 _ A8.out).mono ?_); rintro e w12 ⟨v390, rfl, ho0, hb⟩; have n0_ := Aside0.mk (Kd.R_lower ho0 (below_size (by repeat (first | (with_reducible first | exact HB.out | apply below_alloc | apply pw_below_drewN | apply below_drew1) | exact HB.out)))); have n1_ := Aside0.mk (below_step (by repeat (first | (with_reducible first | exact HB.out | apply below_alloc | apply pw_below_drewN | apply below_drew1) | exact HB.out)) hb); clear HB; have HO391 := n0_; have HB := n1_; clear n0_ n1_; (try clear hb); (try clear hb2); (try clear hk); (try clear hi); (try clear hge); (try clear ho0); obtain ⟨Ao13, co13, eo13⟩ := Kd.R_slice HO391.out; subst eo13)); try go_wp2_with (first | (go_at_call 25; (with_reducible refine (tabs_Window.calls kj3 a0 t389 _ A8.out).mono ?_); rintro e w12 ⟨v390, rfl, ho0, hb⟩; have n0_ := Aside0.mk (Kd.R_lower ho0 (below_size (by repeat (first | (with_reducible first | exact HB.out | apply below_alloc | apply pw_below_drewN | apply below_drew1) | exact HB.out)))); have n1_ := Aside0.mk (below_step (by repeat (first | (with_reducible first | exact HB.out | apply below_alloc | apply pw_below_drewN | apply below_drew1) | exact HB.out)) hb); clear HB; have HO391 := n0_; have HB := n1_; clear n0_ n1_; (try clear hb); (try clear hb2); (try clear hk); (try clear hi); (try clear hge); (try clear ho0); obtain ⟨Ao13, co13, eo13⟩ := Kd.R_slice HO391.out; subst eo13)))
            go_ret
            exact ⟨by first | rfl | (simp [errW_none, errW_some] <;> rfl) | (simp [*, errW_none, errW_some] <;> rfl), by repeat (first | (with_reducible first | exact HB.out | apply below_alloc | apply pw_below_drewN | apply below_drew1) | exact HB.out)⟩
        · replace c7 := Bool.eq_false_iff.mpr c7
          subst c7
          have H1 : ((tabs_Window.f kj3 a0).bind fun t392 => (if (t392.length : Int) = a0 then (madrigallaw2_TabsWindows.l0 kj3 a0 t392 0) else (none))) = some r := by rw [if_neg (show ¬ (false = true) by decide)] at H; exact H
          clear H
          have H := H1
          clear H1
          replace H := Option.bind_eq_some_iff.mp H
          obtain ⟨t392, A140, H⟩ := H
          replace H : (if (t392.length : Int) = a0 then (madrigallaw2_TabsWindows.l0 kj3 a0 t392 0) else (none)) = some r := H
          have A14 := Aside0.mk A140
          clear A140
          by_cases c15 : (t392.length : Int) = a0
          · rw [if_pos c15] at H
            have c15b0 : ((t392.length : Int) == a0) = true := beq_iff_eq.mpr c15
            have c15b1 : ((t392.length : Int) != a0) = false := bne_eq_false_iff_eq.mpr c15
            clear c15
            have H' := Aside0.mk H
            clear H
            go_wp2_with (first | (go_at_call 25; (with_reducible refine (tabs_Window.calls kj3 a0 t392 _ A14.out).mono ?_); rintro e w16 ⟨v393, rfl, ho0, hb⟩; have n0_ := Aside0.mk (Kd.R_lower ho0 (below_size (by repeat (first | (with_reducible first | exact HB.out | apply below_alloc | apply pw_below_drewN | apply below_drew1) | exact HB.out)))); have n1_ := Aside0.mk (below_step (by repeat (first | (with_reducible first | exact HB.out | apply below_alloc | apply pw_below_drewN | apply below_drew1) | exact HB.out)) hb); clear HB; have HO394 := n0_; have HB := n1_; clear n0_ n1_; (try clear hb); (try clear hb2); (try clear hk); (try clear hi); (try clear hge); (try clear ho0); obtain ⟨Ao17, co17, eo17⟩ := Kd.R_slice HO394.out; subst eo17))
            repeat (go_quiet (first | (go_at_call 25; (with_reducible refine (tabs_Window.calls kj3 a0 t392 _ A14.out).mono ?_); rintro e w16 ⟨v393, rfl, ho0, hb⟩; have n0_ := Aside0.mk (Kd.R_lower ho0 (below_size (by repeat (first | (with_reducible first | exact HB.out | apply below_alloc | apply pw_below_drewN | apply below_drew1) | exact HB.out)))); have n1_ := Aside0.mk (below_step (by repeat (first | (with_reducible first | exact HB.out | apply below_alloc | apply pw_below_drewN | apply below_drew1) | exact HB.out)) hb); clear HB; have HO394 := n0_; have HB := n1_; clear n0_ n1_; (try clear hb); (try clear hb2); (try clear hk); (try clear hi); (try clear hge); (try clear ho0); obtain ⟨Ao17, co17, eo17⟩ := Kd.R_slice HO394.out; subst eo17)); try go_wp2_with (first | (go_at_call 25; (with_reducible refine (tabs_Window.calls kj3 a0 t392 _ A14.out).mono ?_); rintro e w16 ⟨v393, rfl, ho0, hb⟩; have n0_ := Aside0.mk (Kd.R_lower ho0 (below_size (by repeat (first | (with_reducible first | exact HB.out | apply below_alloc | apply pw_below_drewN | apply below_drew1) | exact HB.out)))); have n1_ := Aside0.mk (below_step (by repeat (first | (with_reducible first | exact HB.out | apply below_alloc | apply pw_below_drewN | apply below_drew1) | exact HB.out)) hb); clear HB; have HO394 := n0_; have HB := n1_; clear n0_ n1_; (try clear hb); (try clear hb2); (try clear hk); (try clear hi); (try clear hge); (try clear ho0); obtain ⟨Ao17, co17, eo17⟩ := Kd.R_slice HO394.out; subst eo17)))
            go_loopg [4] kj3 (fun kq v4 w' => ∃ (x4_2 : Int), v4 = .int .i64 x4_2 ∧ Aside0 (madrigallaw2_TabsWindows.l0 kq a0 t392 x4_2 = some r) ∧ Aside0 (kq ≤ kj3) ∧ Aside0 (Kd.R (Kd.int .i64) 2 w' w.heap.size (fun _ => True) (.slice Ao17 t392.length co17) t392) ∧ Aside0 (Below w.heap.size w w'))
            case atStart => exact ⟨(0), (by first | rfl | (simp; done) | (simp [*]; done)), H', ⟨Nat.le_refl _⟩, ⟨by (with_reducible repeat (first | apply Kd.R_alloc | apply Kd.R_drewN | apply Kd.R_drew)); exact HO394.out⟩, ⟨by repeat (first | (with_reducible first | exact HB.out | apply below_alloc | apply pw_below_drewN | apply below_drew1) | exact HB.out)⟩⟩
            case round =>
              clear H'
              try clear c1
              try clear p2
              try clear c3
              try clear c6
              try clear c6b0
              try clear c7
              try clear c9
              try clear c9b0
              try clear c9b1
              try clear c9b2
              try clear c15
              try clear c15b0
              try clear c15b1
              try clear p2
              obtain ⟨x4_2, rfl, HA, HK2, HO_3, HB⟩ := hrel
              (try simp only [i64_w, i32_w])
              cases gk with
              | zero => exact absurd HA.out (by simp [madrigallaw2_TabsWindows.l0])
              | succ k2 =>
                have H := HA.out
                clear HA
                simp only [madrigallaw2_TabsWindows.l0] at H
                by_cases c18 : x4_2 < a0
                · rw [if_pos c18] at H
                  have c18b0 : decide (x4_2 < a0) = true := decide_eq_true c18
                  clear c18
                  by_cases c19 : 0 ≤ x4_2
                  · rw [if_pos c19] at H
                    have c19b0 : decide (0 ≤ x4_2) = true := decide_eq_true c19
                    clear c19
                    by_cases c20 : x4_2 < (t392.length : Int)
                    · rw [if_pos c20] at H
                      have c20b0 : decide (x4_2 < (t392.length : Int)) = true := decide_eq_true c20
                      clear c20
                      obtain ⟨ji21, hji21⟩ : ∃ j_ : Int, (wrap64 ((wrap64 (a0 - 1)) - x4_2)) = j_ := ⟨_, rfl⟩
                      replace H : (if 0 ≤ (ji21) then (if (ji21) < (t392.length : Int) then (if (wrap64 ((wrap64 ((wrap64 ((rd t392 x4_2) * (rd t392 x4_2))) + (wrap64 ((rd t392 (ji21)) * (rd t392 (ji21)))))) - 1073741824)) > 524288 then (none) else (if (wrap64 ((wrap64 ((wrap64 ((rd t392 x4_2) * (rd t392 x4_2))) + (wrap64 ((rd t392 (ji21)) * (rd t392 (ji21)))))) - 1073741824)) < (-524288) then (none) else (if x4_2 > 0 then (if 0 ≤ (wrap64 (x4_2 - 1)) then (if (wrap64 (x4_2 - 1)) < (t392.length : Int) then (if (rd t392 x4_2) < (rd t392 (wrap64 (x4_2 - 1))) then (none) else (if (rd t392 x4_2) < 0 then (none) else (if (rd t392 x4_2) > 32768 then (none) else (madrigallaw2_TabsWindows.l0 k2 a0 t392 (wrap64 (x4_2 + 1)))))) else (none)) else (none)) else (if (rd t392 x4_2) < 0 then (none) else (if (rd t392 x4_2) > 32768 then (none) else (madrigallaw2_TabsWindows.l0 k2 a0 t392 (wrap64 (x4_2 + 1)))))))) else (none)) else (none)) = some r := by first | (rw [hji21] at H; exact H) | (simp only [hji21] at H ⊢; exact H)
                      have hji21w : (IntKind.i64.wrap ((wrap64 (a0 - 1)) - x4_2)) = ji21 := (i64_w _).trans hji21
                      by_cases c22 : 0 ≤ (ji21)
                      · rw [if_pos c22] at H
                        have c22b0 : decide (0 ≤ (ji21)) = true := decide_eq_true c22
                        clear c22
                        by_cases c23 : (ji21) < (t392.length : Int)
                        · rw [if_pos c23] at H
                          have c23b0 : decide ((ji21) < (t392.length : Int)) = true := decide_eq_true c23
                          clear c23
                          by_cases c24 : (wrap64 ((wrap64 ((wrap64 ((rd t392 x4_2) * (rd t392 x4_2))) + (wrap64 ((rd t392 (ji21)) * (rd t392 (ji21)))))) - 1073741824)) > 524288
                          · rw [if_pos c24] at H
                            exact absurd H (by simp)
                          · rw [if_neg c24] at H
                            have c24b0 : decide (524288 < (wrap64 ((wrap64 ((wrap64 ((rd t392 x4_2) * (rd t392 x4_2))) + (wrap64 ((rd t392 (ji21)) * (rd t392 (ji21)))))) - 1073741824))) = false := decide_eq_false c24
                            clear c24
                            by_cases c25 : (wrap64 ((wrap64 ((wrap64 ((rd t392 x4_2) * (rd t392 x4_2))) + (wrap64 ((rd t392 (ji21)) * (rd t392 (ji21)))))) - 1073741824)) < (-524288)
                            · rw [if_pos c25] at H
                              exact absurd H (by simp)
                            · rw [if_neg c25] at H
                              have c25b0 : decide ((wrap64 ((wrap64 ((wrap64 ((rd t392 x4_2) * (rd t392 x4_2))) + (wrap64 ((rd t392 (ji21)) * (rd t392 (ji21)))))) - 1073741824)) < (-524288)) = false := decide_eq_false c25
                              clear c25
                              by_cases c26 : x4_2 > 0
                              · rw [if_pos c26] at H
                                have c26b0 : decide (0 < x4_2) = true := decide_eq_true c26
                                clear c26
                                obtain ⟨ji27, hji27⟩ : ∃ j_ : Int, (wrap64 (x4_2 - 1)) = j_ := ⟨_, rfl⟩
                                replace H : (if 0 ≤ (ji27) then (if (ji27) < (t392.length : Int) then (if (rd t392 x4_2) < (rd t392 (ji27)) then (none) else (if (rd t392 x4_2) < 0 then (none) else (if (rd t392 x4_2) > 32768 then (none) else (madrigallaw2_TabsWindows.l0 k2 a0 t392 (wrap64 (x4_2 + 1)))))) else (none)) else (none)) = some r := by first | (rw [hji27] at H; exact H) | (simp only [hji27] at H ⊢; exact H)
                                have hji27w : (IntKind.i64.wrap (x4_2 - 1)) = ji27 := (i64_w _).trans hji27
                                by_cases c28 : 0 ≤ (ji27)
                                · rw [if_pos c28] at H
                                  have c28b0 : decide (0 ≤ (ji27)) = true := decide_eq_true c28
                                  clear c28
                                  by_cases c29 : (ji27) < (t392.length : Int)
                                  · rw [if_pos c29] at H
                                    have c29b0 : decide ((ji27) < (t392.length : Int)) = true := decide_eq_true c29
                                    clear c29
                                    by_cases c30 : (rd t392 x4_2) < (rd t392 (ji27))
                                    · rw [if_pos c30] at H
                                      exact absurd H (by simp)
                                    · rw [if_neg c30] at H
                                      have c30b0 : decide ((rd t392 x4_2) < (rd t392 (ji27))) = false := decide_eq_false c30
                                      clear c30
                                      by_cases c31 : (rd t392 x4_2) < 0
                                      · rw [if_pos c31] at H
                                        exact absurd H (by simp)
                                      · rw [if_neg c31] at H
                                        have c31b0 : decide ((rd t392 x4_2) < 0) = false := decide_eq_false c31
                                        clear c31
                                        by_cases c32 : (rd t392 x4_2) > 32768
                                        · rw [if_pos c32] at H
                                          exact absurd H (by simp)
                                        · rw [if_neg c32] at H
                                          have c32b0 : decide (32768 < (rd t392 x4_2)) = false := decide_eq_false c32
                                          clear c32
                                          have H' := Aside0.mk H
                                          clear H
                                          have p395 : 0 ≤ (x4_2 : Int) := of_decide_eq_true (by first | (with_reducible assumption) | assumption)
                                          have q395 : x4_2 < (t392.length : Int) := of_decide_eq_true (by first | (with_reducible assumption) | assumption)
                                          obtain ⟨ad395, e395, hx395_0⟩ := Kd.at_int (Kd.R_reads' HO_3.out).2.2 x4_2 p395 q395
                                          cases e395
                                          replace p395 := eq_true p395
                                          replace q395 := eq_true q395
                                          have p396 : 0 ≤ (x4_2 : Int) := of_decide_eq_true (by first | (with_reducible assumption) | assumption)
                                          have q396 : x4_2 < (t392.length : Int) := of_decide_eq_true (by first | (with_reducible assumption) | assumption)
                                          obtain ⟨ad396, e396, hx396_0⟩ := Kd.at_int (Kd.R_reads' HO_3.out).2.2 x4_2 p396 q396
                                          obtain rfl : ad395 = ad396 := (by injection e396)
                                          replace p396 := eq_true p396
                                          replace q396 := eq_true q396
                                          have p397 : 0 ≤ ((ji21) : Int) := of_decide_eq_true (by first | (with_reducible assumption) | assumption)
                                          have q397 : (ji21) < (t392.length : Int) := of_decide_eq_true (by first | (with_reducible assumption) | assumption)
                                          obtain ⟨ad397, e397, hx397_0⟩ := Kd.at_int (Kd.R_reads' HO_3.out).2.2 (ji21) p397 q397
                                          obtain rfl : ad395 = ad397 := (by injection e397)
                                          replace p397 := eq_true p397
                                          replace q397 := eq_true q397
                                          have p398 : 0 ≤ ((ji21) : Int) := of_decide_eq_true (by first | (with_reducible assumption) | assumption)
                                          have q398 : (ji21) < (t392.length : Int) := of_decide_eq_true (by first | (with_reducible assumption) | assumption)
                                          obtain ⟨ad398, e398, hx398_0⟩ := Kd.at_int (Kd.R_reads' HO_3.out).2.2 (ji21) p398 q398
                                          obtain rfl : ad395 = ad398 := (by injection e398)
                                          replace p398 := eq_true p398
                                          replace q398 := eq_true q398
                                          have p399 : 0 ≤ (x4_2 : Int) := of_decide_eq_true (by first | (with_reducible assumption) | assumption)
                                          have q399 : x4_2 < (t392.length : Int) := of_decide_eq_true (by first | (with_reducible assumption) | assumption)
                                          obtain ⟨ad399, e399, hx399_0⟩ := Kd.at_int (Kd.R_reads' HO_3.out).2.2 x4_2 p399 q399
                                          obtain rfl : ad395 = ad399 := (by injection e399)
                                          replace p399 := eq_true p399
                                          replace q399 := eq_true q399
                                          have p400 : 0 ≤ ((ji27) : Int) := of_decide_eq_true (by first | (with_reducible assumption) | assumption)
                                          have q400 : (ji27) < (t392.length : Int) := of_decide_eq_true (by first | (with_reducible assumption) | assumption)
                                          obtain ⟨ad400, e400, hx400_0⟩ := Kd.at_int (Kd.R_reads' HO_3.out).2.2 (ji27) p400 q400
                                          obtain rfl : ad395 = ad400 := (by injection e400)
                                          replace p400 := eq_true p400
                                          replace q400 := eq_true q400
                                          have p401 : 0 ≤ (x4_2 : Int) := of_decide_eq_true (by first | (with_reducible assumption) | assumption)
                                          have q401 : x4_2 < (t392.length : Int) := of_decide_eq_true (by first | (with_reducible assumption) | assumption)
                                          obtain ⟨ad401, e401, hx401_0⟩ := Kd.at_int (Kd.R_reads' HO_3.out).2.2 x4_2 p401 q401
                                          obtain rfl : ad395 = ad401 := (by injection e401)
                                          replace p401 := eq_true p401
                                          replace q401 := eq_true q401
                                          have p402 : 0 ≤ (x4_2 : Int) := of_decide_eq_true (by first | (with_reducible assumption) | assumption)
                                          have q402 : x4_2 < (t392.length : Int) := of_decide_eq_true (by first | (with_reducible assumption) | assumption)
                                          obtain ⟨ad402, e402, hx402_0⟩ := Kd.at_int (Kd.R_reads' HO_3.out).2.2 x4_2 p402 q402
                                          obtain rfl : ad395 = ad402 := (by injection e402)
                                          replace p402 := eq_true p402
                                          replace q402 := eq_true q402
                                          go_wp2
                                          repeat (go_quiet (fail); try go_wp2)
                                          go_roundg k2
                                          case measure => have := HJ3.out; have := HK2.out; omega
                                          case rel => exact ⟨(wrap64 (x4_2 + 1)), (by first | rfl | (simp; done) | (simp [*]; done)), H', ⟨by have := HJ3.out; have := HK2.out; omega⟩, ⟨by (with_reducible repeat (first | apply Kd.R_alloc | apply Kd.R_drewN | apply Kd.R_drew)); exact HO_3.out⟩, ⟨by repeat (first | (with_reducible first | exact HB.out | apply below_alloc | apply pw_below_drewN | apply below_drew1) | exact HB.out)⟩⟩
                                  · rw [if_neg c29] at H
                                    exact absurd H (by simp)
                                · rw [if_neg c28] at H
                                  exact absurd H (by simp)
                              · rw [if_neg c26] at H
                                have c26b0 : decide (0 < x4_2) = false := decide_eq_false c26
                                clear c26
                                by_cases c33 : (rd t392 x4_2) < 0
                                · rw [if_pos c33] at H
                                  exact absurd H (by simp)
                                · rw [if_neg c33] at H
                                  have c33b0 : decide ((rd t392 x4_2) < 0) = false := decide_eq_false c33
                                  clear c33
                                  by_cases c34 : (rd t392 x4_2) > 32768
                                  · rw [if_pos c34] at H
                                    exact absurd H (by simp)
                                  · rw [if_neg c34] at H
                                    have c34b0 : decide (32768 < (rd t392 x4_2)) = false := decide_eq_false c34
                                    clear c34
                                    have H' := Aside0.mk H
                                    clear H
                                    have p395 : 0 ≤ (x4_2 : Int) := of_decide_eq_true (by first | (with_reducible assumption) | assumption)
                                    have q395 : x4_2 < (t392.length : Int) := of_decide_eq_true (by first | (with_reducible assumption) | assumption)
                                    obtain ⟨ad395, e395, hx395_0⟩ := Kd.at_int (Kd.R_reads' HO_3.out).2.2 x4_2 p395 q395
                                    cases e395
                                    replace p395 := eq_true p395
                                    replace q395 := eq_true q395
                                    have p396 : 0 ≤ (x4_2 : Int) := of_decide_eq_true (by first | (with_reducible assumption) | assumption)
                                    have q396 : x4_2 < (t392.length : Int) := of_decide_eq_true (by first | (with_reducible assumption) | assumption)
                                    obtain ⟨ad396, e396, hx396_0⟩ := Kd.at_int (Kd.R_reads' HO_3.out).2.2 x4_2 p396 q396
                                    obtain rfl : ad395 = ad396 := (by injection e396)
                                    replace p396 := eq_true p396
                                    replace q396 := eq_true q396
                                    have p397 : 0 ≤ ((ji21) : Int) := of_decide_eq_true (by first | (with_reducible assumption) | assumption)
                                    have q397 : (ji21) < (t392.length : Int) := of_decide_eq_true (by first | (with_reducible assumption) | assumption)
                                    obtain ⟨ad397, e397, hx397_0⟩ := Kd.at_int (Kd.R_reads' HO_3.out).2.2 (ji21) p397 q397
                                    obtain rfl : ad395 = ad397 := (by injection e397)
                                    replace p397 := eq_true p397
                                    replace q397 := eq_true q397
                                    have p398 : 0 ≤ ((ji21) : Int) := of_decide_eq_true (by first | (with_reducible assumption) | assumption)
                                    have q398 : (ji21) < (t392.length : Int) := of_decide_eq_true (by first | (with_reducible assumption) | assumption)
                                    obtain ⟨ad398, e398, hx398_0⟩ := Kd.at_int (Kd.R_reads' HO_3.out).2.2 (ji21) p398 q398
                                    obtain rfl : ad395 = ad398 := (by injection e398)
                                    replace p398 := eq_true p398
                                    replace q398 := eq_true q398
                                    have p403 : 0 ≤ (x4_2 : Int) := of_decide_eq_true (by first | (with_reducible assumption) | assumption)
                                    have q403 : x4_2 < (t392.length : Int) := of_decide_eq_true (by first | (with_reducible assumption) | assumption)
                                    obtain ⟨ad403, e403, hx403_0⟩ := Kd.at_int (Kd.R_reads' HO_3.out).2.2 x4_2 p403 q403
                                    obtain rfl : ad395 = ad403 := (by injection e403)
                                    replace p403 := eq_true p403
                                    replace q403 := eq_true q403
                                    have p404 : 0 ≤ (x4_2 : Int) := of_decide_eq_true (by first | (with_reducible assumption) | assumption)
                                    have q404 : x4_2 < (t392.length : Int) := of_decide_eq_true (by first | (with_reducible assumption) | assumption)
                                    obtain ⟨ad404, e404, hx404_0⟩ := Kd.at_int (Kd.R_reads' HO_3.out).2.2 x4_2 p404 q404
                                    obtain rfl : ad395 = ad404 := (by injection e404)
                                    replace p404 := eq_true p404
                                    replace q404 := eq_true q404
                                    go_wp2
                                    repeat (go_quiet (fail); try go_wp2)
                                    go_roundg k2
                                    case measure => have := HJ3.out; have := HK2.out; omega
                                    case rel => exact ⟨(wrap64 (x4_2 + 1)), (by first | rfl | (simp; done) | (simp [*]; done)), H', ⟨by have := HJ3.out; have := HK2.out; omega⟩, ⟨by (with_reducible repeat (first | apply Kd.R_alloc | apply Kd.R_drewN | apply Kd.R_drew)); exact HO_3.out⟩, ⟨by repeat (first | (with_reducible first | exact HB.out | apply below_alloc | apply pw_below_drewN | apply below_drew1) | exact HB.out)⟩⟩
                        · rw [if_neg c23] at H
                          exact absurd H (by simp)
                      · rw [if_neg c22] at H
                        exact absurd H (by simp)
                    · rw [if_neg c20] at H
                      exact absurd H (by simp)
                  · rw [if_neg c19] at H
                    exact absurd H (by simp)
                · rw [if_neg c18] at H
                  have c18b0 : decide (x4_2 < a0) = false := decide_eq_false c18
                  clear c18
                  obtain rfl := Option.some.inj H
                  go_wp2
                  repeat (go_quiet (fail); try go_wp2)
                  go_ret
                  exact ⟨by first | rfl | (simp [errW_none, errW_some] <;> rfl) | (simp [*, errW_none, errW_some] <;> rfl), by repeat (first | (with_reducible first | exact HB.out | apply below_alloc | apply pw_below_drewN | apply below_drew1) | exact HB.out)⟩
          · rw [if_neg c15] at H
            exact absurd H (by simp)
  · replace c3 := Bool.eq_false_iff.mpr c3
    subst c3
    have H1 : (none) = some r := by rw [if_neg (show ¬ (false = true) by decide)] at H; exact H
    clear H
    have H := H1
    clear H1
    exact absurd H (by simp)

/-- THE ONE PURE STATEMENT of madrigallaw2_TabsWindows. -/
def madrigallaw2_TabsWindows.Pure : Prop := ∀ (a0 : Int), (Lit.int .i64 a0).wf = true → ∃ k, madrigallaw2_TabsWindows.f k a0 = some true
theorem madrigallaw2_TabsWindows.walk (P : madrigallaw2_TabsWindows.Pure) (a0 : Int) (w : World) (w0 : (Lit.int .i64 a0).wf = true) :
    Calls Try.prog 6 #[.int .i64 a0] w fun e w' => e = .returned (.bool true) ∧ Below w.heap.size w w' := by
  obtain ⟨k, h⟩ := P a0 w0
  refine (madrigallaw2_TabsWindows.calls k a0 true w h).mono ?_
  rintro e w' ⟨rfl, hd⟩
  exact ⟨rfl, hd⟩

end Go.Proofs.Ytkhcckemcamcbaa.P
