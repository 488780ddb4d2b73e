/- The machine side of the laws of one chapter, without conditions: each call of a Go function comes to what the Lean function of its name answers. Written for this claim by a program of the prover. -/
import Derived.Test.YtlhdoopmlpnhlaaPx0
import Derived.Test.YtlhdoopmlpnhlaaPx2
import Derived.Test.YtlhdoopmlpnhlaaPx13
namespace Go.Proofs.Ytlhdoopmlpnhlaa.P
open Go.RowKit Go.Proofs.YtlhdoopmlpnhlaaW.PrintWords Go.Proofs.YtlhdoopmlpnhlaaW.PrintLast Go.Proofs.YtlhdoopmlpnhlaaW.PrintMore
attribute [local go_sem] max2_int min2_int max_two min_two max_three min_three max_four min_four   -- for this text's walks alone
set_option linter.unusedVariables false
set_option linter.unusedSimpArgs false

/-! ### madrigallaw1_FixHalves: function 9 -/
def madrigallaw1_FixHalves.f (k : Nat) (a0 : Int) (a1 : Int) (a2 : Int) : Option (Bool) := (madrigallaw1_awake.f k).bind fun t270 => (if t270 = true then (if a0 < (-1073741824) then (some true) else (if a0 > 1073741824 then (some true) else (if a1 < (-1073741824) then (some true) else (if a1 > 1073741824 then (some true) else (if a2 < 1 then (some true) else (if a2 > 30 then (some true) else ((fix_Mul.f k a0 a1 a2).bind fun t271 => (if 0 ≤ (IntKind.u64.wrap (a2)) then (if (wrap64 (2 * (wrap64 ((wrap64 (t271 * (shl .i64 1 (IntKind.u64.wrap (a2))))) - (wrap64 (a0 * a1)))))) ≤ (shl .i64 1 (IntKind.u64.wrap (a2))) then (some (decide ((wrap64 (2 * (wrap64 ((wrap64 (t271 * (shl .i64 1 (IntKind.u64.wrap (a2))))) - (wrap64 (a0 * a1)))))) > (shl .i64 (-1) (IntKind.u64.wrap (a2)))))) else (none)) else (none))))))))) else (none))
theorem madrigallaw1_FixHalves.mono : ∀ a0 a1 a2 k, LeO (madrigallaw1_FixHalves.f k a0 a1 a2) (madrigallaw1_FixHalves.f (k + 1) a0 a1 a2) := by
  intro a0 a1 a2 k
  unfold madrigallaw1_FixHalves.f
  repeat' first
      | (with_reducible exact fix_Mul.mono _ _ _ _)
      | (with_reducible exact madrigallaw1_awake.mono _)
      | (with_reducible exact LeO.refl _)
      | (with_reducible exact LeO.none _)
      | (with_reducible refine LeO.ite ?_ ?_)
      | (with_reducible refine LeO.bind ?_ (fun _ => ?_))
      | exact fix_Mul.mono _ _ _ _
      | exact madrigallaw1_awake.mono _
      | exact LeO.none _
      | refine LeO.ite ?_ ?_
      | refine LeO.bind ?_ (fun _ => ?_)
set_option maxHeartbeats 8000000 in
set_option maxRecDepth 100000 in
theorem madrigallaw1_FixHalves.calls (k : Nat) (a0 : Int) (a1 : Int) (a2 : Int) (r : Bool) (w : World) (h : madrigallaw1_FixHalves.f k a0 a1 a2 = some r) :
    Calls Try.prog 9 #[.int .i64 a0, .int .i64 a1, .int .i64 a2] w fun e w' => e = .returned (.bool r) ∧ Below w.heap.size w w' := by
  have HB := Aside0.mk (Below.refl w.heap.size w)
  have H : ((madrigallaw1_awake.f k).bind fun t270 => (if t270 = true then (if a0 < (-1073741824) then (some true) else (if a0 > 1073741824 then (some true) else (if a1 < (-1073741824) then (some true) else (if a1 > 1073741824 then (some true) else (if a2 < 1 then (some true) else (if a2 > 30 then (some true) else ((fix_Mul.f k a0 a1 a2).bind fun t271 => (if 0 ≤ (IntKind.u64.wrap (a2)) then (if (wrap64 (2 * (wrap64 ((wrap64 (t271 * (shl .i64 1 (IntKind.u64.wrap (a2))))) - (wrap64 (a0 * a1)))))) ≤ (shl .i64 1 (IntKind.u64.wrap (a2))) then (some (decide ((wrap64 (2 * (wrap64 ((wrap64 (t271 * (shl .i64 1 (IntKind.u64.wrap (a2))))) - (wrap64 (a0 * a1)))))) > (shl .i64 (-1) (IntKind.u64.wrap (a2)))))) else (none)) else (none))))))))) else (none))) = some r := h
  clear h
  replace H := Option.bind_eq_some_iff.mp H
  obtain ⟨t270, A40, H⟩ := H
  replace H : (if t270 = true then (if a0 < (-1073741824) then (some true) else (if a0 > 1073741824 then (some true) else (if a1 < (-1073741824) then (some true) else (if a1 > 1073741824 then (some true) else (if a2 < 1 then (some true) else (if a2 > 30 then (some true) else ((fix_Mul.f k a0 a1 a2).bind fun t271 => (if 0 ≤ (IntKind.u64.wrap (a2)) then (if (wrap64 (2 * (wrap64 ((wrap64 (t271 * (shl .i64 1 (IntKind.u64.wrap (a2))))) - (wrap64 (a0 * a1)))))) ≤ (shl .i64 1 (IntKind.u64.wrap (a2))) then (some (decide ((wrap64 (2 * (wrap64 ((wrap64 (t271 * (shl .i64 1 (IntKind.u64.wrap (a2))))) - (wrap64 (a0 * a1)))))) > (shl .i64 (-1) (IntKind.u64.wrap (a2)))))) else (none)) else (none))))))))) else (none)) = some r := H
  have A4 := Aside0.mk A40
  clear A40
  by_cases c5 : t270 = true
  · subst c5
    have H1 : (if a0 < (-1073741824) then (some true) else (if a0 > 1073741824 then (some true) else (if a1 < (-1073741824) then (some true) else (if a1 > 1073741824 then (some true) else (if a2 < 1 then (some true) else (if a2 > 30 then (some true) else ((fix_Mul.f k a0 a1 a2).bind fun t271 => (if 0 ≤ (IntKind.u64.wrap (a2)) then (if (wrap64 (2 * (wrap64 ((wrap64 (t271 * (shl .i64 1 (IntKind.u64.wrap (a2))))) - (wrap64 (a0 * a1)))))) ≤ (shl .i64 1 (IntKind.u64.wrap (a2))) then (some (decide ((wrap64 (2 * (wrap64 ((wrap64 (t271 * (shl .i64 1 (IntKind.u64.wrap (a2))))) - (wrap64 (a0 * a1)))))) > (shl .i64 (-1) (IntKind.u64.wrap (a2)))))) else (none)) else (none))))))))) = some r := by rw [if_pos rfl] at H; exact H
    clear H
    have H := H1
    clear H1
    by_cases c6 : a0 < (-1073741824)
    · rw [if_pos c6] at H
      have c6b0 : decide (a0 < (-1073741824)) = true := decide_eq_true c6
      clear c6
      obtain rfl := Option.some.inj H
      go_enter Try.func9, Try.ntmps9
      go_wp2_with (first | ((with_reducible refine gate_callee (f := 11) rfl ?_); refine goesL_ (some 8) rfl rfl Try.func11 (by kernel_rfl) rfl #[] rfl (by (try simp only [List.map_toArray, List.map_cons, List.map_nil]); first | done | rfl | (simp only [List.length_drop, List.length_take]; rfl)) ?_; (with_reducible refine (madrigallaw1_awake.calls k  true _ A4.out).mono ?_); rintro e w7 ⟨rfl, hb⟩; refine ⟨_, rfl, ?_⟩; have n0_ := Aside0.mk (below_step (by repeat (first | (with_reducible first | exact HB.out | apply below_alloc | apply pw_below_drewN | apply below_drew1) | exact HB.out)) hb); clear HB; have HB := n0_; clear n0_; (try clear hb); (try clear hb2); (try clear hk); (try clear hi); (try clear hge)))
      go_ret
      exact ⟨by first | rfl | (simp [errW_none, errW_some] <;> rfl) | (simp [*, errW_none, errW_some] <;> rfl), by repeat (first | (with_reducible first | exact HB.out | apply below_alloc | apply pw_below_drewN | apply below_drew1) | exact HB.out)⟩
    · rw [if_neg c6] at H
      have c6b0 : decide (a0 < (-1073741824)) = false := decide_eq_false c6
      clear c6
      by_cases c8 : a0 > 1073741824
      · rw [if_pos c8] at H
        have c8b0 : decide (1073741824 < a0) = true := decide_eq_true c8
        clear c8
        obtain rfl := Option.some.inj H
        go_enter Try.func9, Try.ntmps9
        go_wp2_with (first | ((with_reducible refine gate_callee (f := 11) rfl ?_); refine goesL_ (some 8) rfl rfl Try.func11 (by kernel_rfl) rfl #[] rfl (by (try simp only [List.map_toArray, List.map_cons, List.map_nil]); first | done | rfl | (simp only [List.length_drop, List.length_take]; rfl)) ?_; (with_reducible refine (madrigallaw1_awake.calls k  true _ A4.out).mono ?_); rintro e w9 ⟨rfl, hb⟩; refine ⟨_, rfl, ?_⟩; have n0_ := Aside0.mk (below_step (by repeat (first | (with_reducible first | exact HB.out | apply below_alloc | apply pw_below_drewN | apply below_drew1) | exact HB.out)) hb); clear HB; have HB := n0_; clear n0_; (try clear hb); (try clear hb2); (try clear hk); (try clear hi); (try clear hge)))
        go_ret
        exact ⟨by first | rfl | (simp [errW_none, errW_some] <;> rfl) | (simp [*, errW_none, errW_some] <;> rfl), by repeat (first | (with_reducible first | exact HB.out | apply below_alloc | apply pw_below_drewN | apply below_drew1) | exact HB.out)⟩
      · rw [if_neg c8] at H
        have c8b0 : decide (1073741824 < a0) = false := decide_eq_false c8
        clear c8
        by_cases c10 : a1 < (-1073741824)
        · rw [if_pos c10] at H
          have c10b0 : decide (a1 < (-1073741824)) = true := decide_eq_true c10
          clear c10
          obtain rfl := Option.some.inj H
          go_enter Try.func9, Try.ntmps9
          go_wp2_with (first | ((with_reducible refine gate_callee (f := 11) rfl ?_); refine goesL_ (some 8) rfl rfl Try.func11 (by kernel_rfl) rfl #[] rfl (by (try simp only [List.map_toArray, List.map_cons, List.map_nil]); first | done | rfl | (simp only [List.length_drop, List.length_take]; rfl)) ?_; (with_reducible refine (madrigallaw1_awake.calls k  true _ A4.out).mono ?_); rintro e w11 ⟨rfl, hb⟩; refine ⟨_, rfl, ?_⟩; have n0_ := Aside0.mk (below_step (by repeat (first | (with_reducible first | exact HB.out | apply below_alloc | apply pw_below_drewN | apply below_drew1) | exact HB.out)) hb); clear HB; have HB := n0_; clear n0_; (try clear hb); (try clear hb2); (try clear hk); (try clear hi); (try clear hge)))
          go_ret
          exact ⟨by first | rfl | (simp [errW_none, errW_some] <;> rfl) | (simp [*, errW_none, errW_some] <;> rfl), by repeat (first | (with_reducible first | exact HB.out | apply below_alloc | apply pw_below_drewN | apply below_drew1) | exact HB.out)⟩
        · rw [if_neg c10] at H
          have c10b0 : decide (a1 < (-1073741824)) = false := decide_eq_false c10
          clear c10
          by_cases c12 : a1 > 1073741824
          · rw [if_pos c12] at H
            have c12b0 : decide (1073741824 < a1) = true := decide_eq_true c12
            clear c12
            obtain rfl := Option.some.inj H
            go_enter Try.func9, Try.ntmps9
            go_wp2_with (first | ((with_reducible refine gate_callee (f := 11) rfl ?_); refine goesL_ (some 8) rfl rfl Try.func11 (by kernel_rfl) rfl #[] rfl (by (try simp only [List.map_toArray, List.map_cons, List.map_nil]); first | done | rfl | (simp only [List.length_drop, List.length_take]; rfl)) ?_; (with_reducible refine (madrigallaw1_awake.calls k  true _ A4.out).mono ?_); rintro e w13 ⟨rfl, hb⟩; refine ⟨_, rfl, ?_⟩; have n0_ := Aside0.mk (below_step (by repeat (first | (with_reducible first | exact HB.out | apply below_alloc | apply pw_below_drewN | apply below_drew1) | exact HB.out)) hb); clear HB; have HB := n0_; clear n0_; (try clear hb); (try clear hb2); (try clear hk); (try clear hi); (try clear hge)))
            go_ret
            exact ⟨by first | rfl | (simp [errW_none, errW_some] <;> rfl) | (simp [*, errW_none, errW_some] <;> rfl), by repeat (first | (with_reducible first | exact HB.out | apply below_alloc | apply pw_below_drewN | apply below_drew1) | exact HB.out)⟩
          · rw [if_neg c12] at H
            have c12b0 : decide (1073741824 < a1) = false := decide_eq_false c12
            clear c12
            by_cases c14 : a2 < 1
            · rw [if_pos c14] at H
              have c14b0 : decide (a2 < 1) = true := decide_eq_true c14
              clear c14
              obtain rfl := Option.some.inj H
              go_enter Try.func9, Try.ntmps9
              go_wp2_with (first | ((with_reducible refine gate_callee (f := 11) rfl ?_); refine goesL_ (some 8) rfl rfl Try.func11 (by kernel_rfl) rfl #[] rfl (by (try simp only [List.map_toArray, List.map_cons, List.map_nil]); first | done | rfl | (simp only [List.length_drop, List.length_take]; rfl)) ?_; (with_reducible refine (madrigallaw1_awake.calls k  true _ A4.out).mono ?_); rintro e w15 ⟨rfl, hb⟩; refine ⟨_, rfl, ?_⟩; have n0_ := Aside0.mk (below_step (by repeat (first | (with_reducible first | exact HB.out | apply below_alloc | apply pw_below_drewN | apply below_drew1) | exact HB.out)) hb); clear HB; have HB := n0_; clear n0_; (try clear hb); (try clear hb2); (try clear hk); (try clear hi); (try clear hge)))
              go_ret
              exact ⟨by first | rfl | (simp [errW_none, errW_some] <;> rfl) | (simp [*, errW_none, errW_some] <;> rfl), by repeat (first | (with_reducible first | exact HB.out | apply below_alloc | apply pw_below_drewN | apply below_drew1) | exact HB.out)⟩
            · rw [if_neg c14] at H
              have c14b0 : decide (a2 < 1) = false := decide_eq_false c14
              clear c14
              by_cases c16 : a2 > 30
              · rw [if_pos c16] at H
                have c16b0 : decide (30 < a2) = true := decide_eq_true c16
                clear c16
                obtain rfl := Option.some.inj H
                go_enter Try.func9, Try.ntmps9
                go_wp2_with (first | ((with_reducible refine gate_callee (f := 11) rfl ?_); refine goesL_ (some 8) rfl rfl Try.func11 (by kernel_rfl) rfl #[] rfl (by (try simp only [List.map_toArray, List.map_cons, List.map_nil]); first | done | rfl | (simp only [List.length_drop, List.length_take]; rfl)) ?_; (with_reducible refine (madrigallaw1_awake.calls k  true _ A4.out).mono ?_); rintro e w17 ⟨rfl, hb⟩; refine ⟨_, rfl, ?_⟩; have n0_ := Aside0.mk (below_step (by repeat (first | (with_reducible first | exact HB.out | apply below_alloc | apply pw_below_drewN | apply below_drew1) | exact HB.out)) hb); clear HB; have HB := n0_; clear n0_; (try clear hb); (try clear hb2); (try clear hk); (try clear hi); (try clear hge)))
                go_ret
                exact ⟨by first | rfl | (simp [errW_none, errW_some] <;> rfl) | (simp [*, errW_none, errW_some] <;> rfl), by repeat (first | (with_reducible first | exact HB.out | apply below_alloc | apply pw_below_drewN | apply below_drew1) | exact HB.out)⟩
              · rw [if_neg c16] at H
                have c16b0 : decide (30 < a2) = false := decide_eq_false c16
                clear c16
                replace H := Option.bind_eq_some_iff.mp H
                obtain ⟨t271, A180, H⟩ := H
                replace H : (if 0 ≤ (IntKind.u64.wrap (a2)) then (if (wrap64 (2 * (wrap64 ((wrap64 (t271 * (shl .i64 1 (IntKind.u64.wrap (a2))))) - (wrap64 (a0 * a1)))))) ≤ (shl .i64 1 (IntKind.u64.wrap (a2))) then (some (decide ((wrap64 (2 * (wrap64 ((wrap64 (t271 * (shl .i64 1 (IntKind.u64.wrap (a2))))) - (wrap64 (a0 * a1)))))) > (shl .i64 (-1) (IntKind.u64.wrap (a2)))))) else (none)) else (none)) = some r := H
                have A18 := Aside0.mk A180
                clear A180
                obtain ⟨ji19, hji19⟩ : ∃ j_ : Int, (IntKind.u64.wrap (a2)) = j_ := ⟨_, rfl⟩
                replace H : (if 0 ≤ (ji19) then (if (wrap64 (2 * (wrap64 ((wrap64 (t271 * (shl .i64 1 (ji19)))) - (wrap64 (a0 * a1)))))) ≤ (shl .i64 1 (ji19)) then (some (decide ((wrap64 (2 * (wrap64 ((wrap64 (t271 * (shl .i64 1 (ji19)))) - (wrap64 (a0 * a1)))))) > (shl .i64 (-1) (ji19))))) else (none)) else (none)) = some r := by first | (rw [hji19] at H; exact H) | (simp only [hji19] at H ⊢; exact H)
                (try rw [hji19] at A4)
                (try rw [hji19] at A18)
                by_cases c20 : 0 ≤ (ji19)
                · rw [if_pos c20] at H
                  have c20b0 := eq_true c20
                  have c20b1 : decide (0 ≤ (ji19)) = true := decide_eq_true c20
                  clear c20
                  obtain ⟨ji21, hji21⟩ : ∃ j_ : Int, (shl .i64 1 (ji19)) = j_ := ⟨_, rfl⟩
                  replace H : (if (wrap64 (2 * (wrap64 ((wrap64 (t271 * (ji21))) - (wrap64 (a0 * a1)))))) ≤ (ji21) then (some (decide ((wrap64 (2 * (wrap64 ((wrap64 (t271 * (ji21))) - (wrap64 (a0 * a1)))))) > (shl .i64 (-1) (ji19))))) else (none)) = some r := by first | (rw [hji21] at H; exact H) | (simp only [hji21] at H ⊢; exact H)
                  (try rw [hji21] at A4)
                  (try rw [hji21] at A18)
                  have hji21_ : (IntKind.i64.wrap (1 * 2 ^ min (ji19).toNat 64)) = ji21 := hji21
                  have hji21z : (ji19) ≤ 64 → (IntKind.i64.wrap (1 * 2 ^ (ji19).toNat)) = ji21 := shl_small hji21
                  have hji21u : (IntKind.i64.wrap (2 ^ min (ji19).toNat 64)) = ji21 := by have h_ := hji21_; rw [Int.one_mul] at h_; exact h_
                  have hji21v : (ji19) ≤ 64 → (IntKind.i64.wrap (2 ^ (ji19).toNat)) = ji21 := fun hle_ => by have h_ := hji21z hle_; rw [Int.one_mul] at h_; exact h_
                  have hji21y : (wrap64 (1 * 2 ^ min (ji19).toNat 64)) = ji21 := (i64_w _).symm.trans hji21_
                  have hji21x : (ji19) ≤ 64 → (wrap64 (1 * 2 ^ (ji19).toNat)) = ji21 := fun h_ => (i64_w _).symm.trans (hji21z h_)
                  have c22b0 := eq_true (of_decide_eq_true (by first | (with_reducible assumption) | assumption) : 0 ≤ (ji19))
                  by_cases c23 : (wrap64 (2 * (wrap64 ((wrap64 (t271 * (ji21))) - (wrap64 (a0 * a1)))))) ≤ (ji21)
                  · rw [if_pos c23] at H
                    have c23b0 : decide ((wrap64 (2 * (wrap64 ((wrap64 (t271 * (ji21))) - (wrap64 (a0 * a1)))))) ≤ (ji21)) = true := decide_eq_true c23
                    clear c23
                    have c24b0 := eq_true (of_decide_eq_true (by first | (with_reducible assumption) | assumption) : 0 ≤ (ji19))
                    obtain ⟨ji25, hji25⟩ : ∃ j_ : Int, (shl .i64 (-1) (ji19)) = j_ := ⟨_, rfl⟩
                    replace H : (some (decide ((wrap64 (2 * (wrap64 ((wrap64 (t271 * (ji21))) - (wrap64 (a0 * a1)))))) > (ji25)))) = some r := by first | (rw [hji25] at H; exact H) | (simp only [hji25] at H ⊢; exact H)
                    (try rw [hji25] at A4)
                    (try rw [hji25] at A18)
                    have hji25_ : (IntKind.i64.wrap ((-1) * 2 ^ min (ji19).toNat 64)) = ji25 := hji25
                    have hji25z : (ji19) ≤ 64 → (IntKind.i64.wrap ((-1) * 2 ^ (ji19).toNat)) = ji25 := shl_small hji25
                    have hji25y : (wrap64 ((-1) * 2 ^ min (ji19).toNat 64)) = ji25 := (i64_w _).symm.trans hji25_
                    have hji25u : (wrap64 (-2 ^ min (ji19).toNat 64)) = ji25 := by have h_ := hji25y; rw [Int.neg_mul, Int.one_mul] at h_; exact h_
                    have hji25x : (ji19) ≤ 64 → (wrap64 ((-1) * 2 ^ (ji19).toNat)) = ji25 := fun h_ => (i64_w _).symm.trans (hji25z h_)
                    obtain rfl := Option.some.inj H
                    go_enter Try.func9, Try.ntmps9
                    go_wp2_with (first | ((with_reducible refine gate_callee (f := 11) rfl ?_); refine goesL_ (some 8) rfl rfl Try.func11 (by kernel_rfl) rfl #[] rfl (by (try simp only [List.map_toArray, List.map_cons, List.map_nil]); first | done | rfl | (simp only [List.length_drop, List.length_take]; rfl)) ?_; (with_reducible refine (madrigallaw1_awake.calls k  true _ A4.out).mono ?_); rintro e w26 ⟨rfl, hb⟩; refine ⟨_, rfl, ?_⟩; have n0_ := Aside0.mk (below_step (by repeat (first | (with_reducible first | exact HB.out | apply below_alloc | apply pw_below_drewN | apply below_drew1) | exact HB.out)) hb); clear HB; have HB := n0_; clear n0_; (try clear hb); (try clear hb2); (try clear hk); (try clear hi); (try clear hge)) | ((with_reducible refine gate_callee (f := 13) rfl ?_); refine goesL_ (some 35) rfl rfl Try.func13 (by kernel_rfl) rfl #[.int .i64 a0, .int .i64 a1, .int .i64 a2] rfl (by (try simp only [List.map_toArray, List.map_cons, List.map_nil]); first | done | rfl | (simp only [List.length_drop, List.length_take]; rfl)) ?_; (with_reducible refine (fix_Mul.calls k a0 a1 a2 t271 _ A18.out).mono ?_); rintro e w' ⟨rfl, ⟨nd, rfl⟩⟩; refine ⟨_, rfl, ?_⟩))
                    go_ret
                    exact ⟨by first | rfl | (simp [errW_none, errW_some] <;> rfl) | (simp only [← hji19, ← hji21, ← hji25]; first | rfl | (simp [errW_none, errW_some] <;> rfl)) | (simp [*, errW_none, errW_some] <;> rfl), by repeat (first | (with_reducible first | exact HB.out | apply below_alloc | apply pw_below_drewN | apply below_drew1) | exact HB.out)⟩
                  · rw [if_neg c23] at H
                    exact absurd H (by simp)
                · rw [if_neg c20] at H
                  exact absurd H (by simp)
  · replace c5 := Bool.eq_false_iff.mpr c5
    subst c5
    have H1 : (none) = some r := by rw [if_neg (show ¬ (false = true) by decide)] at H; exact H
    clear H
    have H := H1
    clear H1
    exact absurd H (by simp)

/-- THE ONE PURE STATEMENT of madrigallaw1_FixHalves. -/
def madrigallaw1_FixHalves.Pure : Prop := ∀ (a0 : Int) (a1 : Int) (a2 : Int), (Lit.int .i64 a0).wf = true → (Lit.int .i64 a1).wf = true → (Lit.int .i64 a2).wf = true → ∃ k, madrigallaw1_FixHalves.f k a0 a1 a2 = some true
theorem madrigallaw1_FixHalves.walk (P : madrigallaw1_FixHalves.Pure) (a0 : Int) (a1 : Int) (a2 : Int) (w : World) (w0 : (Lit.int .i64 a0).wf = true) (w1 : (Lit.int .i64 a1).wf = true) (w2 : (Lit.int .i64 a2).wf = true) :
    Calls Try.prog 9 #[.int .i64 a0, .int .i64 a1, .int .i64 a2] w fun e w' => e = .returned (.bool true) ∧ Below w.heap.size w w' := by
  obtain ⟨k, h⟩ := P a0 a1 a2 w0 w1 w2
  refine (madrigallaw1_FixHalves.calls k a0 a1 a2 true w h).mono ?_
  rintro e w' ⟨rfl, hd⟩
  exact ⟨rfl, hd⟩

end Go.Proofs.Ytlhdoopmlpnhlaa.P
