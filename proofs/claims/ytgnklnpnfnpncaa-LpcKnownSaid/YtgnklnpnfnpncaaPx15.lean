/- The machine side of the laws of one chapter, without conditions: each call of a Go function comes to what the Lean function of its name answers. Written for this claim by a program of the prover. -/
import Derived.Test.YtgnklnpnfnpncaaPx0
import Derived.Test.YtgnklnpnfnpncaaPx4
import Derived.Test.YtgnklnpnfnpncaaPx5
import Derived.Test.YtgnklnpnfnpncaaPx6
import Derived.Test.YtgnklnpnfnpncaaPx10
import Derived.Test.YtgnklnpnfnpncaaPx12
import Derived.Test.YtgnklnpnfnpncaaPx14
namespace Go.Proofs.Ytgnklnpnfnpncaa.P
open Go.RowKit Go.Proofs.YtgnklnpnfnpncaaW.PrintWords Go.Proofs.YtgnklnpnfnpncaaW.PrintLast Go.Proofs.YtgnklnpnfnpncaaW.PrintMore
attribute [local go_sem] max2_int min2_int max_two min_two max_three min_three max_four min_four   -- for this text's walks alone
set_option linter.unusedVariables false
set_option linter.unusedSimpArgs false

/-! ### madrigallaw7_LpcKnown: function 3 -/
def madrigallaw7_LpcKnown.f (k : Nat)  : Option (Bool) := (madrigallaw7_awake.f k).bind fun t257 => (if t257 = true then ((lpc_From.f k ([] : List Int)).bind fun bt258 => (if bt258.2 = 1 then ((lpc_Stable.f k ([] : List Int)).bind fun t262 => (if t262 = true then (if 33 ≤ 35184372088832 then ((lpc_Stable.f k (List.replicate 33 0)).bind fun t266 => (if t266 = true then (none) else ((lpc_Fit.f k (List.replicate 33 0)).bind fun t270 => (if (t270.length : Int) = 0 then ((lpc_Chirp.f k (List.replicate 33 0) 5).bind fun t276 => (if (t276.length : Int) = 0 then ((lpc_Gain.f k (List.replicate 33 0)).bind fun t282 => (some (t282 == 0))) else (none))) else (none))))) else (none)) else (none))) else (none))) else (none))
theorem madrigallaw7_LpcKnown.mono : ∀ k, LeO (madrigallaw7_LpcKnown.f k ) (madrigallaw7_LpcKnown.f (k + 1) ) := by
  intro  k
  unfold madrigallaw7_LpcKnown.f
  repeat' first
      | (with_reducible exact lpc_Chirp.mono _ _ _)
      | (with_reducible exact lpc_Fit.mono _ _)
      | (with_reducible exact lpc_From.mono _ _)
      | (with_reducible exact lpc_Gain.mono _ _)
      | (with_reducible exact lpc_Stable.mono _ _)
      | (with_reducible exact madrigallaw7_awake.mono _)
      | (with_reducible exact LeO.refl _)
      | (with_reducible exact LeO.none _)
      | (with_reducible refine LeO.ite ?_ ?_)
      | (with_reducible refine LeO.bind ?_ (fun _ => ?_))
      | exact lpc_Chirp.mono _ _ _
      | exact lpc_Fit.mono _ _
      | exact lpc_From.mono _ _
      | exact lpc_Gain.mono _ _
      | exact lpc_Stable.mono _ _
      | exact madrigallaw7_awake.mono _
      | exact LeO.none _
      | refine LeO.ite ?_ ?_
      | refine LeO.bind ?_ (fun _ => ?_)
set_option maxHeartbeats 8000000 in
set_option maxRecDepth 100000 in
theorem madrigallaw7_LpcKnown.calls (k : Nat)  (r : Bool) (w : World) (h : madrigallaw7_LpcKnown.f k  = some r) :
    Calls Try.prog 3 #[] w fun e w' => e = .returned (.bool r) ∧ Below w.heap.size w w' := by
  have HB := Aside0.mk (Below.refl w.heap.size w)
  have H : ((madrigallaw7_awake.f k).bind fun t257 => (if t257 = true then ((lpc_From.f k ([] : List Int)).bind fun bt258 => (if bt258.2 = 1 then ((lpc_Stable.f k ([] : List Int)).bind fun t262 => (if t262 = true then (if 33 ≤ 35184372088832 then ((lpc_Stable.f k (List.replicate 33 0)).bind fun t266 => (if t266 = true then (none) else ((lpc_Fit.f k (List.replicate 33 0)).bind fun t270 => (if (t270.length : Int) = 0 then ((lpc_Chirp.f k (List.replicate 33 0) 5).bind fun t276 => (if (t276.length : Int) = 0 then ((lpc_Gain.f k (List.replicate 33 0)).bind fun t282 => (some (t282 == 0))) else (none))) else (none))))) else (none)) else (none))) else (none))) else (none))) = some r := h
  clear h
  replace H := Option.bind_eq_some_iff.mp H
  obtain ⟨t257, A10, H⟩ := H
  replace H : (if t257 = true then ((lpc_From.f k ([] : List Int)).bind fun bt258 => (if bt258.2 = 1 then ((lpc_Stable.f k ([] : List Int)).bind fun t262 => (if t262 = true then (if 33 ≤ 35184372088832 then ((lpc_Stable.f k (List.replicate 33 0)).bind fun t266 => (if t266 = true then (none) else ((lpc_Fit.f k (List.replicate 33 0)).bind fun t270 => (if (t270.length : Int) = 0 then ((lpc_Chirp.f k (List.replicate 33 0) 5).bind fun t276 => (if (t276.length : Int) = 0 then ((lpc_Gain.f k (List.replicate 33 0)).bind fun t282 => (some (t282 == 0))) else (none))) else (none))))) else (none)) else (none))) else (none))) else (none)) = some r := H
  have A1 := Aside0.mk A10
  clear A10
  by_cases c2 : t257 = true
  · subst c2
    have H1 : ((lpc_From.f k ([] : List Int)).bind fun bt258 => (if bt258.2 = 1 then ((lpc_Stable.f k ([] : List Int)).bind fun t262 => (if t262 = true then (if 33 ≤ 35184372088832 then ((lpc_Stable.f k (List.replicate 33 0)).bind fun t266 => (if t266 = true then (none) else ((lpc_Fit.f k (List.replicate 33 0)).bind fun t270 => (if (t270.length : Int) = 0 then ((lpc_Chirp.f k (List.replicate 33 0) 5).bind fun t276 => (if (t276.length : Int) = 0 then ((lpc_Gain.f k (List.replicate 33 0)).bind fun t282 => (some (t282 == 0))) else (none))) else (none))))) else (none)) else (none))) else (none))) = some r := by rw [if_pos rfl] at H; exact H
    clear H
    have H := H1
    clear H1
    replace H := Option.bind_eq_some_iff.mp H
    obtain ⟨⟨t258, t259⟩, A30, H⟩ := H
    replace H : (if t259 = 1 then ((lpc_Stable.f k ([] : List Int)).bind fun t262 => (if t262 = true then (if 33 ≤ 35184372088832 then ((lpc_Stable.f k (List.replicate 33 0)).bind fun t266 => (if t266 = true then (none) else ((lpc_Fit.f k (List.replicate 33 0)).bind fun t270 => (if (t270.length : Int) = 0 then ((lpc_Chirp.f k (List.replicate 33 0) 5).bind fun t276 => (if (t276.length : Int) = 0 then ((lpc_Gain.f k (List.replicate 33 0)).bind fun t282 => (some (t282 == 0))) else (none))) else (none))))) else (none)) else (none))) else (none)) = some r := H
    have A3 := Aside0.mk A30
    clear A30
    by_cases c4 : t259 = 1
    · rw [if_pos c4] at H
      have c4b0 : (t259 == 1) = true := beq_iff_eq.mpr c4
      have c4b1 : (t259 != 1) = false := bne_eq_false_iff_eq.mpr c4
      clear c4
      replace H := Option.bind_eq_some_iff.mp H
      obtain ⟨t262, A50, H⟩ := H
      replace H : (if t262 = true then (if 33 ≤ 35184372088832 then ((lpc_Stable.f k (List.replicate 33 0)).bind fun t266 => (if t266 = true then (none) else ((lpc_Fit.f k (List.replicate 33 0)).bind fun t270 => (if (t270.length : Int) = 0 then ((lpc_Chirp.f k (List.replicate 33 0) 5).bind fun t276 => (if (t276.length : Int) = 0 then ((lpc_Gain.f k (List.replicate 33 0)).bind fun t282 => (some (t282 == 0))) else (none))) else (none))))) else (none)) else (none)) = some r := H
      have A5 := Aside0.mk A50
      clear A50
      by_cases c6 : t262 = true
      · subst c6
        have H1 : (if 33 ≤ 35184372088832 then ((lpc_Stable.f k (List.replicate 33 0)).bind fun t266 => (if t266 = true then (none) else ((lpc_Fit.f k (List.replicate 33 0)).bind fun t270 => (if (t270.length : Int) = 0 then ((lpc_Chirp.f k (List.replicate 33 0) 5).bind fun t276 => (if (t276.length : Int) = 0 then ((lpc_Gain.f k (List.replicate 33 0)).bind fun t282 => (some (t282 == 0))) else (none))) else (none))))) else (none)) = some r := by rw [if_pos rfl] at H; exact H
        clear H
        have H := H1
        clear H1
        by_cases c7 : 33 ≤ 35184372088832
        · rw [if_pos c7] at H
          have c7b0 := eq_true c7
          have c7b1 : decide (33 ≤ 35184372088832) = true := decide_eq_true c7
          clear c7
          obtain ⟨y263, hy263⟩ : ∃ y_ : List Int, y_ = (List.replicate 33 0) := ⟨_, rfl⟩
          replace H : ((lpc_Stable.f k y263).bind fun t266 => (if t266 = true then (none) else ((lpc_Fit.f k (List.replicate 33 0)).bind fun t270 => (if (t270.length : Int) = 0 then ((lpc_Chirp.f k (List.replicate 33 0) 5).bind fun t276 => (if (t276.length : Int) = 0 then ((lpc_Gain.f k (List.replicate 33 0)).bind fun t282 => (some (t282 == 0))) else (none))) else (none))))) = some r := by first | (rw [hy263]; with_reducible exact H) | (have H2_ := (Option.bind_some _ _).symm.trans H; rw [hy263]; with_reducible exact H2_) | (have H2_ := (Option.bind_some _ _).symm.trans H; with_reducible exact H2_) | with_reducible exact H | (rw [hy263]; exact H) | exact H
          have Ny263 := Aside0.mk hy263
          clear hy263
          replace H := Option.bind_eq_some_iff.mp H
          obtain ⟨t266, A80, H⟩ := H
          replace H : (if t266 = true then (none) else ((lpc_Fit.f k (List.replicate 33 0)).bind fun t270 => (if (t270.length : Int) = 0 then ((lpc_Chirp.f k (List.replicate 33 0) 5).bind fun t276 => (if (t276.length : Int) = 0 then ((lpc_Gain.f k (List.replicate 33 0)).bind fun t282 => (some (t282 == 0))) else (none))) else (none)))) = some r := H
          have A8 := Aside0.mk A80
          clear A80
          by_cases c9 : t266 = true
          · subst c9
            have H1 : (none) = some r := by rw [if_pos rfl] at H; exact H
            clear H
            have H := H1
            clear H1
            exact absurd H (by simp)
          · replace c9 := Bool.eq_false_iff.mpr c9
            subst c9
            have H1 : ((lpc_Fit.f k (List.replicate 33 0)).bind fun t270 => (if (t270.length : Int) = 0 then ((lpc_Chirp.f k (List.replicate 33 0) 5).bind fun t276 => (if (t276.length : Int) = 0 then ((lpc_Gain.f k (List.replicate 33 0)).bind fun t282 => (some (t282 == 0))) else (none))) else (none))) = some r := by rw [if_neg (show ¬ (false = true) by decide)] at H; exact H
            clear H
            have H := H1
            clear H1
            obtain ⟨y267, hy267⟩ : ∃ y_ : List Int, y_ = (List.replicate 33 0) := ⟨_, rfl⟩
            replace H : ((lpc_Fit.f k y267).bind fun t270 => (if (t270.length : Int) = 0 then ((lpc_Chirp.f k (List.replicate 33 0) 5).bind fun t276 => (if (t276.length : Int) = 0 then ((lpc_Gain.f k (List.replicate 33 0)).bind fun t282 => (some (t282 == 0))) else (none))) else (none))) = some r := by first | (rw [hy267]; with_reducible exact H) | (have H2_ := (Option.bind_some _ _).symm.trans H; rw [hy267]; with_reducible exact H2_) | (have H2_ := (Option.bind_some _ _).symm.trans H; with_reducible exact H2_) | with_reducible exact H | (rw [hy267]; exact H) | exact H
            have Ny267 := Aside0.mk hy267
            clear hy267
            replace H := Option.bind_eq_some_iff.mp H
            obtain ⟨t270, A100, H⟩ := H
            replace H : (if (t270.length : Int) = 0 then ((lpc_Chirp.f k (List.replicate 33 0) 5).bind fun t276 => (if (t276.length : Int) = 0 then ((lpc_Gain.f k (List.replicate 33 0)).bind fun t282 => (some (t282 == 0))) else (none))) else (none)) = some r := H
            have A10 := Aside0.mk A100
            clear A100
            by_cases c11 : (t270.length : Int) = 0
            · rw [if_pos c11] at H
              have c11b0 : ((t270.length : Int) == 0) = true := beq_iff_eq.mpr c11
              have c11b1 : ((t270.length : Int) != 0) = false := bne_eq_false_iff_eq.mpr c11
              clear c11
              obtain ⟨y273, hy273⟩ : ∃ y_ : List Int, y_ = (List.replicate 33 0) := ⟨_, rfl⟩
              replace H : ((lpc_Chirp.f k y273 5).bind fun t276 => (if (t276.length : Int) = 0 then ((lpc_Gain.f k (List.replicate 33 0)).bind fun t282 => (some (t282 == 0))) else (none))) = some r := by first | (rw [hy273]; with_reducible exact H) | (have H2_ := (Option.bind_some _ _).symm.trans H; rw [hy273]; with_reducible exact H2_) | (have H2_ := (Option.bind_some _ _).symm.trans H; with_reducible exact H2_) | with_reducible exact H | (rw [hy273]; exact H) | exact H
              have Ny273 := Aside0.mk hy273
              clear hy273
              replace H := Option.bind_eq_some_iff.mp H
              obtain ⟨t276, A120, H⟩ := H
              replace H : (if (t276.length : Int) = 0 then ((lpc_Gain.f k (List.replicate 33 0)).bind fun t282 => (some (t282 == 0))) else (none)) = some r := H
              have A12 := Aside0.mk A120
              clear A120
              by_cases c13 : (t276.length : Int) = 0
              · rw [if_pos c13] at H
                have c13b0 : ((t276.length : Int) == 0) = true := beq_iff_eq.mpr c13
                have c13b1 : ((t276.length : Int) != 0) = false := bne_eq_false_iff_eq.mpr c13
                clear c13
                obtain ⟨y279, hy279⟩ : ∃ y_ : List Int, y_ = (List.replicate 33 0) := ⟨_, rfl⟩
                replace H : ((lpc_Gain.f k y279).bind fun t282 => (some (t282 == 0))) = some r := by first | (rw [hy279]; with_reducible exact H) | (have H2_ := (Option.bind_some _ _).symm.trans H; rw [hy279]; with_reducible exact H2_) | (have H2_ := (Option.bind_some _ _).symm.trans H; with_reducible exact H2_) | with_reducible exact H | (rw [hy279]; exact H) | exact H
                have Ny279 := Aside0.mk hy279
                clear hy279
                replace H := Option.bind_eq_some_iff.mp H
                obtain ⟨t282, A140, H⟩ := H
                replace H : (some (t282 == 0)) = some r := H
                have A14 := Aside0.mk A140
                clear A140
                obtain rfl := Option.some.inj H
                go_enter Try.func3, Try.ntmps3
                go_wp2_with (first | ((with_reducible refine gate_callee (f := 8) rfl ?_); refine goesL_ (some 3) rfl rfl Try.func8 (by kernel_rfl) rfl #[] rfl (by (try simp only [List.map_toArray, List.map_cons, List.map_nil]); first | done | rfl | (simp only [List.length_drop, List.length_take]; rfl)) ?_; (with_reducible refine (madrigallaw7_awake.calls k  true _ A1.out).mono ?_); rintro e w15 ⟨rfl, hb⟩; refine ⟨_, rfl, ?_⟩; have n0_ := Aside0.mk (below_step (by repeat (first | (with_reducible first | exact HB.out | apply below_alloc | apply pw_below_drewN | apply below_drew1) | exact HB.out)) hb); clear HB; have HB := n0_; clear n0_; (try clear hb); (try clear hb2); (try clear hk); (try clear hi); (try clear hge)) | ((with_reducible refine gate_callee (f := 9) rfl ?_); refine goesL_ (some 6) rfl rfl Try.func9 (by kernel_rfl) rfl #[.slice none 0 0] rfl (by (try simp only [List.map_toArray, List.map_cons, List.map_nil]); first | done | rfl | (simp only [List.length_drop, List.length_take]; rfl)) ?_; (refine calls_of_args (args' := #[.slice none ([] : List Int).length 0]) (by rfl) ?_); (with_reducible refine (lpc_From.calls k none 0 ([] : List Int) t258 t259 _ ?side1 ?side2 A3.out).mono ?_); (case side1 => exact Kd.C_nil _ _); (case side2 => exact Nat.le_refl _); rintro e w16 ⟨v260, rfl, ho0, hb⟩; refine ⟨_, rfl, ?_⟩; have n0_ := Aside0.mk (Kd.R_lower ho0 (below_size (by repeat (first | (with_reducible first | exact HB.out | apply below_alloc | apply pw_below_drewN | apply below_drew1) | exact HB.out)))); have n1_ := Aside0.mk (below_step (by repeat (first | (with_reducible first | exact HB.out | apply below_alloc | apply pw_below_drewN | apply below_drew1) | exact HB.out)) hb); clear HB; have HO261 := n0_; have HB := n1_; clear n0_ n1_; (try clear hb); (try clear hb2); (try clear hk); (try clear hi); (try clear hge); (try clear ho0)) | (go_at_call 10; (refine calls_of_args (args' := #[.slice none ([] : List Int).length 0]) (by rfl) ?_); (with_reducible refine (lpc_Stable.calls k none 0 ([] : List Int) true _ ?side1 ?side2 A5.out).mono ?_); (case side1 => exact Kd.C_nil _ _); (case side2 => exact Nat.le_refl _); rintro e w17 ⟨rfl, hb⟩; have n0_ := Aside0.mk (Kd.R_below (by (with_reducible repeat (first | apply Kd.R_alloc | apply Kd.R_drewN | apply Kd.R_drew)); exact HO261.out) hb); have n1_ := Aside0.mk (below_step (by repeat (first | (with_reducible first | exact HB.out | apply below_alloc | apply pw_below_drewN | apply below_drew1) | exact HB.out)) hb); clear HO261; clear HB; have HO261 := n0_; have HB := n1_; clear n0_ n1_; (try clear hb); (try clear hb2); (try clear hk); (try clear hi); (try clear hge)) | ((with_reducible refine gate_dst (N := 15) rfl ?_); (try (refine gate_guard (by rfl) ?_; dsimp only)); refine Kd.R_make (Kd.int .i64) _ 2 rfl (N := 15) rfl 23 _ _ rfl 33 rfl rfl Try.underlying23 (.int .i64 0) 8 info2 rfl (by decide) (by omega) 0 (ok := fun _ => True) (okp := fun _ => True) rfl (fun _ hk => hk) trivial (by omega) (by omega) (Below.refl _ _) (Nat.le_refl _) ?_; intro v264 w18 ho19 hb hg_ hnew_; clear hg_ hnew_; (first | rw [← Ny263.out] at ho19 | (simp only [Int.reduceToNat] at ho19; rw [← Ny263.out] at ho19)); have n0_ := Aside0.mk (Kd.R_elder' (by (with_reducible repeat (first | apply Kd.R_alloc | apply Kd.R_drewN | apply Kd.R_drew)); exact HO261.out) (Kd.R_base ho19) hb); have n1_ := Aside0.mk (Kd.R_lower (Kd.R_new' ho19 (Kd.R_lt (by (with_reducible repeat (first | apply Kd.R_alloc | apply Kd.R_drewN | apply Kd.R_drew)); exact HO261.out))) (below_size (by repeat (first | (with_reducible first | exact HB.out | apply below_alloc | apply pw_below_drewN | apply below_drew1) | exact HB.out)))); have n2_ := Aside0.mk (below_step (by repeat (first | (with_reducible first | exact HB.out | apply below_alloc | apply pw_below_drewN | apply below_drew1) | exact HB.out)) hb); clear HO261; clear HB; have HO261 := n0_; have HO265 := n1_; have HB := n2_; clear n0_ n1_ n2_; clear hb ho19; obtain ⟨Ao20, co20, eo20⟩ := Kd.R_slice HO265.out; subst eo20) | (go_at_call 10; (with_reducible refine (lpc_Stable.calls k _ _ y263 false _ ?side1 ?side2 A8.out).mono ?_); (case side1 => repeat (first | exact (Kd.R_reads' HO265.out).2.2 | (with_reducible refine Kd.C_alloc ?_ _) | (with_reducible refine Kd.C_drewN ?_ _) | (with_reducible refine Kd.C_drew ?_))); (case side2 => exact (Kd.R_reads' HO265.out).2.1); rintro e w21 ⟨rfl, hb⟩; have n0_ := Aside0.mk (Kd.R_below (by (with_reducible repeat (first | apply Kd.R_alloc | apply Kd.R_drewN | apply Kd.R_drew)); exact HO261.out) hb); have n1_ := Aside0.mk (Kd.R_below (by (with_reducible repeat (first | apply Kd.R_alloc | apply Kd.R_drewN | apply Kd.R_drew)); exact HO265.out) hb); have n2_ := Aside0.mk (below_step (by repeat (first | (with_reducible first | exact HB.out | apply below_alloc | apply pw_below_drewN | apply below_drew1) | exact HB.out)) hb); clear HO261; clear HO265; clear HB; have HO261 := n0_; have HO265 := n1_; have HB := n2_; clear n0_ n1_ n2_; (try clear hb); (try clear hb2); (try clear hk); (try clear hi); (try clear hge)) | ((with_reducible refine gate_dst (N := 20) rfl ?_); (try (refine gate_guard (by rfl) ?_; dsimp only)); refine Kd.R_make (Kd.int .i64) _ 2 rfl (N := 20) rfl 23 _ _ rfl 33 rfl rfl Try.underlying23 (.int .i64 0) 8 info2 rfl (by decide) (by omega) 0 (ok := fun _ => True) (okp := fun _ => True) rfl (fun _ hk => hk) trivial (by omega) (by omega) (Below.refl _ _) (Nat.le_refl _) ?_; intro v268 w22 ho23 hb hg_ hnew_; clear hg_ hnew_; (first | rw [← Ny267.out] at ho23 | (simp only [Int.reduceToNat] at ho23; rw [← Ny267.out] at ho23)); have n0_ := Aside0.mk (Kd.R_elder' (by (with_reducible repeat (first | apply Kd.R_alloc | apply Kd.R_drewN | apply Kd.R_drew)); exact HO261.out) (Kd.R_base ho23) hb); have n1_ := Aside0.mk (Kd.R_elder' (by (with_reducible repeat (first | apply Kd.R_alloc | apply Kd.R_drewN | apply Kd.R_drew)); exact HO265.out) (Kd.R_base ho23) hb); have n2_ := Aside0.mk (Kd.R_lower (Kd.R_new' (Kd.R_new' ho23 (Kd.R_lt (by (with_reducible repeat (first | apply Kd.R_alloc | apply Kd.R_drewN | apply Kd.R_drew)); exact HO261.out))) (Kd.R_lt (by (with_reducible repeat (first | apply Kd.R_alloc | apply Kd.R_drewN | apply Kd.R_drew)); exact HO265.out))) (below_size (by repeat (first | (with_reducible first | exact HB.out | apply below_alloc | apply pw_below_drewN | apply below_drew1) | exact HB.out)))); have n3_ := Aside0.mk (below_step (by repeat (first | (with_reducible first | exact HB.out | apply below_alloc | apply pw_below_drewN | apply below_drew1) | exact HB.out)) hb); clear HO261; clear HO265; clear HB; have HO261 := n0_; have HO265 := n1_; have HO269 := n2_; have HB := n3_; clear n0_ n1_ n2_ n3_; clear hb ho23; obtain ⟨Ao24, co24, eo24⟩ := Kd.R_slice HO269.out; subst eo24) | (go_at_call 11; (with_reducible refine (lpc_Fit.calls k _ _ y267 t270 _ ?side1 ?side2 A10.out).mono ?_); (case side1 => repeat (first | exact (Kd.R_reads' HO269.out).2.2 | (with_reducible refine Kd.C_alloc ?_ _) | (with_reducible refine Kd.C_drewN ?_ _) | (with_reducible refine Kd.C_drew ?_))); (case side2 => exact (Kd.R_reads' HO269.out).2.1); rintro e w25 ⟨v271, rfl, ho0, hb⟩; have n0_ := Aside0.mk (Kd.R_elder' (by (with_reducible repeat (first | apply Kd.R_alloc | apply Kd.R_drewN | apply Kd.R_drew)); exact HO261.out) (Kd.R_base ho0) hb); have n1_ := Aside0.mk (Kd.R_elder' (by (with_reducible repeat (first | apply Kd.R_alloc | apply Kd.R_drewN | apply Kd.R_drew)); exact HO265.out) (Kd.R_base ho0) hb); have n2_ := Aside0.mk (Kd.R_elder' (by (with_reducible repeat (first | apply Kd.R_alloc | apply Kd.R_drewN | apply Kd.R_drew)); exact HO269.out) (Kd.R_base ho0) hb); have n3_ := Aside0.mk (Kd.R_lower (Kd.R_new' (Kd.R_new' (Kd.R_new' ho0 (Kd.R_lt (by (with_reducible repeat (first | apply Kd.R_alloc | apply Kd.R_drewN | apply Kd.R_drew)); exact HO261.out))) (Kd.R_lt (by (with_reducible repeat (first | apply Kd.R_alloc | apply Kd.R_drewN | apply Kd.R_drew)); exact HO265.out))) (Kd.R_lt (by (with_reducible repeat (first | apply Kd.R_alloc | apply Kd.R_drewN | apply Kd.R_drew)); exact HO269.out))) (below_size (by repeat (first | (with_reducible first | exact HB.out | apply below_alloc | apply pw_below_drewN | apply below_drew1) | exact HB.out)))); have n4_ := Aside0.mk (below_step (by repeat (first | (with_reducible first | exact HB.out | apply below_alloc | apply pw_below_drewN | apply below_drew1) | exact HB.out)) hb); clear HO261; clear HO265; clear HO269; clear HB; have HO261 := n0_; have HO265 := n1_; have HO269 := n2_; have HO272 := n3_; have HB := n4_; clear n0_ n1_ n2_ n3_ n4_; (try clear hb); (try clear hb2); (try clear hk); (try clear hi); (try clear hge); (try clear ho0); obtain ⟨Ao26, co26, eo26⟩ := Kd.R_slice HO272.out; subst eo26) | ((with_reducible refine gate_dst (N := 26) rfl ?_); (try (refine gate_guard (by rfl) ?_; dsimp only)); refine Kd.R_make (Kd.int .i64) _ 2 rfl (N := 26) rfl 23 _ _ rfl 33 rfl rfl Try.underlying23 (.int .i64 0) 8 info2 rfl (by decide) (by omega) 0 (ok := fun _ => True) (okp := fun _ => True) rfl (fun _ hk => hk) trivial (by omega) (by omega) (Below.refl _ _) (Nat.le_refl _) ?_; intro v274 w27 ho28 hb hg_ hnew_; clear hg_ hnew_; (first | rw [← Ny273.out] at ho28 | (simp only [Int.reduceToNat] at ho28; rw [← Ny273.out] at ho28)); have n0_ := Aside0.mk (Kd.R_elder' (by (with_reducible repeat (first | apply Kd.R_alloc | apply Kd.R_drewN | apply Kd.R_drew)); exact HO261.out) (Kd.R_base ho28) hb); have n1_ := Aside0.mk (Kd.R_elder' (by (with_reducible repeat (first | apply Kd.R_alloc | apply Kd.R_drewN | apply Kd.R_drew)); exact HO265.out) (Kd.R_base ho28) hb); have n2_ := Aside0.mk (Kd.R_elder' (by (with_reducible repeat (first | apply Kd.R_alloc | apply Kd.R_drewN | apply Kd.R_drew)); exact HO269.out) (Kd.R_base ho28) hb); have n3_ := Aside0.mk (Kd.R_elder' (by (with_reducible repeat (first | apply Kd.R_alloc | apply Kd.R_drewN | apply Kd.R_drew)); exact HO272.out) (Kd.R_base ho28) hb); have n4_ := Aside0.mk (Kd.R_lower (Kd.R_new' (Kd.R_new' (Kd.R_new' (Kd.R_new' ho28 (Kd.R_lt (by (with_reducible repeat (first | apply Kd.R_alloc | apply Kd.R_drewN | apply Kd.R_drew)); exact HO261.out))) (Kd.R_lt (by (with_reducible repeat (first | apply Kd.R_alloc | apply Kd.R_drewN | apply Kd.R_drew)); exact HO265.out))) (Kd.R_lt (by (with_reducible repeat (first | apply Kd.R_alloc | apply Kd.R_drewN | apply Kd.R_drew)); exact HO269.out))) (Kd.R_lt (by (with_reducible repeat (first | apply Kd.R_alloc | apply Kd.R_drewN | apply Kd.R_drew)); exact HO272.out))) (below_size (by repeat (first | (with_reducible first | exact HB.out | apply below_alloc | apply pw_below_drewN | apply below_drew1) | exact HB.out)))); have n5_ := Aside0.mk (below_step (by repeat (first | (with_reducible first | exact HB.out | apply below_alloc | apply pw_below_drewN | apply below_drew1) | exact HB.out)) hb); clear HO261; clear HO265; clear HO269; clear HO272; clear HB; have HO261 := n0_; have HO265 := n1_; have HO269 := n2_; have HO272 := n3_; have HO275 := n4_; have HB := n5_; clear n0_ n1_ n2_ n3_ n4_ n5_; clear hb ho28; obtain ⟨Ao29, co29, eo29⟩ := Kd.R_slice HO275.out; subst eo29) | (go_at_call 12; (with_reducible refine (lpc_Chirp.calls k _ _ y273 5 t276 _ ?side1 ?side2 A12.out).mono ?_); (case side1 => repeat (first | exact (Kd.R_reads' HO275.out).2.2 | (with_reducible refine Kd.C_alloc ?_ _) | (with_reducible refine Kd.C_drewN ?_ _) | (with_reducible refine Kd.C_drew ?_))); (case side2 => exact (Kd.R_reads' HO275.out).2.1); rintro e w30 ⟨v277, rfl, ho0, hb⟩; have n0_ := Aside0.mk (Kd.R_elder' (by (with_reducible repeat (first | apply Kd.R_alloc | apply Kd.R_drewN | apply Kd.R_drew)); exact HO261.out) (Kd.R_base ho0) hb); have n1_ := Aside0.mk (Kd.R_elder' (by (with_reducible repeat (first | apply Kd.R_alloc | apply Kd.R_drewN | apply Kd.R_drew)); exact HO265.out) (Kd.R_base ho0) hb); have n2_ := Aside0.mk (Kd.R_elder' (by (with_reducible repeat (first | apply Kd.R_alloc | apply Kd.R_drewN | apply Kd.R_drew)); exact HO269.out) (Kd.R_base ho0) hb); have n3_ := Aside0.mk (Kd.R_elder' (by (with_reducible repeat (first | apply Kd.R_alloc | apply Kd.R_drewN | apply Kd.R_drew)); exact HO272.out) (Kd.R_base ho0) hb); have n4_ := Aside0.mk (Kd.R_elder' (by (with_reducible repeat (first | apply Kd.R_alloc | apply Kd.R_drewN | apply Kd.R_drew)); exact HO275.out) (Kd.R_base ho0) hb); have n5_ := Aside0.mk (Kd.R_lower (Kd.R_new' (Kd.R_new' (Kd.R_new' (Kd.R_new' (Kd.R_new' ho0 (Kd.R_lt (by (with_reducible repeat (first | apply Kd.R_alloc | apply Kd.R_drewN | apply Kd.R_drew)); exact HO261.out))) (Kd.R_lt (by (with_reducible repeat (first | apply Kd.R_alloc | apply Kd.R_drewN | apply Kd.R_drew)); exact HO265.out))) (Kd.R_lt (by (with_reducible repeat (first | apply Kd.R_alloc | apply Kd.R_drewN | apply Kd.R_drew)); exact HO269.out))) (Kd.R_lt (by (with_reducible repeat (first | apply Kd.R_alloc | apply Kd.R_drewN | apply Kd.R_drew)); exact HO272.out))) (Kd.R_lt (by (with_reducible repeat (first | apply Kd.R_alloc | apply Kd.R_drewN | apply Kd.R_drew)); exact HO275.out))) (below_size (by repeat (first | (with_reducible first | exact HB.out | apply below_alloc | apply pw_below_drewN | apply below_drew1) | exact HB.out)))); have n6_ := Aside0.mk (below_step (by repeat (first | (with_reducible first | exact HB.out | apply below_alloc | apply pw_below_drewN | apply below_drew1) | exact HB.out)) hb); clear HO261; clear HO265; clear HO269; clear HO272; clear HO275; clear HB; have HO261 := n0_; have HO265 := n1_; have HO269 := n2_; have HO272 := n3_; have HO275 := n4_; have HO278 := n5_; have HB := n6_; clear n0_ n1_ n2_ n3_ n4_ n5_ n6_; (try clear hb); (try clear hb2); (try clear hk); (try clear hi); (try clear hge); (try clear ho0); obtain ⟨Ao31, co31, eo31⟩ := Kd.R_slice HO278.out; subst eo31) | ((with_reducible refine gate_dst (N := 32) rfl ?_); (try (refine gate_guard (by rfl) ?_; dsimp only)); refine Kd.R_make (Kd.int .i64) _ 2 rfl (N := 32) rfl 23 _ _ rfl 33 rfl rfl Try.underlying23 (.int .i64 0) 8 info2 rfl (by decide) (by omega) 0 (ok := fun _ => True) (okp := fun _ => True) rfl (fun _ hk => hk) trivial (by omega) (by omega) (Below.refl _ _) (Nat.le_refl _) ?_; intro v280 w32 ho33 hb hg_ hnew_; clear hg_ hnew_; (first | rw [← Ny279.out] at ho33 | (simp only [Int.reduceToNat] at ho33; rw [← Ny279.out] at ho33)); have n0_ := Aside0.mk (Kd.R_elder' (by (with_reducible repeat (first | apply Kd.R_alloc | apply Kd.R_drewN | apply Kd.R_drew)); exact HO261.out) (Kd.R_base ho33) hb); have n1_ := Aside0.mk (Kd.R_elder' (by (with_reducible repeat (first | apply Kd.R_alloc | apply Kd.R_drewN | apply Kd.R_drew)); exact HO265.out) (Kd.R_base ho33) hb); have n2_ := Aside0.mk (Kd.R_elder' (by (with_reducible repeat (first | apply Kd.R_alloc | apply Kd.R_drewN | apply Kd.R_drew)); exact HO269.out) (Kd.R_base ho33) hb); have n3_ := Aside0.mk (Kd.R_elder' (by (with_reducible repeat (first | apply Kd.R_alloc | apply Kd.R_drewN | apply Kd.R_drew)); exact HO272.out) (Kd.R_base ho33) hb); have n4_ := Aside0.mk (Kd.R_elder' (by (with_reducible repeat (first | apply Kd.R_alloc | apply Kd.R_drewN | apply Kd.R_drew)); exact HO275.out) (Kd.R_base ho33) hb); have n5_ := Aside0.mk (Kd.R_elder' (by (with_reducible repeat (first | apply Kd.R_alloc | apply Kd.R_drewN | apply Kd.R_drew)); exact HO278.out) (Kd.R_base ho33) hb); have n6_ := Aside0.mk (Kd.R_lower (Kd.R_new' (Kd.R_new' (Kd.R_new' (Kd.R_new' (Kd.R_new' (Kd.R_new' ho33 (Kd.R_lt (by (with_reducible repeat (first | apply Kd.R_alloc | apply Kd.R_drewN | apply Kd.R_drew)); exact HO261.out))) (Kd.R_lt (by (with_reducible repeat (first | apply Kd.R_alloc | apply Kd.R_drewN | apply Kd.R_drew)); exact HO265.out))) (Kd.R_lt (by (with_reducible repeat (first | apply Kd.R_alloc | apply Kd.R_drewN | apply Kd.R_drew)); exact HO269.out))) (Kd.R_lt (by (with_reducible repeat (first | apply Kd.R_alloc | apply Kd.R_drewN | apply Kd.R_drew)); exact HO272.out))) (Kd.R_lt (by (with_reducible repeat (first | apply Kd.R_alloc | apply Kd.R_drewN | apply Kd.R_drew)); exact HO275.out))) (Kd.R_lt (by (with_reducible repeat (first | apply Kd.R_alloc | apply Kd.R_drewN | apply Kd.R_drew)); exact HO278.out))) (below_size (by repeat (first | (with_reducible first | exact HB.out | apply below_alloc | apply pw_below_drewN | apply below_drew1) | exact HB.out)))); have n7_ := Aside0.mk (below_step (by repeat (first | (with_reducible first | exact HB.out | apply below_alloc | apply pw_below_drewN | apply below_drew1) | exact HB.out)) hb); clear HO261; clear HO265; clear HO269; clear HO272; clear HO275; clear HO278; clear HB; have HO261 := n0_; have HO265 := n1_; have HO269 := n2_; have HO272 := n3_; have HO275 := n4_; have HO278 := n5_; have HO281 := n6_; have HB := n7_; clear n0_ n1_ n2_ n3_ n4_ n5_ n6_ n7_; clear hb ho33; obtain ⟨Ao34, co34, eo34⟩ := Kd.R_slice HO281.out; subst eo34) | (go_at_call 13; (with_reducible refine (lpc_Gain.calls k _ _ y279 t282 _ ?side1 ?side2 A14.out).mono ?_); (case side1 => repeat (first | exact (Kd.R_reads' HO281.out).2.2 | (with_reducible refine Kd.C_alloc ?_ _) | (with_reducible refine Kd.C_drewN ?_ _) | (with_reducible refine Kd.C_drew ?_))); (case side2 => exact (Kd.R_reads' HO281.out).2.1); rintro e w' ⟨rfl, ⟨nd, rfl⟩⟩))
                go_ret
                exact ⟨by first | rfl | (simp [errW_none, errW_some] <;> rfl) | (simp [*, errW_none, errW_some] <;> rfl), by repeat (first | (with_reducible first | exact HB.out | apply below_alloc | apply pw_below_drewN | apply below_drew1) | exact HB.out)⟩
              · rw [if_neg c13] at H
                exact absurd H (by simp)
            · rw [if_neg c11] at H
              exact absurd H (by simp)
        · rw [if_neg c7] at H
          exact absurd H (by simp)
      · replace c6 := Bool.eq_false_iff.mpr c6
        subst c6
        have H1 : (none) = some r := by rw [if_neg (show ¬ (false = true) by decide)] at H; exact H
        clear H
        have H := H1
        clear H1
        exact absurd H (by simp)
    · rw [if_neg c4] at H
      exact absurd H (by simp)
  · replace c2 := Bool.eq_false_iff.mpr c2
    subst c2
    have H1 : (none) = some r := by rw [if_neg (show ¬ (false = true) by decide)] at H; exact H
    clear H
    have H := H1
    clear H1
    exact absurd H (by simp)

/-- THE ONE PURE STATEMENT of madrigallaw7_LpcKnown. -/
def madrigallaw7_LpcKnown.Pure : Prop := ∃ k, madrigallaw7_LpcKnown.f k  = some true
theorem madrigallaw7_LpcKnown.walk (P : madrigallaw7_LpcKnown.Pure)  (w : World)  :
    Calls Try.prog 3 #[] w fun e w' => e = .returned (.bool true) ∧ Below w.heap.size w w' := by
  obtain ⟨k, h⟩ := P  
  refine (madrigallaw7_LpcKnown.calls k  true w h).mono ?_
  rintro e w' ⟨rfl, hd⟩
  exact ⟨rfl, hd⟩

end Go.Proofs.Ytgnklnpnfnpncaa.P
