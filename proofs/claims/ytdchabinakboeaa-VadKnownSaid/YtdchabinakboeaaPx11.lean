/- The machine side of the laws of one chapter, without conditions: each call of a Go function comes to what the Lean function of its name answers. Written for this claim by a program of the prover. -/
import Derived.Test.YtdchabinakboeaaPx0
import Derived.Test.YtdchabinakboeaaPx5
import Derived.Test.YtdchabinakboeaaPx6
import Derived.Test.YtdchabinakboeaaPx9
import Derived.Test.YtdchabinakboeaaPx10
namespace Go.Proofs.Ytdchabinakboeaa.P
open Go.RowKit Go.Proofs.YtdchabinakboeaaW.PrintWords Go.Proofs.YtdchabinakboeaaW.PrintLast Go.Proofs.YtdchabinakboeaaW.PrintMore
attribute [local go_sem] max2_int min2_int max_two min_two max_three min_three max_four min_four   -- for this text's walks alone
set_option linter.unusedVariables false
set_option linter.unusedSimpArgs false

/-! ### madrigallaw13_VadKnown: function 3 -/
def madrigallaw13_VadKnown.f (k : Nat)  : Option (Bool) := (madrigallaw13_awake.f k).bind fun t173 => (if t173 = true then ((vad_Level.f k ([] : List Int)).bind fun t174 => (if t174 = 0 then ((vad_New.f).bind fun bt175 => ((vad_Meter_Each.f k bt175.1 bt175.2 ([] : List (List Int))).bind fun bt178 => (if (bt178.1.length : Int) = 0 then ((vad_Level.f k (([1152921504606846976] : List Int))).bind fun t186 => ((vad_Level.f k (([32767] : List Int))).bind fun t190 => (some (t186 == t190)))) else (none)))) else (none))) else (none))
theorem madrigallaw13_VadKnown.mono : ∀ k, LeO (madrigallaw13_VadKnown.f k ) (madrigallaw13_VadKnown.f (k + 1) ) := by
  intro  k
  unfold madrigallaw13_VadKnown.f
  repeat' first
      | (with_reducible exact madrigallaw13_awake.mono _)
      | (with_reducible exact vad_Level.mono _ _)
      | (with_reducible exact vad_Meter_Each.mono _ _ _ _)
      | (with_reducible exact LeO.refl _)
      | (with_reducible exact LeO.none _)
      | (with_reducible refine LeO.ite ?_ ?_)
      | (with_reducible refine LeO.bind ?_ (fun _ => ?_))
      | exact madrigallaw13_awake.mono _
      | exact vad_Level.mono _ _
      | exact vad_Meter_Each.mono _ _ _ _
      | exact LeO.none _
      | refine LeO.ite ?_ ?_
      | refine LeO.bind ?_ (fun _ => ?_)
set_option maxHeartbeats 8000000 in
set_option maxRecDepth 100000 in
theorem madrigallaw13_VadKnown.calls (k : Nat)  (r : Bool) (w : World) (h : madrigallaw13_VadKnown.f k  = some r) :
    Calls Try.prog 3 #[] w fun e w' => e = .returned (.bool r) ∧ Below w.heap.size w w' := by
  have HB := Aside0.mk (Below.refl w.heap.size w)
  have H : ((madrigallaw13_awake.f k).bind fun t173 => (if t173 = true then ((vad_Level.f k ([] : List Int)).bind fun t174 => (if t174 = 0 then ((vad_New.f).bind fun bt175 => ((vad_Meter_Each.f k bt175.1 bt175.2 ([] : List (List Int))).bind fun bt178 => (if (bt178.1.length : Int) = 0 then ((vad_Level.f k (([1152921504606846976] : List Int))).bind fun t186 => ((vad_Level.f k (([32767] : List Int))).bind fun t190 => (some (t186 == t190)))) else (none)))) else (none))) else (none))) = some r := h
  clear h
  replace H := Option.bind_eq_some_iff.mp H
  obtain ⟨t173, A10, H⟩ := H
  replace H : (if t173 = true then ((vad_Level.f k ([] : List Int)).bind fun t174 => (if t174 = 0 then ((vad_New.f).bind fun bt175 => ((vad_Meter_Each.f k bt175.1 bt175.2 ([] : List (List Int))).bind fun bt178 => (if (bt178.1.length : Int) = 0 then ((vad_Level.f k (([1152921504606846976] : List Int))).bind fun t186 => ((vad_Level.f k (([32767] : List Int))).bind fun t190 => (some (t186 == t190)))) else (none)))) else (none))) else (none)) = some r := H
  have A1 := Aside0.mk A10
  clear A10
  by_cases c2 : t173 = true
  · subst c2
    have H1 : ((vad_Level.f k ([] : List Int)).bind fun t174 => (if t174 = 0 then ((vad_New.f).bind fun bt175 => ((vad_Meter_Each.f k bt175.1 bt175.2 ([] : List (List Int))).bind fun bt178 => (if (bt178.1.length : Int) = 0 then ((vad_Level.f k (([1152921504606846976] : List Int))).bind fun t186 => ((vad_Level.f k (([32767] : List Int))).bind fun t190 => (some (t186 == t190)))) else (none)))) else (none))) = some r := by rw [if_pos rfl] at H; exact H
    clear H
    have H := H1
    clear H1
    replace H := Option.bind_eq_some_iff.mp H
    obtain ⟨t174, A30, H⟩ := H
    replace H : (if t174 = 0 then ((vad_New.f).bind fun bt175 => ((vad_Meter_Each.f k bt175.1 bt175.2 ([] : List (List Int))).bind fun bt178 => (if (bt178.1.length : Int) = 0 then ((vad_Level.f k (([1152921504606846976] : List Int))).bind fun t186 => ((vad_Level.f k (([32767] : List Int))).bind fun t190 => (some (t186 == t190)))) else (none)))) else (none)) = some r := H
    have A3 := Aside0.mk A30
    clear A30
    by_cases c4 : t174 = 0
    · rw [if_pos c4] at H
      have c4b0 : (t174 == 0) = true := beq_iff_eq.mpr c4
      have c4b1 : (t174 != 0) = false := bne_eq_false_iff_eq.mpr c4
      clear c4
      replace H := Option.bind_eq_some_iff.mp H
      obtain ⟨⟨t175, t176⟩, A50, H⟩ := H
      replace H : ((vad_Meter_Each.f k t175 t176 ([] : List (List Int))).bind fun bt178 => (if (bt178.1.length : Int) = 0 then ((vad_Level.f k (([1152921504606846976] : List Int))).bind fun t186 => ((vad_Level.f k (([32767] : List Int))).bind fun t190 => (some (t186 == t190)))) else (none))) = some r := H
      have A5 := Aside0.mk A50
      clear A50
      replace H := Option.bind_eq_some_iff.mp H
      obtain ⟨⟨t178, t181, t182⟩, A60, H⟩ := H
      replace H : (if (t178.length : Int) = 0 then ((vad_Level.f k (([1152921504606846976] : List Int))).bind fun t186 => ((vad_Level.f k (([32767] : List Int))).bind fun t190 => (some (t186 == t190)))) else (none)) = some r := H
      have A6 := Aside0.mk A60
      clear A60
      by_cases c7 : (t178.length : Int) = 0
      · rw [if_pos c7] at H
        have c7b0 : ((t178.length : Int) == 0) = true := beq_iff_eq.mpr c7
        have c7b1 : ((t178.length : Int) != 0) = false := bne_eq_false_iff_eq.mpr c7
        clear c7
        obtain ⟨y183, hy183⟩ : ∃ y_ : List Int, y_ = (([1152921504606846976] : List Int)) := ⟨_, rfl⟩
        replace H : ((vad_Level.f k y183).bind fun t186 => ((vad_Level.f k (([32767] : List Int))).bind fun t190 => (some (t186 == t190)))) = some r := by first | (rw [hy183]; with_reducible exact H) | (have H2_ := (Option.bind_some _ _).symm.trans H; rw [hy183]; with_reducible exact H2_) | (have H2_ := (Option.bind_some _ _).symm.trans H; with_reducible exact H2_) | with_reducible exact H | (rw [hy183]; exact H) | exact H
        have Ny183 := Aside0.mk hy183
        clear hy183
        replace H := Option.bind_eq_some_iff.mp H
        obtain ⟨t186, A80, H⟩ := H
        replace H : ((vad_Level.f k (([32767] : List Int))).bind fun t190 => (some (t186 == t190))) = some r := H
        have A8 := Aside0.mk A80
        clear A80
        obtain ⟨y187, hy187⟩ : ∃ y_ : List Int, y_ = (([32767] : List Int)) := ⟨_, rfl⟩
        replace H : ((vad_Level.f k y187).bind fun t190 => (some (t186 == t190))) = some r := by first | (rw [hy187]; with_reducible exact H) | (have H2_ := (Option.bind_some _ _).symm.trans H; rw [hy187]; with_reducible exact H2_) | (have H2_ := (Option.bind_some _ _).symm.trans H; with_reducible exact H2_) | with_reducible exact H | (rw [hy187]; exact H) | exact H
        have Ny187 := Aside0.mk hy187
        clear hy187
        replace H := Option.bind_eq_some_iff.mp H
        obtain ⟨t190, A90, H⟩ := H
        replace H : (some (t186 == t190)) = some r := H
        have A9 := Aside0.mk A90
        clear A90
        obtain rfl := Option.some.inj H
        go_enter Try.func3, Try.ntmps3
        go_wp2_with (first | ((with_reducible refine gate_callee (f := 14) rfl ?_); refine goesL_ (some 1) rfl rfl Try.func14 (by kernel_rfl) rfl #[] rfl (by (try simp only [List.map_toArray, List.map_cons, List.map_nil]); first | done | rfl | (simp only [List.length_drop, List.length_take]; rfl)) ?_; (with_reducible refine (madrigallaw13_awake.calls k  true _ A1.out).mono ?_); rintro e w10 ⟨rfl, hb⟩; refine ⟨_, rfl, ?_⟩; have n0_ := Aside0.mk (below_step (by repeat (first | (with_reducible first | exact HB.out | apply below_alloc | apply pw_below_drewN | apply below_drew1) | exact HB.out)) hb); clear HB; have HB := n0_; clear n0_; (try clear hb); (try clear hb2); (try clear hk); (try clear hi); (try clear hge)) | ((with_reducible refine gate_callee (f := 15) rfl ?_); refine goesL_ (some 3) rfl rfl Try.func15 (by kernel_rfl) rfl #[.slice none 0 0] rfl (by (try simp only [List.map_toArray, List.map_cons, List.map_nil]); first | done | rfl | (simp only [List.length_drop, List.length_take]; rfl)) ?_; (refine (vad_Level.calls k _ _ ([] : List Int) t174 _ ?side1 ?side2 A3.out).mono ?_); (case side1 => exact Kd.C_nil _ _); (case side2 => exact Nat.le_refl _); rintro e w11 ⟨rfl, hb⟩; refine ⟨_, rfl, ?_⟩; have n0_ := Aside0.mk (below_step (by repeat (first | (with_reducible first | exact HB.out | apply below_alloc | apply pw_below_drewN | apply below_drew1) | exact HB.out)) hb); clear HB; have HB := n0_; clear n0_; (try clear hb); (try clear hb2); (try clear hk); (try clear hi); (try clear hge)) | (go_at_call 16; (with_reducible refine (vad_New.calls  t175 t176 w _ ?side1 A5.out).mono ?_); (case side1 => repeat (first | (with_reducible first | exact HB.out | apply below_alloc | apply pw_below_drewN | apply below_drew1) | exact HB.out)); rintro e w12 ⟨g177, rfl, hi, hb, hb2, hge⟩; have n0_ := Aside0.mk (hb); have n1_ := Aside0.mk (hi); clear HB; have HB := n0_; have HI177 := n1_; clear n0_ n1_; (try clear hb); (try clear hb2); (try clear hk); (try clear hi); (try clear hge)) | (go_at_call 17; (refine (vad_Meter_Each.calls k g177 t175 t176 _ _ ([] : List (List Int)) t178 t181 t182 w _ ?side1 ?side2 ?side3 ?side4 A6.out).mono ?_); (case side1 => repeat (first | (with_reducible first | exact HI177.out | apply IsS62.alloc | apply IsS62.drewN | apply IsS62.drew | apply IsS62.set_0 | apply IsS62.set_1) | exact HI177.out)); (case side2 => repeat (first | (with_reducible first | exact HB.out | apply below_alloc | apply pw_below_drewN | apply below_drew1 | refine below_set ?_ (IsS62.ge HI177.out)) | exact HB.out)); (case side3 => exact Kd.C_foot_nil); (case side4 => exact Nat.le_refl _); rintro e w13 ⟨v179, rfl, ho0, hi, hb, hk⟩; have n0_ := Aside0.mk (Kd.R_lower ho0 (below_size (by repeat (first | (with_reducible first | exact HB.out | apply below_alloc | apply pw_below_drewN | apply below_drew1 | refine below_set ?_ (IsS62.ge HI177.out)) | exact HB.out)))); have n1_ := Aside0.mk (hb); have n2_ := Aside0.mk (hi); clear HB; clear HI177; have HO180 := n0_; have HB := n1_; have HI177 := n2_; clear n0_ n1_ n2_; (try clear hb); (try clear hb2); (try clear hk); (try clear hi); (try clear hge); (try clear ho0); obtain ⟨Ao14, co14, eo14⟩ := Kd.R_slice HO180.out; subst eo14) | ((with_reducible refine gate_dst (N := 12) rfl ?_); (try (refine gate_guard (by rfl) ?_; dsimp only)); refine Kd.R_lit (Kd.int .i64) _ 2 ?hg (N := 12) ?hd (xs := ([1152921504606846976] : List Int)) (inner := [.int .i64 1152921504606846976]) (ok := fun _ => True) (okp := fun _ => True) ?hr ?hp (fun _ hk => hk) trivial (Below.refl _ _) (Nat.le_refl _) (by simp) ?_; (case hd => rfl); (case hg => rfl); (case hr => first | (go_simp; done) | (go_simp; rfl)); (case hp => exact (Reps.one (show Kd.M (Kd.int .i64) _ _ _ 1152921504606846976 [.int .i64 1152921504606846976] from rfl) (Reps.none _ _))); intro v184 w15 ho16 hb hg_ hnew_; clear hg_ hnew_; (first | rw [← Ny183.out] at ho16 | (simp only [Int.reduceToNat] at ho16; rw [← Ny183.out] at ho16)); have n0_ := Aside0.mk (Kd.R_below (by (with_reducible repeat (first | apply Kd.R_alloc | apply Kd.R_drewN | apply Kd.R_drew)); exact HO180.out) hb); have n1_ := Aside0.mk (Kd.R_lower ho16 (below_size (by repeat (first | (with_reducible first | exact HB.out | apply below_alloc | apply pw_below_drewN | apply below_drew1 | refine below_set ?_ (IsS62.ge HI177.out)) | exact HB.out)))); have n2_ := Aside0.mk (IsS62.below (by repeat (first | (with_reducible first | exact HI177.out | apply IsS62.alloc | apply IsS62.drewN | apply IsS62.drew | apply IsS62.set_0 | apply IsS62.set_1) | exact HI177.out)) hb); have n3_ := Aside0.mk (below_step (by repeat (first | (with_reducible first | exact HB.out | apply below_alloc | apply pw_below_drewN | apply below_drew1 | refine below_set ?_ (IsS62.ge HI177.out)) | exact HB.out)) hb); clear HO180; clear HI177; clear HB; have HO180 := n0_; have HO185 := n1_; have HI177 := n2_; have HB := n3_; clear n0_ n1_ n2_ n3_; clear hb ho16; obtain ⟨Ao17, co17, eo17⟩ := Kd.R_slice HO185.out; subst eo17) | (go_at_call 15; (with_reducible refine (vad_Level.calls k _ _ y183 t186 _ ?side1 ?side2 A8.out).mono ?_); (case side1 => repeat (first | exact (Kd.R_reads' HO185.out).2.2 | (with_reducible refine Kd.C_alloc ?_ _) | (with_reducible refine Kd.C_drewN ?_ _) | (with_reducible refine Kd.C_drew ?_))); (case side2 => exact (Kd.R_reads' HO185.out).2.1); rintro e w18 ⟨rfl, hb⟩; have n0_ := Aside0.mk (Kd.R_below (by (with_reducible repeat (first | apply Kd.R_alloc | apply Kd.R_drewN | apply Kd.R_drew)); exact HO180.out) hb); have n1_ := Aside0.mk (Kd.R_below (by (with_reducible repeat (first | apply Kd.R_alloc | apply Kd.R_drewN | apply Kd.R_drew)); exact HO185.out) hb); have n2_ := Aside0.mk (IsS62.below (by repeat (first | (with_reducible first | exact HI177.out | apply IsS62.alloc | apply IsS62.drewN | apply IsS62.drew | apply IsS62.set_0 | apply IsS62.set_1) | exact HI177.out)) hb); have n3_ := Aside0.mk (below_step (by repeat (first | (with_reducible first | exact HB.out | apply below_alloc | apply pw_below_drewN | apply below_drew1 | refine below_set ?_ (IsS62.ge HI177.out)) | exact HB.out)) hb); clear HO180; clear HO185; clear HI177; clear HB; have HO180 := n0_; have HO185 := n1_; have HI177 := n2_; have HB := n3_; clear n0_ n1_ n2_ n3_; (try clear hb); (try clear hb2); (try clear hk); (try clear hi); (try clear hge)) | ((with_reducible refine gate_dst (N := 14) rfl ?_); (try (refine gate_guard (by rfl) ?_; dsimp only)); refine Kd.R_lit (Kd.int .i64) _ 2 ?hg (N := 14) ?hd (xs := ([32767] : List Int)) (inner := [.int .i64 32767]) (ok := fun _ => True) (okp := fun _ => True) ?hr ?hp (fun _ hk => hk) trivial (Below.refl _ _) (Nat.le_refl _) (by simp) ?_; (case hd => rfl); (case hg => rfl); (case hr => first | (go_simp; done) | (go_simp; rfl)); (case hp => exact (Reps.one (show Kd.M (Kd.int .i64) _ _ _ 32767 [.int .i64 32767] from rfl) (Reps.none _ _))); intro v188 w19 ho20 hb hg_ hnew_; clear hg_ hnew_; (first | rw [← Ny187.out] at ho20 | (simp only [Int.reduceToNat] at ho20; rw [← Ny187.out] at ho20)); have n0_ := Aside0.mk (Kd.R_below (by (with_reducible repeat (first | apply Kd.R_alloc | apply Kd.R_drewN | apply Kd.R_drew)); exact HO180.out) hb); have n1_ := Aside0.mk (Kd.R_elder' (by (with_reducible repeat (first | apply Kd.R_alloc | apply Kd.R_drewN | apply Kd.R_drew)); exact HO185.out) (Kd.R_base ho20) hb); have n2_ := Aside0.mk (Kd.R_lower (Kd.R_new' ho20 (Kd.R_lt (by (with_reducible repeat (first | apply Kd.R_alloc | apply Kd.R_drewN | apply Kd.R_drew)); exact HO185.out))) (below_size (by repeat (first | (with_reducible first | exact HB.out | apply below_alloc | apply pw_below_drewN | apply below_drew1 | refine below_set ?_ (IsS62.ge HI177.out)) | exact HB.out)))); have n3_ := Aside0.mk (IsS62.below (by repeat (first | (with_reducible first | exact HI177.out | apply IsS62.alloc | apply IsS62.drewN | apply IsS62.drew | apply IsS62.set_0 | apply IsS62.set_1) | exact HI177.out)) hb); have n4_ := Aside0.mk (below_step (by repeat (first | (with_reducible first | exact HB.out | apply below_alloc | apply pw_below_drewN | apply below_drew1 | refine below_set ?_ (IsS62.ge HI177.out)) | exact HB.out)) hb); clear HO180; clear HO185; clear HI177; clear HB; have HO180 := n0_; have HO185 := n1_; have HO189 := n2_; have HI177 := n3_; have HB := n4_; clear n0_ n1_ n2_ n3_ n4_; clear hb ho20; obtain ⟨Ao21, co21, eo21⟩ := Kd.R_slice HO189.out; subst eo21) | (go_at_call 15; (with_reducible refine (vad_Level.calls k _ _ y187 t190 _ ?side1 ?side2 A9.out).mono ?_); (case side1 => repeat (first | exact (Kd.R_reads' HO189.out).2.2 | (with_reducible refine Kd.C_alloc ?_ _) | (with_reducible refine Kd.C_drewN ?_ _) | (with_reducible refine Kd.C_drew ?_))); (case side2 => exact (Kd.R_reads' HO189.out).2.1); rintro e w22 ⟨rfl, hb⟩; have n0_ := Aside0.mk (Kd.R_below (by (with_reducible repeat (first | apply Kd.R_alloc | apply Kd.R_drewN | apply Kd.R_drew)); exact HO180.out) hb); have n1_ := Aside0.mk (Kd.R_below (by (with_reducible repeat (first | apply Kd.R_alloc | apply Kd.R_drewN | apply Kd.R_drew)); exact HO185.out) hb); have n2_ := Aside0.mk (Kd.R_below (by (with_reducible repeat (first | apply Kd.R_alloc | apply Kd.R_drewN | apply Kd.R_drew)); exact HO189.out) hb); have n3_ := Aside0.mk (IsS62.below (by repeat (first | (with_reducible first | exact HI177.out | apply IsS62.alloc | apply IsS62.drewN | apply IsS62.drew | apply IsS62.set_0 | apply IsS62.set_1) | exact HI177.out)) hb); have n4_ := Aside0.mk (below_step (by repeat (first | (with_reducible first | exact HB.out | apply below_alloc | apply pw_below_drewN | apply below_drew1 | refine below_set ?_ (IsS62.ge HI177.out)) | exact HB.out)) hb); clear HO180; clear HO185; clear HO189; clear HI177; clear HB; have HO180 := n0_; have HO185 := n1_; have HO189 := n2_; have HI177 := n3_; have HB := n4_; clear n0_ n1_ n2_ n3_ n4_; (try clear hb); (try clear hb2); (try clear hk); (try clear hi); (try clear hge)))
        go_ret
        exact ⟨by first | rfl | (simp [errW_none, errW_some] <;> rfl) | (simp [*, errW_none, errW_some] <;> rfl), by repeat (first | (with_reducible first | exact HB.out | apply below_alloc | apply pw_below_drewN | apply below_drew1 | refine below_set ?_ (IsS62.ge HI177.out)) | exact HB.out)⟩
      · rw [if_neg c7] at H
        exact absurd H (by simp)
    · rw [if_neg c4] at H
      exact absurd H (by simp)
  · replace c2 := Bool.eq_false_iff.mpr c2
    subst c2
    have H1 : (none) = some r := by rw [if_neg (show ¬ (false = true) by decide)] at H; exact H
    clear H
    have H := H1
    clear H1
    exact absurd H (by simp)

/-- THE ONE PURE STATEMENT of madrigallaw13_VadKnown. -/
def madrigallaw13_VadKnown.Pure : Prop := ∃ k, madrigallaw13_VadKnown.f k  = some true
theorem madrigallaw13_VadKnown.walk (P : madrigallaw13_VadKnown.Pure)  (w : World)  :
    Calls Try.prog 3 #[] w fun e w' => e = .returned (.bool true) ∧ Below w.heap.size w w' := by
  obtain ⟨k, h⟩ := P  
  refine (madrigallaw13_VadKnown.calls k  true w h).mono ?_
  rintro e w' ⟨rfl, hd⟩
  exact ⟨rfl, hd⟩

end Go.Proofs.Ytdchabinakboeaa.P
