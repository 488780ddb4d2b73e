/- The machine side of the laws of one chapter, without conditions: each call of a Go function comes to what the Lean function of its name answers. Written for this claim by a program of the prover. -/
import Derived.Test.YtlhdoopmlpnhlaaPx0
import Derived.Test.YtlhdoopmlpnhlaaPx16
import Derived.Test.YtlhdoopmlpnhlaaPx24
namespace Go.Proofs.Ytlhdoopmlpnhlaa.P
open Go.RowKit Go.Proofs.YtlhdoopmlpnhlaaW.PrintWords Go.Proofs.YtlhdoopmlpnhlaaW.PrintLast Go.Proofs.YtlhdoopmlpnhlaaW.PrintMore
attribute [local go_sem] max2_int min2_int max_two min_two max_three min_three max_four min_four   -- for this text's walks alone
set_option linter.unusedVariables false
set_option linter.unusedSimpArgs false

/-! ### madrigalref1_quarter: function 38 -/
def madrigalref1_quarter.f (k : Nat) (a0 : Int) : Option (Int) := if a0 ≤ 8192 then ((madrigalref1_Mul.f k a0 1686629713 14).bind fun t186 => ((madrigalref1_Mul.f k t186 t186 30).bind fun t187 => ((madrigalref1_series.f k t187 (-296) (([26631, (-1491308), 44739243, (-536870912), 1073741824] : List Int))).bind fun t191 => ((madrigalref1_Mul.f k t191 1 15).bind fun t192 => (some t192))))) else ((madrigalref1_Mul.f k (wrap64 (16384 - a0)) 1686629713 14).bind fun t193 => ((madrigalref1_Mul.f k t193 t193 30).bind fun t194 => ((madrigalref1_series.f k t194 2959 (([(-213044), 8947849, (-178956971), 1073741824] : List Int))).bind fun t198 => ((madrigalref1_Mul.f k t193 t198 30).bind fun t199 => ((madrigalref1_Mul.f k t199 1 15).bind fun t200 => (some t200))))))
theorem madrigalref1_quarter.mono : ∀ a0 k, LeO (madrigalref1_quarter.f k a0) (madrigalref1_quarter.f (k + 1) a0) := by
  intro a0 k
  unfold madrigalref1_quarter.f
  repeat' first
      | (with_reducible exact madrigalref1_Mul.mono _ _ _ _)
      | (with_reducible exact madrigalref1_series.mono _ _ _ _)
      | (with_reducible exact LeO.refl _)
      | (with_reducible exact LeO.none _)
      | (with_reducible refine LeO.ite ?_ ?_)
      | (with_reducible refine LeO.bind ?_ (fun _ => ?_))
      | exact madrigalref1_Mul.mono _ _ _ _
      | exact madrigalref1_series.mono _ _ _ _
      | exact LeO.none _
      | refine LeO.ite ?_ ?_
      | refine LeO.bind ?_ (fun _ => ?_)
set_option maxHeartbeats 8000000 in
set_option maxRecDepth 100000 in
theorem madrigalref1_quarter.calls (k : Nat) (a0 : Int) (r : Int) (w : World) (h : madrigalref1_quarter.f k a0 = some r) :
    Calls Try.prog 38 #[.int .i64 a0] w fun e w' => e = .returned (.int .i64 r) ∧ Below w.heap.size w w' := by
  have HB := Aside0.mk (Below.refl w.heap.size w)
  have H : (if a0 ≤ 8192 then ((madrigalref1_Mul.f k a0 1686629713 14).bind fun t186 => ((madrigalref1_Mul.f k t186 t186 30).bind fun t187 => ((madrigalref1_series.f k t187 (-296) (([26631, (-1491308), 44739243, (-536870912), 1073741824] : List Int))).bind fun t191 => ((madrigalref1_Mul.f k t191 1 15).bind fun t192 => (some t192))))) else ((madrigalref1_Mul.f k (wrap64 (16384 - a0)) 1686629713 14).bind fun t193 => ((madrigalref1_Mul.f k t193 t193 30).bind fun t194 => ((madrigalref1_series.f k t194 2959 (([(-213044), 8947849, (-178956971), 1073741824] : List Int))).bind fun t198 => ((madrigalref1_Mul.f k t193 t198 30).bind fun t199 => ((madrigalref1_Mul.f k t199 1 15).bind fun t200 => (some t200))))))) = some r := h
  clear h
  by_cases c2 : a0 ≤ 8192
  · rw [if_pos c2] at H
    have c2b0 : decide (a0 ≤ 8192) = true := decide_eq_true c2
    clear c2
    replace H := Option.bind_eq_some_iff.mp H
    obtain ⟨t186, A30, H⟩ := H
    replace H : ((madrigalref1_Mul.f k t186 t186 30).bind fun t187 => ((madrigalref1_series.f k t187 (-296) (([26631, (-1491308), 44739243, (-536870912), 1073741824] : List Int))).bind fun t191 => ((madrigalref1_Mul.f k t191 1 15).bind fun t192 => (some t192)))) = some r := H
    have A3 := Aside0.mk A30
    clear A30
    replace H := Option.bind_eq_some_iff.mp H
    obtain ⟨t187, A40, H⟩ := H
    replace H : ((madrigalref1_series.f k t187 (-296) (([26631, (-1491308), 44739243, (-536870912), 1073741824] : List Int))).bind fun t191 => ((madrigalref1_Mul.f k t191 1 15).bind fun t192 => (some t192))) = some r := H
    have A4 := Aside0.mk A40
    clear A40
    obtain ⟨y188, hy188⟩ : ∃ y_ : List Int, y_ = (([26631, (-1491308), 44739243, (-536870912), 1073741824] : List Int)) := ⟨_, rfl⟩
    replace H : ((madrigalref1_series.f k t187 (-296) y188).bind fun t191 => ((madrigalref1_Mul.f k t191 1 15).bind fun t192 => (some t192))) = some r := by first | (rw [hy188]; with_reducible exact H) | (have H2_ := (Option.bind_some _ _).symm.trans H; rw [hy188]; with_reducible exact H2_) | (have H2_ := (Option.bind_some _ _).symm.trans H; with_reducible exact H2_) | with_reducible exact H | (rw [hy188]; exact H) | exact H
    have Ny188 := Aside0.mk hy188
    clear hy188
    replace H := Option.bind_eq_some_iff.mp H
    obtain ⟨t191, A50, H⟩ := H
    replace H : ((madrigalref1_Mul.f k t191 1 15).bind fun t192 => (some t192)) = some r := H
    have A5 := Aside0.mk A50
    clear A50
    replace H := Option.bind_eq_some_iff.mp H
    obtain ⟨t192, A60, H⟩ := H
    replace H : (some t192) = some r := H
    have A6 := Aside0.mk A60
    clear A60
    obtain rfl := Option.some.inj H
    go_enter Try.func38, Try.ntmps38
    go_wp2_with (first | ((with_reducible refine gate_callee (f := 24) rfl ?_); refine goesL_ (some 10) rfl rfl Try.func24 (by kernel_rfl) rfl #[.int .i64 a0, .int .i64 1686629713, .int .i64 14] rfl (by (try simp only [List.map_toArray, List.map_cons, List.map_nil]); first | done | rfl | (simp only [List.length_drop, List.length_take]; rfl)) ?_; (with_reducible refine (madrigalref1_Mul.calls k a0 1686629713 14 t186 _ A3.out).mono ?_); rintro e w' ⟨rfl, ⟨nd, rfl⟩⟩; refine ⟨_, rfl, ?_⟩) | ((with_reducible refine gate_callee (f := 24) rfl ?_); refine goesL_ (some 13) rfl rfl Try.func24 (by kernel_rfl) rfl #[.int .i64 t186, .int .i64 t186, .int .i64 30] rfl (by (try simp only [List.map_toArray, List.map_cons, List.map_nil]); first | done | rfl | (simp only [List.length_drop, List.length_take]; rfl)) ?_; (with_reducible refine (madrigalref1_Mul.calls k t186 t186 30 t187 _ A4.out).mono ?_); rintro e w' ⟨rfl, ⟨nd, rfl⟩⟩; refine ⟨_, rfl, ?_⟩) | ((with_reducible refine gate_dst (N := 15) rfl ?_); refine Kd.R_lit (Kd.int .i64) _ 2 ?hg (N := 15) ?hd (xs := ([26631, (-1491308), 44739243, (-536870912), 1073741824] : List Int)) (inner := [.int .i64 26631, .int .i64 (-1491308), .int .i64 44739243, .int .i64 (-536870912), .int .i64 1073741824]) (ok := fun _ => True) (okp := fun _ => True) ?hr ?hp (fun _ hk => hk) trivial (Below.refl _ _) (Nat.le_refl _) (by simp) ?_; (case hd => rfl); (case hg => rfl); (case hr => first | (go_simp; done) | (go_simp; rfl)); (case hp => exact (Reps.one (show Kd.M (Kd.int .i64) _ _ _ 26631 [.int .i64 26631] from rfl) (Reps.one (show Kd.M (Kd.int .i64) _ _ _ (-1491308) [.int .i64 (-1491308)] from rfl) (Reps.one (show Kd.M (Kd.int .i64) _ _ _ 44739243 [.int .i64 44739243] from rfl) (Reps.one (show Kd.M (Kd.int .i64) _ _ _ (-536870912) [.int .i64 (-536870912)] from rfl) (Reps.one (show Kd.M (Kd.int .i64) _ _ _ 1073741824 [.int .i64 1073741824] from rfl) (Reps.none _ _))))))); intro v189 w7 ho8 hb hg_ hnew_; clear hg_ hnew_; (first | rw [← Ny188.out] at ho8 | (simp only [Int.reduceToNat] at ho8; rw [← Ny188.out] at ho8)); have n0_ := Aside0.mk (Kd.R_lower ho8 (below_size (by repeat (first | (with_reducible first | exact HB.out | apply below_alloc | apply pw_below_drewN | apply below_drew1) | exact HB.out)))); have n1_ := Aside0.mk (below_step (by repeat (first | (with_reducible first | exact HB.out | apply below_alloc | apply pw_below_drewN | apply below_drew1) | exact HB.out)) hb); clear HB; have HO190 := n0_; have HB := n1_; clear n0_ n1_; clear hb ho8; obtain ⟨Ao9, co9, eo9⟩ := Kd.R_slice HO190.out; subst eo9) | ((with_reducible refine gate_callee (f := 39) rfl ?_); refine goesL_ (some 16) rfl rfl Try.func39 (by kernel_rfl) rfl #[.int .i64 t187, .int .i64 (-296), .slice Ao9 y188.length co9] rfl (by (try simp only [List.map_toArray, List.map_cons, List.map_nil]); first | done | rfl | (simp only [List.length_drop, List.length_take]; rfl)) ?_; (with_reducible refine (madrigalref1_series.calls k t187 (-296) _ _ y188 t191 _ ?side1 ?side2 A5.out).mono ?_); (case side1 => repeat (first | exact (Kd.R_reads' HO190.out).2.2 | (with_reducible refine Kd.C_alloc ?_ _) | (with_reducible refine Kd.C_drewN ?_ _) | (with_reducible refine Kd.C_drew ?_))); (case side2 => exact (Kd.R_reads' HO190.out).2.1); rintro e w' ⟨rfl, ⟨nd, rfl⟩⟩; refine ⟨_, rfl, ?_⟩) | ((with_reducible refine gate_callee (f := 24) rfl ?_); refine goesL_ (some 17) rfl rfl Try.func24 (by kernel_rfl) rfl #[.int .i64 t191, .int .i64 1, .int .i64 15] rfl (by (try simp only [List.map_toArray, List.map_cons, List.map_nil]); first | done | rfl | (simp only [List.length_drop, List.length_take]; rfl)) ?_; (with_reducible refine (madrigalref1_Mul.calls k t191 1 15 t192 _ A6.out).mono ?_); rintro e w' ⟨rfl, ⟨nd, rfl⟩⟩; refine ⟨_, rfl, ?_⟩))
    go_ret
    exact ⟨by first | rfl | (simp [errW_none, errW_some] <;> rfl) | (simp [*, errW_none, errW_some] <;> rfl), by repeat (first | (with_reducible first | exact HB.out | apply below_alloc | apply pw_below_drewN | apply below_drew1) | exact HB.out)⟩
  · rw [if_neg c2] at H
    have c2b0 : decide (a0 ≤ 8192) = false := decide_eq_false c2
    clear c2
    replace H := Option.bind_eq_some_iff.mp H
    obtain ⟨t193, A100, H⟩ := H
    replace H : ((madrigalref1_Mul.f k t193 t193 30).bind fun t194 => ((madrigalref1_series.f k t194 2959 (([(-213044), 8947849, (-178956971), 1073741824] : List Int))).bind fun t198 => ((madrigalref1_Mul.f k t193 t198 30).bind fun t199 => ((madrigalref1_Mul.f k t199 1 15).bind fun t200 => (some t200))))) = some r := H
    have A10 := Aside0.mk A100
    clear A100
    replace H := Option.bind_eq_some_iff.mp H
    obtain ⟨t194, A110, H⟩ := H
    replace H : ((madrigalref1_series.f k t194 2959 (([(-213044), 8947849, (-178956971), 1073741824] : List Int))).bind fun t198 => ((madrigalref1_Mul.f k t193 t198 30).bind fun t199 => ((madrigalref1_Mul.f k t199 1 15).bind fun t200 => (some t200)))) = some r := H
    have A11 := Aside0.mk A110
    clear A110
    obtain ⟨y195, hy195⟩ : ∃ y_ : List Int, y_ = (([(-213044), 8947849, (-178956971), 1073741824] : List Int)) := ⟨_, rfl⟩
    replace H : ((madrigalref1_series.f k t194 2959 y195).bind fun t198 => ((madrigalref1_Mul.f k t193 t198 30).bind fun t199 => ((madrigalref1_Mul.f k t199 1 15).bind fun t200 => (some t200)))) = some r := by first | (rw [hy195]; with_reducible exact H) | (have H2_ := (Option.bind_some _ _).symm.trans H; rw [hy195]; with_reducible exact H2_) | (have H2_ := (Option.bind_some _ _).symm.trans H; with_reducible exact H2_) | with_reducible exact H | (rw [hy195]; exact H) | exact H
    have Ny195 := Aside0.mk hy195
    clear hy195
    replace H := Option.bind_eq_some_iff.mp H
    obtain ⟨t198, A120, H⟩ := H
    replace H : ((madrigalref1_Mul.f k t193 t198 30).bind fun t199 => ((madrigalref1_Mul.f k t199 1 15).bind fun t200 => (some t200))) = some r := H
    have A12 := Aside0.mk A120
    clear A120
    replace H := Option.bind_eq_some_iff.mp H
    obtain ⟨t199, A130, H⟩ := H
    replace H : ((madrigalref1_Mul.f k t199 1 15).bind fun t200 => (some t200)) = some r := H
    have A13 := Aside0.mk A130
    clear A130
    replace H := Option.bind_eq_some_iff.mp H
    obtain ⟨t200, A140, H⟩ := H
    replace H : (some t200) = some r := H
    have A14 := Aside0.mk A140
    clear A140
    obtain rfl := Option.some.inj H
    go_enter Try.func38, Try.ntmps38
    go_wp2_with (first | ((with_reducible refine gate_callee (f := 24) rfl ?_); refine goesL_ (some 20) rfl rfl Try.func24 (by kernel_rfl) rfl #[.int .i64 (wrap64 (16384 - a0)), .int .i64 1686629713, .int .i64 14] rfl (by (try simp only [List.map_toArray, List.map_cons, List.map_nil]); first | done | rfl | (simp only [List.length_drop, List.length_take]; rfl)) ?_; (with_reducible refine (madrigalref1_Mul.calls k (wrap64 (16384 - a0)) 1686629713 14 t193 _ A10.out).mono ?_); rintro e w' ⟨rfl, ⟨nd, rfl⟩⟩; refine ⟨_, rfl, ?_⟩) | ((with_reducible refine gate_callee (f := 24) rfl ?_); refine goesL_ (some 23) rfl rfl Try.func24 (by kernel_rfl) rfl #[.int .i64 t193, .int .i64 t193, .int .i64 30] rfl (by (try simp only [List.map_toArray, List.map_cons, List.map_nil]); first | done | rfl | (simp only [List.length_drop, List.length_take]; rfl)) ?_; (with_reducible refine (madrigalref1_Mul.calls k t193 t193 30 t194 _ A11.out).mono ?_); rintro e w' ⟨rfl, ⟨nd, rfl⟩⟩; refine ⟨_, rfl, ?_⟩) | ((with_reducible refine gate_dst (N := 26) rfl ?_); refine Kd.R_lit (Kd.int .i64) _ 2 ?hg (N := 26) ?hd (xs := ([(-213044), 8947849, (-178956971), 1073741824] : List Int)) (inner := [.int .i64 (-213044), .int .i64 8947849, .int .i64 (-178956971), .int .i64 1073741824]) (ok := fun _ => True) (okp := fun _ => True) ?hr ?hp (fun _ hk => hk) trivial (Below.refl _ _) (Nat.le_refl _) (by simp) ?_; (case hd => rfl); (case hg => rfl); (case hr => first | (go_simp; done) | (go_simp; rfl)); (case hp => exact (Reps.one (show Kd.M (Kd.int .i64) _ _ _ (-213044) [.int .i64 (-213044)] from rfl) (Reps.one (show Kd.M (Kd.int .i64) _ _ _ 8947849 [.int .i64 8947849] from rfl) (Reps.one (show Kd.M (Kd.int .i64) _ _ _ (-178956971) [.int .i64 (-178956971)] from rfl) (Reps.one (show Kd.M (Kd.int .i64) _ _ _ 1073741824 [.int .i64 1073741824] from rfl) (Reps.none _ _)))))); intro v196 w15 ho16 hb hg_ hnew_; clear hg_ hnew_; (first | rw [← Ny195.out] at ho16 | (simp only [Int.reduceToNat] at ho16; rw [← Ny195.out] at ho16)); have n0_ := Aside0.mk (Kd.R_lower ho16 (below_size (by repeat (first | (with_reducible first | exact HB.out | apply below_alloc | apply pw_below_drewN | apply below_drew1) | exact HB.out)))); have n1_ := Aside0.mk (below_step (by repeat (first | (with_reducible first | exact HB.out | apply below_alloc | apply pw_below_drewN | apply below_drew1) | exact HB.out)) hb); clear HB; have HO197 := n0_; have HB := n1_; clear n0_ n1_; clear hb ho16; obtain ⟨Ao17, co17, eo17⟩ := Kd.R_slice HO197.out; subst eo17) | ((with_reducible refine gate_callee (f := 39) rfl ?_); refine goesL_ (some 27) rfl rfl Try.func39 (by kernel_rfl) rfl #[.int .i64 t194, .int .i64 2959, .slice Ao17 y195.length co17] rfl (by (try simp only [List.map_toArray, List.map_cons, List.map_nil]); first | done | rfl | (simp only [List.length_drop, List.length_take]; rfl)) ?_; (with_reducible refine (madrigalref1_series.calls k t194 2959 _ _ y195 t198 _ ?side1 ?side2 A12.out).mono ?_); (case side1 => repeat (first | exact (Kd.R_reads' HO197.out).2.2 | (with_reducible refine Kd.C_alloc ?_ _) | (with_reducible refine Kd.C_drewN ?_ _) | (with_reducible refine Kd.C_drew ?_))); (case side2 => exact (Kd.R_reads' HO197.out).2.1); rintro e w' ⟨rfl, ⟨nd, rfl⟩⟩; refine ⟨_, rfl, ?_⟩) | ((with_reducible refine gate_callee (f := 24) rfl ?_); refine goesL_ (some 28) rfl rfl Try.func24 (by kernel_rfl) rfl #[.int .i64 t193, .int .i64 t198, .int .i64 30] rfl (by (try simp only [List.map_toArray, List.map_cons, List.map_nil]); first | done | rfl | (simp only [List.length_drop, List.length_take]; rfl)) ?_; (with_reducible refine (madrigalref1_Mul.calls k t193 t198 30 t199 _ A13.out).mono ?_); rintro e w' ⟨rfl, ⟨nd, rfl⟩⟩; refine ⟨_, rfl, ?_⟩) | ((with_reducible refine gate_callee (f := 24) rfl ?_); refine goesL_ (some 29) rfl rfl Try.func24 (by kernel_rfl) rfl #[.int .i64 t199, .int .i64 1, .int .i64 15] rfl (by (try simp only [List.map_toArray, List.map_cons, List.map_nil]); first | done | rfl | (simp only [List.length_drop, List.length_take]; rfl)) ?_; (with_reducible refine (madrigalref1_Mul.calls k t199 1 15 t200 _ A14.out).mono ?_); rintro e w' ⟨rfl, ⟨nd, rfl⟩⟩; refine ⟨_, rfl, ?_⟩))
    go_ret
    exact ⟨by first | rfl | (simp [errW_none, errW_some] <;> rfl) | (simp [*, errW_none, errW_some] <;> rfl), by repeat (first | (with_reducible first | exact HB.out | apply below_alloc | apply pw_below_drewN | apply below_drew1) | exact HB.out)⟩

end Go.Proofs.Ytlhdoopmlpnhlaa.P
