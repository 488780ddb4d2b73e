/- The machine side of the laws of one chapter, without conditions: each call of a Go function comes to what the Lean function of its name answers. Written for this claim by a program of the prover. -/
import Derived.Test.YtdchabinakboeaaPx0
import Derived.Test.YtdchabinakboeaaPx25
import Derived.Test.YtdchabinakboeaaPx29
import Derived.Test.YtdchabinakboeaaPx31
import Derived.Test.YtdchabinakboeaaPx34
namespace Go.Proofs.Ytdchabinakboeaa.P
open Go.RowKit Go.Proofs.YtdchabinakboeaaW.PrintWords Go.Proofs.YtdchabinakboeaaW.PrintLast Go.Proofs.YtdchabinakboeaaW.PrintMore
attribute [local go_sem] max2_int min2_int max_two min_two max_three min_three max_four min_four   -- for this text's walks alone
set_option linter.unusedVariables false
set_option linter.unusedSimpArgs false

/-! ### madrigallaw6_LsfOwn: function 13 -/
mutual
def madrigallaw6_LsfOwn.j0 : Nat → Int → Int → Bool → Option (Bool)
  | 0, _, _, _ => none
  | k + 1, x0, x1, x26 => if x26 = true then (some true) else (if 0 ≤ x0 then (if (x0 : Int).toNat ≤ 35184372088832 then ((lsf_Decode.f k x0 x1 (List.replicate (x0 : Int).toNat 0)).bind fun bt620 => ((lsf_Search.f k x0 bt620.1).bind fun bt624 => (if bt620.2 = 0 then (if bt624.2.2 = 0 then (madrigallaw6_LsfOwn.j1 k x0 bt620.1 ((bt624.2.1.length : Int) != x0) bt624.1 bt624.2.1) else (madrigallaw6_LsfOwn.j1 k x0 bt620.1 true bt624.1 bt624.2.1)) else (madrigallaw6_LsfOwn.j1 k x0 bt620.1 true bt624.1 bt624.2.1)))) else (none)) else (none))
def madrigallaw6_LsfOwn.j1 : Nat → Int → List Int → Bool → Int → List Int → Option (Bool)
  | 0, _, _, _, _, _ => none
  | k + 1, x0, x5, x54, x630000, x630001 => if x54 = true then (none) else ((lsf_Decode.f k x0 x630000 x630001).bind fun bt630 => (if bt630.2 = 0 then ((madrigallaw6_same.f k bt630.1 x5).bind fun t634 => (some t634)) else (none)))
end
def madrigallaw6_LsfOwn.f (k : Nat) (a0 : Int) (a1 : Int) : Option (Bool) := (madrigallaw6_awake.f k).bind fun t616 => (if t616 = true then (if a0 = 10 then (if a1 < 0 then (madrigallaw6_LsfOwn.j0 k a0 a1 true) else (madrigallaw6_LsfOwn.j0 k a0 a1 (decide (a1 > 15)))) else (if a0 = 16 then (if a1 < 0 then (madrigallaw6_LsfOwn.j0 k a0 a1 true) else (madrigallaw6_LsfOwn.j0 k a0 a1 (decide (a1 > 15)))) else (madrigallaw6_LsfOwn.j0 k a0 a1 true))) else (none))
theorem madrigallaw6_LsfOwn.mono_l : ∀ k, (∀ y0 y1 y2, LeO (madrigallaw6_LsfOwn.j0 k y0 y1 y2) (madrigallaw6_LsfOwn.j0 (k + 1) y0 y1 y2)) ∧ (∀ y0 y1 y2 y3 y4, LeO (madrigallaw6_LsfOwn.j1 k y0 y1 y2 y3 y4) (madrigallaw6_LsfOwn.j1 (k + 1) y0 y1 y2 y3 y4))
  | 0 => ⟨fun _ _ _ r h => by simp [madrigallaw6_LsfOwn.j0] at h, fun _ _ _ _ _ r h => by simp [madrigallaw6_LsfOwn.j1] at h⟩
  | k + 1 => by
    obtain ⟨ih0, ih1⟩ := madrigallaw6_LsfOwn.mono_l k
    refine ⟨?_, ?_⟩
    · intro y0 y1 y2
      unfold madrigallaw6_LsfOwn.j0
      repeat' first
      | (with_reducible exact ih0 _ _ _)
      | (with_reducible exact ih1 _ _ _ _ _)
      | (with_reducible exact lsf_Decode.mono _ _ _ _)
      | (with_reducible exact lsf_Search.mono _ _ _)
      | (with_reducible exact madrigallaw6_awake.mono _)
      | (with_reducible exact madrigallaw6_same.mono _ _ _)
      | (with_reducible exact LeO.refl _)
      | (with_reducible exact LeO.none _)
      | (with_reducible refine LeO.ite ?_ ?_)
      | (with_reducible refine LeO.bind ?_ (fun _ => ?_))
      | exact ih0 _ _ _
      | exact ih1 _ _ _ _ _
      | exact lsf_Decode.mono _ _ _ _
      | exact lsf_Search.mono _ _ _
      | exact madrigallaw6_awake.mono _
      | exact madrigallaw6_same.mono _ _ _
      | exact LeO.none _
      | refine LeO.ite ?_ ?_
      | refine LeO.bind ?_ (fun _ => ?_)
    · intro y0 y1 y2 y3 y4
      unfold madrigallaw6_LsfOwn.j1
      repeat' first
      | (with_reducible exact ih0 _ _ _)
      | (with_reducible exact ih1 _ _ _ _ _)
      | (with_reducible exact lsf_Decode.mono _ _ _ _)
      | (with_reducible exact lsf_Search.mono _ _ _)
      | (with_reducible exact madrigallaw6_awake.mono _)
      | (with_reducible exact madrigallaw6_same.mono _ _ _)
      | (with_reducible exact LeO.refl _)
      | (with_reducible exact LeO.none _)
      | (with_reducible refine LeO.ite ?_ ?_)
      | (with_reducible refine LeO.bind ?_ (fun _ => ?_))
      | exact ih0 _ _ _
      | exact ih1 _ _ _ _ _
      | exact lsf_Decode.mono _ _ _ _
      | exact lsf_Search.mono _ _ _
      | exact madrigallaw6_awake.mono _
      | exact madrigallaw6_same.mono _ _ _
      | exact LeO.none _
      | refine LeO.ite ?_ ?_
      | refine LeO.bind ?_ (fun _ => ?_)
theorem madrigallaw6_LsfOwn.mono : ∀ a0 a1 k, LeO (madrigallaw6_LsfOwn.f k a0 a1) (madrigallaw6_LsfOwn.f (k + 1) a0 a1) := by
  intro a0 a1 k
  obtain ⟨ih0, ih1⟩ := madrigallaw6_LsfOwn.mono_l k
  unfold madrigallaw6_LsfOwn.f
  repeat' first
      | (with_reducible exact ih0 _ _ _)
      | (with_reducible exact ih1 _ _ _ _ _)
      | (with_reducible exact lsf_Decode.mono _ _ _ _)
      | (with_reducible exact lsf_Search.mono _ _ _)
      | (with_reducible exact madrigallaw6_awake.mono _)
      | (with_reducible exact madrigallaw6_same.mono _ _ _)
      | (with_reducible exact LeO.refl _)
      | (with_reducible exact LeO.none _)
      | (with_reducible refine LeO.ite ?_ ?_)
      | (with_reducible refine LeO.bind ?_ (fun _ => ?_))
      | exact ih0 _ _ _
      | exact ih1 _ _ _ _ _
      | exact lsf_Decode.mono _ _ _ _
      | exact lsf_Search.mono _ _ _
      | exact madrigallaw6_awake.mono _
      | exact madrigallaw6_same.mono _ _ _
      | exact LeO.none _
      | refine LeO.ite ?_ ?_
      | refine LeO.bind ?_ (fun _ => ?_)
set_option maxHeartbeats 8000000 in
set_option maxRecDepth 100000 in
theorem madrigallaw6_LsfOwn.calls (k : Nat) (a0 : Int) (a1 : Int) (r : Bool) (w : World) (h : madrigallaw6_LsfOwn.f k a0 a1 = some r) :
    Calls Try.prog 13 #[.int .i64 a0, .int .i64 a1] w fun e w' => e = .returned (.bool r) ∧ Below w.heap.size w w' := by
  have hu42 := Try.underlying42
  have HB := Aside0.mk (Below.refl w.heap.size w)
  have H : ((madrigallaw6_awake.f k).bind fun t616 => (if t616 = true then (if a0 = 10 then (if a1 < 0 then (madrigallaw6_LsfOwn.j0 k a0 a1 true) else (madrigallaw6_LsfOwn.j0 k a0 a1 (decide (a1 > 15)))) else (if a0 = 16 then (if a1 < 0 then (madrigallaw6_LsfOwn.j0 k a0 a1 true) else (madrigallaw6_LsfOwn.j0 k a0 a1 (decide (a1 > 15)))) else (madrigallaw6_LsfOwn.j0 k a0 a1 true))) else (none))) = some r := h
  clear h
  replace H := Option.bind_eq_some_iff.mp H
  obtain ⟨t616, A30, H⟩ := H
  replace H : (if t616 = true then (if a0 = 10 then (if a1 < 0 then (madrigallaw6_LsfOwn.j0 k a0 a1 true) else (madrigallaw6_LsfOwn.j0 k a0 a1 (decide (a1 > 15)))) else (if a0 = 16 then (if a1 < 0 then (madrigallaw6_LsfOwn.j0 k a0 a1 true) else (madrigallaw6_LsfOwn.j0 k a0 a1 (decide (a1 > 15)))) else (madrigallaw6_LsfOwn.j0 k a0 a1 true))) else (none)) = some r := H
  have A3 := Aside0.mk A30
  clear A30
  by_cases c4 : t616 = true
  · subst c4
    have H1 : (if a0 = 10 then (if a1 < 0 then (madrigallaw6_LsfOwn.j0 k a0 a1 true) else (madrigallaw6_LsfOwn.j0 k a0 a1 (decide (a1 > 15)))) else (if a0 = 16 then (if a1 < 0 then (madrigallaw6_LsfOwn.j0 k a0 a1 true) else (madrigallaw6_LsfOwn.j0 k a0 a1 (decide (a1 > 15)))) else (madrigallaw6_LsfOwn.j0 k a0 a1 true))) = some r := by rw [if_pos rfl] at H; exact H
    clear H
    have H := H1
    clear H1
    have HC5 := Aside0.mk H
    clear H
    go_enter Try.func13, Try.ntmps13
    go_upto_region 3 with (first | ((with_reducible refine gate_callee (f := 22) rfl ?_); refine goesL_ (some 11) rfl rfl Try.func22 (by kernel_rfl) rfl #[] rfl (by (try simp only [List.map_toArray, List.map_cons, List.map_nil]); first | done | rfl | (simp only [List.length_drop, List.length_take]; rfl)) ?_; (with_reducible refine (madrigallaw6_awake.calls k  true _ A3.out).mono ?_); rintro e w6 ⟨rfl, hb⟩; refine ⟨_, rfl, ?_⟩; have n0_ := Aside0.mk (below_step (by repeat (first | (with_reducible first | exact HB.out | apply below_alloc | apply pw_below_drewN | apply below_drew1) | exact HB.out)) hb); clear HB; have HB := n0_; clear n0_; (try clear hb); (try clear hb2); (try clear hk); (try clear hi); (try clear hge)))
    (try simp only [Act.put, List.setIfInBounds_toArray, List.set_cons_zero, List.set_cons_succ])
    go_cut [26] (fun v26 wc => ∃ (kq : Nat) (x26_4 : Bool), v26 = .bool x26_4 ∧ Aside0 (madrigallaw6_LsfOwn.j0 kq a0 a1 x26_4 = some r) ∧ Aside0 (kq ≤ k) ∧ Aside0 (Below w.heap.size w wc))
    case first =>
      have H := HC5.out
      clear HC5
      by_cases c7 : a0 = 10
      · rw [if_pos c7] at H
        have c7b0 : (a0 == 10) = true := beq_iff_eq.mpr c7
        have c7b1 : (a0 != 10) = false := bne_eq_false_iff_eq.mpr c7
        clear c7
        (first | rw [c7b0] | (simp only [i64_w, i32_w]; rw [c7b0]) | skip)
        by_cases c8 : a1 < 0
        · rw [if_pos c8] at H
          have c8b0 : decide (a1 < 0) = true := decide_eq_true c8
          clear c8
          have H' := Aside0.mk H
          clear H
          go_wp2
          go_meet
          case rel => exact ⟨_, (true), (by first | rfl | (simp; done) | (simp [*]; done)), H', ⟨by first | omega | exact Nat.le_refl _⟩, ⟨by repeat (first | (with_reducible first | exact HB.out | apply below_alloc | apply pw_below_drewN | apply below_drew1) | exact HB.out)⟩⟩
        · rw [if_neg c8] at H
          have c8b0 : decide (a1 < 0) = false := decide_eq_false c8
          clear c8
          have H' := Aside0.mk H
          clear H
          go_wp2
          go_meet
          case rel => exact ⟨_, (decide (a1 > 15)), (by first | rfl | (simp; done) | (simp [*]; done)), H', ⟨by first | omega | exact Nat.le_refl _⟩, ⟨by repeat (first | (with_reducible first | exact HB.out | apply below_alloc | apply pw_below_drewN | apply below_drew1) | exact HB.out)⟩⟩
      · rw [if_neg c7] at H
        have c7b0 : (a0 == 10) = false := beq_eq_false_iff_ne.mpr c7
        have c7b1 : (a0 != 10) = true := bne_iff_ne.mpr c7
        (first | rw [c7b0] | (simp only [i64_w, i32_w]; rw [c7b0]) | skip)
        by_cases c9 : a0 = 16
        · rw [if_pos c9] at H
          have c9b0 : (a0 == 16) = true := beq_iff_eq.mpr c9
          have c9b1 : (a0 != 16) = false := bne_eq_false_iff_eq.mpr c9
          clear c9
          by_cases c10 : a1 < 0
          · rw [if_pos c10] at H
            have c10b0 : decide (a1 < 0) = true := decide_eq_true c10
            clear c10
            have H' := Aside0.mk H
            clear H
            go_wp2
            go_meet
            case rel => exact ⟨_, (true), (by first | rfl | (simp; done) | (simp [*]; done)), H', ⟨by first | omega | exact Nat.le_refl _⟩, ⟨by repeat (first | (with_reducible first | exact HB.out | apply below_alloc | apply pw_below_drewN | apply below_drew1) | exact HB.out)⟩⟩
          · rw [if_neg c10] at H
            have c10b0 : decide (a1 < 0) = false := decide_eq_false c10
            clear c10
            have H' := Aside0.mk H
            clear H
            go_wp2
            go_meet
            case rel => exact ⟨_, (decide (a1 > 15)), (by first | rfl | (simp; done) | (simp [*]; done)), H', ⟨by first | omega | exact Nat.le_refl _⟩, ⟨by repeat (first | (with_reducible first | exact HB.out | apply below_alloc | apply pw_below_drewN | apply below_drew1) | exact HB.out)⟩⟩
        · rw [if_neg c9] at H
          have c9b0 : (a0 == 16) = false := beq_eq_false_iff_ne.mpr c9
          have c9b1 : (a0 != 16) = true := bne_iff_ne.mpr c9
          have H' := Aside0.mk H
          clear H
          go_wp2
          go_meet
          case rel => exact ⟨_, (true), (by first | rfl | (simp; done) | (simp [*]; done)), H', ⟨by first | omega | exact Nat.le_refl _⟩, ⟨by repeat (first | (with_reducible first | exact HB.out | apply below_alloc | apply pw_below_drewN | apply below_drew1) | exact HB.out)⟩⟩
    case rest =>
      clear HC5
      try clear c1
      try clear c2
      try clear p2
      try clear c4
      try clear c7
      try clear c7b0
      try clear c7b1
      try clear c8
      try clear c8b0
      try clear c9
      try clear c9b0
      try clear c9b1
      try clear c10
      try clear c10b0
      obtain ⟨kq, x26_4, rfl, HA, HJ4, HB⟩ := hcut
      (try simp only [i64_w, i32_w])
      cases kq with
      | zero => exact absurd HA.out (by simp [madrigallaw6_LsfOwn.j0])
      | succ kj4 =>
        have H := HA.out
        clear HA
        simp only [madrigallaw6_LsfOwn.j0] at H
        by_cases c11 : x26_4 = true
        · subst c11
          have H1 : (some true) = some r := by rw [if_pos rfl] at H; exact H
          clear H
          have H := H1
          clear H1
          obtain rfl := Option.some.inj H
          go_wp2
          go_ret
          exact ⟨by first | rfl | (simp [errW_none, errW_some] <;> rfl) | (simp [*, errW_none, errW_some] <;> rfl), by repeat (first | (with_reducible first | exact HB.out | apply below_alloc | apply pw_below_drewN | apply below_drew1) | exact HB.out)⟩
        · replace c11 := Bool.eq_false_iff.mpr c11
          subst c11
          have H1 : (if 0 ≤ a0 then (if (a0 : Int).toNat ≤ 35184372088832 then ((lsf_Decode.f kj4 a0 a1 (List.replicate (a0 : Int).toNat 0)).bind fun bt620 => ((lsf_Search.f kj4 a0 bt620.1).bind fun bt624 => (if bt620.2 = 0 then (if bt624.2.2 = 0 then (madrigallaw6_LsfOwn.j1 kj4 a0 bt620.1 ((bt624.2.1.length : Int) != a0) bt624.1 bt624.2.1) else (madrigallaw6_LsfOwn.j1 kj4 a0 bt620.1 true bt624.1 bt624.2.1)) else (madrigallaw6_LsfOwn.j1 kj4 a0 bt620.1 true bt624.1 bt624.2.1)))) else (none)) else (none)) = some r := by rw [if_neg (show ¬ (false = true) by decide)] at H; exact H
          clear H
          have H := H1
          clear H1
          by_cases c12 : 0 ≤ a0
          · rw [if_pos c12] at H
            have c12b0 := eq_true c12
            have c12b1 : decide (0 ≤ a0) = true := decide_eq_true c12
            clear c12
            by_cases c13 : (a0 : Int).toNat ≤ 35184372088832
            · rw [if_pos c13] at H
              have c13b0 := eq_true c13
              have c13b1 : decide ((a0 : Int).toNat ≤ 35184372088832) = true := decide_eq_true c13
              clear c13
              obtain ⟨y617, hy617⟩ : ∃ y_ : List Int, y_ = (List.replicate (a0 : Int).toNat 0) := ⟨_, rfl⟩
              replace H : ((lsf_Decode.f kj4 a0 a1 y617).bind fun bt620 => ((lsf_Search.f kj4 a0 bt620.1).bind fun bt624 => (if bt620.2 = 0 then (if bt624.2.2 = 0 then (madrigallaw6_LsfOwn.j1 kj4 a0 bt620.1 ((bt624.2.1.length : Int) != a0) bt624.1 bt624.2.1) else (madrigallaw6_LsfOwn.j1 kj4 a0 bt620.1 true bt624.1 bt624.2.1)) else (madrigallaw6_LsfOwn.j1 kj4 a0 bt620.1 true bt624.1 bt624.2.1)))) = some r := by first | (rw [hy617]; with_reducible exact H) | (have H2_ := (Option.bind_some _ _).symm.trans H; rw [hy617]; with_reducible exact H2_) | (have H2_ := (Option.bind_some _ _).symm.trans H; with_reducible exact H2_) | with_reducible exact H | (rw [hy617]; exact H) | exact H
              have Ny617 := Aside0.mk hy617
              clear hy617
              replace H := Option.bind_eq_some_iff.mp H
              obtain ⟨⟨t620, t623⟩, A140, H⟩ := H
              replace H : ((lsf_Search.f kj4 a0 t620).bind fun bt624 => (if t623 = 0 then (if bt624.2.2 = 0 then (madrigallaw6_LsfOwn.j1 kj4 a0 t620 ((bt624.2.1.length : Int) != a0) bt624.1 bt624.2.1) else (madrigallaw6_LsfOwn.j1 kj4 a0 t620 true bt624.1 bt624.2.1)) else (madrigallaw6_LsfOwn.j1 kj4 a0 t620 true bt624.1 bt624.2.1))) = some r := H
              have A14 := Aside0.mk A140
              clear A140
              replace H := Option.bind_eq_some_iff.mp H
              obtain ⟨⟨t624, t625, t628⟩, A150, H⟩ := H
              replace H : (if t623 = 0 then (if t628 = 0 then (madrigallaw6_LsfOwn.j1 kj4 a0 t620 ((t625.length : Int) != a0) t624 t625) else (madrigallaw6_LsfOwn.j1 kj4 a0 t620 true t624 t625)) else (madrigallaw6_LsfOwn.j1 kj4 a0 t620 true t624 t625)) = some r := H
              have A15 := Aside0.mk A150
              clear A150
              have HC16 := Aside0.mk H
              clear H
              go_upto_region 7 with (first | ((with_reducible refine gate_dst (N := 31) rfl ?_); (try (refine gate_guard (by rfl) ?_; dsimp only)); refine Kd.R_make (Kd.int .i64) _ 3 rfl (N := 31) rfl 40 _ _ rfl a0 rfl rfl Try.underlying40 (.int .i64 0) 8 info3 rfl (by decide) (by omega) 0 (ok := fun _ => True) (okp := fun _ => True) rfl (fun _ hk => hk) trivial (of_decide_eq_true (by first | (with_reducible assumption) | assumption)) (Nat.le_trans (Nat.mul_le_mul_right _ (of_decide_eq_true (by first | (with_reducible assumption) | assumption) : a0.toNat ≤ 35184372088832)) (by omega)) (Below.refl _ _) (Nat.le_refl _) ?_; intro v618 w17 ho18 hb hg_ hnew_; clear hg_ hnew_; (first | rw [← Ny617.out] at ho18 | (simp only [Int.reduceToNat] at ho18; rw [← Ny617.out] at ho18)); have n0_ := Aside0.mk (Kd.R_lower ho18 (below_size (by repeat (first | (with_reducible first | exact HB.out | apply below_alloc | apply pw_below_drewN | apply below_drew1) | exact HB.out)))); have n1_ := Aside0.mk (below_step (by repeat (first | (with_reducible first | exact HB.out | apply below_alloc | apply pw_below_drewN | apply below_drew1) | exact HB.out)) hb); clear HB; have HO619 := n0_; have HB := n1_; clear n0_ n1_; clear hb ho18; obtain ⟨Ao19, co19, eo19⟩ := Kd.R_slice HO619.out; subst eo19) | ((with_reducible refine gate_callee (f := 23) rfl ?_); refine goesL_ (some 33) rfl rfl Try.func23 (by kernel_rfl) rfl #[.int .i64 a0, .agg #[.int .i64 a1, .slice Ao19 y617.length co19]] rfl (by (try simp only [List.map_toArray, List.map_cons, List.map_nil]); first | done | rfl | (simp only [List.length_drop, List.length_take]; rfl)) ?_; (with_reducible refine (lsf_Decode.calls kj4 a0 a1 _ _ y617 t620 t623 _ ?side1 ?side2 A14.out).mono ?_); (case side1 => repeat (first | exact (Kd.R_reads' HO619.out).2.2 | (with_reducible refine Kd.C_alloc ?_ _) | (with_reducible refine Kd.C_drewN ?_ _) | (with_reducible refine Kd.C_drew ?_))); (case side2 => exact (Kd.R_reads' HO619.out).2.1); rintro e w20 ⟨v621, rfl, ho0, hb⟩; refine ⟨_, rfl, ?_⟩; have n0_ := Aside0.mk (Kd.R_below (by (with_reducible repeat (first | apply Kd.R_alloc | apply Kd.R_drewN | apply Kd.R_drew)); exact HO619.out) hb); have n1_ := Aside0.mk (Kd.R_lower ho0 (below_size (by repeat (first | (with_reducible first | exact HB.out | apply below_alloc | apply pw_below_drewN | apply below_drew1) | exact HB.out)))); have n2_ := Aside0.mk (below_step (by repeat (first | (with_reducible first | exact HB.out | apply below_alloc | apply pw_below_drewN | apply below_drew1) | exact HB.out)) hb); clear HO619; clear HB; have HO619 := n0_; have HO622 := n1_; have HB := n2_; clear n0_ n1_ n2_; (try clear hb); (try clear hb2); (try clear hk); (try clear hi); (try clear hge); (try clear ho0); obtain ⟨Ao21, co21, eo21⟩ := Kd.R_slice HO622.out; subst eo21) | ((with_reducible refine gate_callee (f := 25) rfl ?_); refine goesL_ (some 39) rfl rfl Try.func25 (by kernel_rfl) rfl #[.int .i64 a0, .slice Ao21 t620.length co21] rfl (by (try simp only [List.map_toArray, List.map_cons, List.map_nil]); first | done | rfl | (simp only [List.length_drop, List.length_take]; rfl)) ?_; (with_reducible refine (lsf_Search.calls kj4 a0 _ _ t620 t624 t625 t628 _ ?side1 ?side2 A15.out).mono ?_); (case side1 => repeat (first | exact (Kd.R_reads' HO622.out).2.2 | (with_reducible refine Kd.C_alloc ?_ _) | (with_reducible refine Kd.C_drewN ?_ _) | (with_reducible refine Kd.C_drew ?_))); (case side2 => exact (Kd.R_reads' HO622.out).2.1); rintro e w22 ⟨v626, rfl, ho0, hb⟩; refine ⟨_, rfl, ?_⟩; have n0_ := Aside0.mk (Kd.R_elder' (by (with_reducible repeat (first | apply Kd.R_alloc | apply Kd.R_drewN | apply Kd.R_drew)); exact HO619.out) (Kd.R_base ho0) hb); have n1_ := Aside0.mk (Kd.R_below (by (with_reducible repeat (first | apply Kd.R_alloc | apply Kd.R_drewN | apply Kd.R_drew)); exact HO622.out) hb); have n2_ := Aside0.mk (Kd.R_lower (Kd.R_new' ho0 (Kd.R_lt (by (with_reducible repeat (first | apply Kd.R_alloc | apply Kd.R_drewN | apply Kd.R_drew)); exact HO619.out))) (below_size (by repeat (first | (with_reducible first | exact HB.out | apply below_alloc | apply pw_below_drewN | apply below_drew1) | exact HB.out)))); have n3_ := Aside0.mk (below_step (by repeat (first | (with_reducible first | exact HB.out | apply below_alloc | apply pw_below_drewN | apply below_drew1) | exact HB.out)) hb); clear HO619; clear HO622; clear HB; have HO619 := n0_; have HO622 := n1_; have HO627 := n2_; have HB := n3_; clear n0_ n1_ n2_ n3_; (try clear hb); (try clear hb2); (try clear hk); (try clear hi); (try clear hge); (try clear ho0)) | ((with_reducible refine gate_dst (N := 7) rfl ?_); (try (refine gate_guard (by rfl) ?_; dsimp only)); refine box_event ?hg (N := 7) ?hd (cs := #[.int .i64 0, .slice none 0 0]) (t := 42) ?hr ?_; (case hd => rfl); (case hg => rfl); (case hr => first | (go_simp; done) | (go_simp; rfl)); intro gb629 hg w23 hbox hb; have n0_ := Aside0.mk (Kd.R_below (by (with_reducible repeat (first | apply Kd.R_alloc | apply Kd.R_drewN | apply Kd.R_drew)); exact HO619.out) hb); have n1_ := Aside0.mk (Kd.R_below (by (with_reducible repeat (first | apply Kd.R_alloc | apply Kd.R_drewN | apply Kd.R_drew)); exact HO622.out) hb); have n2_ := Aside0.mk (Kd.R_below (by (with_reducible repeat (first | apply Kd.R_alloc | apply Kd.R_drewN | apply Kd.R_drew)); exact HO627.out) hb); have n3_ := Aside0.mk (below_step (by repeat (first | (with_reducible first | exact HB.out | apply below_alloc | apply pw_below_drewN | apply below_drew1) | exact HB.out)) hb); have n4_ := Aside0.mk (hbox); have n5_ := Aside0.mk ((by rw [hg]; exact (below_size (by repeat (first | (with_reducible first | exact HB.out | apply below_alloc | apply pw_below_drewN | apply below_drew1) | exact HB.out))) : w.heap.size ≤ gb629)); have n6_ := Aside0.mk ((by rw [hg]; exact (below_size (by repeat (first | (with_reducible first | exact HB.out | apply below_alloc | apply pw_below_drewN | apply below_drew1) | exact HB.out))) : w.heap.size ≤ gb629)); clear HO619; clear HO622; clear HO627; clear HB; have HO619 := n0_; have HO622 := n1_; have HO627 := n2_; have HB := n3_; have BK629 := n4_; have GW629 := n5_; have GE629 := n6_; clear n0_ n1_ n2_ n3_ n4_ n5_ n6_; clear hb hbox hg; have hcz24_0 : w23.cell? ⟨gb629, 0, none⟩ = some (.int .i64 0) := (blk_cell BK629.out 0).trans rfl; have hcz24_1 : w23.cell? ⟨gb629, 1, none⟩ = some (.slice none 0 0) := (blk_cell BK629.out 1).trans rfl; have hfz24_0 := blk_frozen BK629.out 0; have hfz24_1 := blk_frozen BK629.out 1; obtain ⟨Ao25, co25, eo25⟩ := Kd.R_slice HO627.out; subst eo25))
              (try simp only [Act.put, List.setIfInBounds_toArray, List.set_cons_zero, List.set_cons_succ])
              go_cut [54] (fun v54 wc => ∃ (kq : Nat) (x54_15 : Bool), v54 = .bool x54_15 ∧ Aside0 (madrigallaw6_LsfOwn.j1 kq a0 t620 x54_15 t624 t625 = some r) ∧ Aside0 (kq ≤ kj4) ∧ Aside0 (Kd.R (Kd.int .i64) 2 wc w.heap.size (fun _ => True) (.slice Ao21 t620.length co21) t620) ∧ Aside0 (Kd.R (Kd.int .i64) 3 wc w.heap.size (fun _ => True) (.slice Ao25 t625.length co25) t625) ∧ Aside0 (wc.heap[gb629]? = some (.cells #[.int .i64 t624, (.slice Ao25 t625.length co25)] 42 (0, 0))) ∧ Aside0 (Below w.heap.size w wc))
              case first =>
                have H := HC16.out
                clear HC16
                by_cases c26 : t623 = 0
                · rw [if_pos c26] at H
                  have c26b0 : (t623 == 0) = true := beq_iff_eq.mpr c26
                  have c26b1 : (t623 != 0) = false := bne_eq_false_iff_eq.mpr c26
                  clear c26
                  (first | rw [c26b0] | (simp only [i64_w, i32_w]; rw [c26b0]) | skip)
                  by_cases c27 : t628 = 0
                  · rw [if_pos c27] at H
                    have c27b0 : (t628 == 0) = true := beq_iff_eq.mpr c27
                    have c27b1 : (t628 != 0) = false := bne_eq_false_iff_eq.mpr c27
                    clear c27
                    have H' := Aside0.mk H
                    clear H
                    have hcz28_0 : w23.cell? ⟨gb629, 0, none⟩ = some (.int .i64 0) := (blk_cell BK629.out 0).trans rfl
                    have hcz28_1 : w23.cell? ⟨gb629, 1, none⟩ = some (.slice none 0 0) := (blk_cell BK629.out 1).trans rfl
                    have hfz28_0 := blk_frozen BK629.out 0
                    have hfz28_1 := blk_frozen BK629.out 1
                    go_wp2
                    go_meet
                    case rel => exact ⟨_, (((t625.length : Int) != a0)), (by first | rfl | (simp; done) | (simp [*]; done)), H', ⟨by have := HJ4.out; first | omega | exact Nat.le_refl _⟩, ⟨by (with_reducible repeat (first | apply Kd.R_alloc | apply Kd.R_drewN | apply Kd.R_drew)); exact Kd.R_mono (Kd.R_far (p := ⟨gb629, 1, none⟩) (Kd.R_far (p := ⟨gb629, 0, none⟩) (Kd.R_types HO622.out BK629.out (by decide)) (fun _ hk => hk.2) (.int .i64 t624)) (fun _ hk => hk.2) (.slice Ao25 t625.length co25)) (fun _ hk => trivial)⟩, ⟨by (with_reducible repeat (first | apply Kd.R_alloc | apply Kd.R_drewN | apply Kd.R_drew)); exact Kd.R_mono (Kd.R_far (p := ⟨gb629, 1, none⟩) (Kd.R_far (p := ⟨gb629, 0, none⟩) (Kd.R_types HO627.out BK629.out (by decide)) (fun _ hk => hk.2) (.int .i64 t624)) (fun _ hk => hk.2) (.slice Ao25 t625.length co25)) (fun _ hk => trivial)⟩, ⟨by (with_reducible repeat (first | refine blk_drewN ?_ _ | refine blk_drew ?_ | refine blk_alloc ?_ _)); refine blk_put (cs := #[.int .i64 t624, .slice none 0 0]) ?_ 1 _ rfl; (with_reducible repeat (first | refine blk_drewN ?_ _ | refine blk_drew ?_ | refine blk_alloc ?_ _)); refine blk_put (cs := #[.int .i64 0, .slice none 0 0]) ?_ 0 _ rfl; (with_reducible repeat (first | refine blk_drewN ?_ _ | refine blk_drew ?_ | refine blk_alloc ?_ _)); exact BK629.out⟩, ⟨by repeat (first | (with_reducible first | exact HB.out | apply below_alloc | apply pw_below_drewN | apply below_drew1 | refine below_set ?_ GE629.out) | exact HB.out)⟩⟩
                  · rw [if_neg c27] at H
                    have c27b0 : (t628 == 0) = false := beq_eq_false_iff_ne.mpr c27
                    have c27b1 : (t628 != 0) = true := bne_iff_ne.mpr c27
                    have H' := Aside0.mk H
                    clear H
                    go_wp2
                    go_meet
                    case rel => exact ⟨_, (true), (by first | rfl | (simp; done) | (simp [*]; done)), H', ⟨by have := HJ4.out; first | omega | exact Nat.le_refl _⟩, ⟨by (with_reducible repeat (first | apply Kd.R_alloc | apply Kd.R_drewN | apply Kd.R_drew)); exact Kd.R_mono (Kd.R_far (p := ⟨gb629, 1, none⟩) (Kd.R_far (p := ⟨gb629, 0, none⟩) (Kd.R_types HO622.out BK629.out (by decide)) (fun _ hk => hk.2) (.int .i64 t624)) (fun _ hk => hk.2) (.slice Ao25 t625.length co25)) (fun _ hk => trivial)⟩, ⟨by (with_reducible repeat (first | apply Kd.R_alloc | apply Kd.R_drewN | apply Kd.R_drew)); exact Kd.R_mono (Kd.R_far (p := ⟨gb629, 1, none⟩) (Kd.R_far (p := ⟨gb629, 0, none⟩) (Kd.R_types HO627.out BK629.out (by decide)) (fun _ hk => hk.2) (.int .i64 t624)) (fun _ hk => hk.2) (.slice Ao25 t625.length co25)) (fun _ hk => trivial)⟩, ⟨by (with_reducible repeat (first | refine blk_drewN ?_ _ | refine blk_drew ?_ | refine blk_alloc ?_ _)); refine blk_put (cs := #[.int .i64 t624, .slice none 0 0]) ?_ 1 _ rfl; (with_reducible repeat (first | refine blk_drewN ?_ _ | refine blk_drew ?_ | refine blk_alloc ?_ _)); refine blk_put (cs := #[.int .i64 0, .slice none 0 0]) ?_ 0 _ rfl; (with_reducible repeat (first | refine blk_drewN ?_ _ | refine blk_drew ?_ | refine blk_alloc ?_ _)); exact BK629.out⟩, ⟨by repeat (first | (with_reducible first | exact HB.out | apply below_alloc | apply pw_below_drewN | apply below_drew1 | refine below_set ?_ GE629.out) | exact HB.out)⟩⟩
                · rw [if_neg c26] at H
                  have c26b0 : (t623 == 0) = false := beq_eq_false_iff_ne.mpr c26
                  have c26b1 : (t623 != 0) = true := bne_iff_ne.mpr c26
                  (first | rw [c26b0] | (simp only [i64_w, i32_w]; rw [c26b0]) | skip)
                  have H' := Aside0.mk H
                  clear H
                  go_wp2
                  go_meet
                  case rel => exact ⟨_, (true), (by first | rfl | (simp; done) | (simp [*]; done)), H', ⟨by have := HJ4.out; first | omega | exact Nat.le_refl _⟩, ⟨by (with_reducible repeat (first | apply Kd.R_alloc | apply Kd.R_drewN | apply Kd.R_drew)); exact Kd.R_mono (Kd.R_far (p := ⟨gb629, 1, none⟩) (Kd.R_far (p := ⟨gb629, 0, none⟩) (Kd.R_types HO622.out BK629.out (by decide)) (fun _ hk => hk.2) (.int .i64 t624)) (fun _ hk => hk.2) (.slice Ao25 t625.length co25)) (fun _ hk => trivial)⟩, ⟨by (with_reducible repeat (first | apply Kd.R_alloc | apply Kd.R_drewN | apply Kd.R_drew)); exact Kd.R_mono (Kd.R_far (p := ⟨gb629, 1, none⟩) (Kd.R_far (p := ⟨gb629, 0, none⟩) (Kd.R_types HO627.out BK629.out (by decide)) (fun _ hk => hk.2) (.int .i64 t624)) (fun _ hk => hk.2) (.slice Ao25 t625.length co25)) (fun _ hk => trivial)⟩, ⟨by (with_reducible repeat (first | refine blk_drewN ?_ _ | refine blk_drew ?_ | refine blk_alloc ?_ _)); refine blk_put (cs := #[.int .i64 t624, .slice none 0 0]) ?_ 1 _ rfl; (with_reducible repeat (first | refine blk_drewN ?_ _ | refine blk_drew ?_ | refine blk_alloc ?_ _)); refine blk_put (cs := #[.int .i64 0, .slice none 0 0]) ?_ 0 _ rfl; (with_reducible repeat (first | refine blk_drewN ?_ _ | refine blk_drew ?_ | refine blk_alloc ?_ _)); exact BK629.out⟩, ⟨by repeat (first | (with_reducible first | exact HB.out | apply below_alloc | apply pw_below_drewN | apply below_drew1 | refine below_set ?_ GE629.out) | exact HB.out)⟩⟩
              case rest =>
                clear HC16
                try clear c1
                try clear c2
                try clear p2
                try clear c4
                try clear c7
                try clear c7b0
                try clear c7b1
                try clear c8
                try clear c8b0
                try clear c9
                try clear c9b0
                try clear c9b1
                try clear c10
                try clear c10b0
                try clear c11
                try clear c12
                try clear c12b0
                try clear c12b1
                try clear c13
                try clear c13b0
                try clear c13b1
                try clear c22
                try clear c23
                try clear c25
                try clear c26
                try clear c26b0
                try clear c26b1
                try clear c27
                try clear c27b0
                try clear c27b1
                try clear hcz24_0
                try clear hcz24_1
                try clear hcz28_0
                try clear hcz28_1
                try clear hfz24_0
                try clear hfz24_1
                try clear hfz28_0
                try clear hfz28_1
                try clear p2
                obtain ⟨kq, x54_15, rfl, HA, HJ15, HO_5, HO_630001, BK629, HB⟩ := hcut
                (try simp only [i64_w, i32_w])
                cases kq with
                | zero => exact absurd HA.out (by simp [madrigallaw6_LsfOwn.j1])
                | succ kj15 =>
                  have H := HA.out
                  clear HA
                  simp only [madrigallaw6_LsfOwn.j1] at H
                  by_cases c29 : x54_15 = true
                  · subst c29
                    have H1 : (none) = some r := by rw [if_pos rfl] at H; exact H
                    clear H
                    have H := H1
                    clear H1
                    exact absurd H (by simp)
                  · replace c29 := Bool.eq_false_iff.mpr c29
                    subst c29
                    have H1 : ((lsf_Decode.f kj15 a0 t624 t625).bind fun bt630 => (if bt630.2 = 0 then ((madrigallaw6_same.f kj15 bt630.1 t620).bind fun t634 => (some t634)) else (none))) = some r := by rw [if_neg (show ¬ (false = true) by decide)] at H; exact H
                    clear H
                    have H := H1
                    clear H1
                    replace H := Option.bind_eq_some_iff.mp H
                    obtain ⟨⟨t630, t633⟩, A300, H⟩ := H
                    replace H : (if t633 = 0 then ((madrigallaw6_same.f kj15 t630 t620).bind fun t634 => (some t634)) else (none)) = some r := H
                    have A30 := Aside0.mk A300
                    clear A300
                    by_cases c31 : t633 = 0
                    · rw [if_pos c31] at H
                      have c31b0 : (t633 == 0) = true := beq_iff_eq.mpr c31
                      have c31b1 : (t633 != 0) = false := bne_eq_false_iff_eq.mpr c31
                      clear c31
                      replace H := Option.bind_eq_some_iff.mp H
                      obtain ⟨t634, A320, H⟩ := H
                      replace H : (some t634) = some r := H
                      have A32 := Aside0.mk A320
                      clear A320
                      obtain rfl := Option.some.inj H
                      have hcz33_0 : wc.cell? ⟨gb629, 0, none⟩ = some (.int .i64 t624) := (blk_cell BK629.out 0).trans rfl
                      have hcz33_1 : wc.cell? ⟨gb629, 1, none⟩ = some (.slice Ao25 t625.length co25) := (blk_cell BK629.out 1).trans rfl
                      have hfz33_0 := blk_frozen BK629.out 0
                      have hfz33_1 := blk_frozen BK629.out 1
                      go_wp2_with (first | ((with_reducible refine gate_callee (f := 23) rfl ?_); refine goesL_ (some 58) rfl rfl Try.func23 (by kernel_rfl) rfl #[.int .i64 a0, .agg #[.int .i64 t624, .slice Ao25 t625.length co25]] rfl (by (try simp only [List.map_toArray, List.map_cons, List.map_nil]); first | done | rfl | (simp only [List.length_drop, List.length_take]; rfl)) ?_; (with_reducible refine (lsf_Decode.calls kj15 a0 t624 _ _ t625 t630 t633 _ ?side1 ?side2 A30.out).mono ?_); (case side1 => repeat (first | exact (Kd.R_reads' HO_630001.out).2.2 | (with_reducible refine Kd.C_alloc ?_ _) | (with_reducible refine Kd.C_drewN ?_ _) | (with_reducible refine Kd.C_drew ?_))); (case side2 => exact (Kd.R_reads' HO_630001.out).2.1); rintro e w34 ⟨v631, rfl, ho0, hb⟩; refine ⟨_, rfl, ?_⟩; have n0_ := Aside0.mk (Kd.R_elder' (by (with_reducible repeat (first | apply Kd.R_alloc | apply Kd.R_drewN | apply Kd.R_drew)); exact HO_5.out) (Kd.R_base ho0) hb); have n1_ := Aside0.mk (Kd.R_below (by (with_reducible repeat (first | apply Kd.R_alloc | apply Kd.R_drewN | apply Kd.R_drew)); exact HO_630001.out) hb); have n2_ := Aside0.mk (Kd.R_lower (Kd.R_new' ho0 (Kd.R_lt (by (with_reducible repeat (first | apply Kd.R_alloc | apply Kd.R_drewN | apply Kd.R_drew)); exact HO_5.out))) (below_size (by repeat (first | (with_reducible first | exact HB.out | apply below_alloc | apply pw_below_drewN | apply below_drew1 | refine below_set ?_ GE629.out) | exact HB.out)))); have n3_ := Aside0.mk (blk_below (g := gb629) (o := .cells #[.int .i64 t624, .slice Ao25 t625.length co25] 42 (0, 0)) (by (with_reducible repeat (first | refine blk_drewN ?_ _ | refine blk_drew ?_ | refine blk_alloc ?_ _)); exact BK629.out) hb); have n4_ := Aside0.mk (below_step (by repeat (first | (with_reducible first | exact HB.out | apply below_alloc | apply pw_below_drewN | apply below_drew1 | refine below_set ?_ GE629.out) | exact HB.out)) hb); clear HO_5; clear HO_630001; clear BK629; clear HB; have HO_5 := n0_; have HO_630001 := n1_; have HO632 := n2_; have BK629 := n3_; have HB := n4_; clear n0_ n1_ n2_ n3_ n4_; (try clear hb); (try clear hb2); (try clear hk); (try clear hi); (try clear hge); (try clear ho0); obtain ⟨Ao35, co35, eo35⟩ := Kd.R_slice HO632.out; subst eo35) | (go_at_call 29; (with_reducible refine (madrigallaw6_same.calls kj15 _ _ t630 _ _ t620 t634 _ ?side1 ?side2 ?side3 ?side4 A32.out).mono ?_); (case side1 => repeat (first | exact (Kd.R_reads' HO632.out).2.2 | (with_reducible refine Kd.C_alloc ?_ _) | (with_reducible refine Kd.C_drewN ?_ _) | (with_reducible refine Kd.C_drew ?_))); (case side2 => exact (Kd.R_reads' HO632.out).2.1); (case side3 => repeat (first | exact (Kd.R_reads' HO_5.out).2.2 | (with_reducible refine Kd.C_alloc ?_ _) | (with_reducible refine Kd.C_drewN ?_ _) | (with_reducible refine Kd.C_drew ?_))); (case side4 => exact (Kd.R_reads' HO_5.out).2.1); rintro e w' ⟨rfl, ⟨nd, rfl⟩⟩))
                      go_ret
                      exact ⟨by first | rfl | (simp [errW_none, errW_some] <;> rfl) | (simp [*, errW_none, errW_some] <;> rfl), by repeat (first | (with_reducible first | exact HB.out | apply below_alloc | apply pw_below_drewN | apply below_drew1 | refine below_set ?_ GE629.out) | exact HB.out)⟩
                    · rw [if_neg c31] at H
                      exact absurd H (by simp)
            · rw [if_neg c13] at H
              exact absurd H (by simp)
          · rw [if_neg c12] at H
            exact absurd H (by simp)
  · replace c4 := Bool.eq_false_iff.mpr c4
    subst c4
    have H1 : (none) = some r := by rw [if_neg (show ¬ (false = true) by decide)] at H; exact H
    clear H
    have H := H1
    clear H1
    exact absurd H (by simp)

/-- THE ONE PURE STATEMENT of madrigallaw6_LsfOwn. -/
def madrigallaw6_LsfOwn.Pure : Prop := ∀ (a0 : Int) (a1 : Int), (Lit.int .i64 a0).wf = true → (Lit.int .i64 a1).wf = true → ∃ k, madrigallaw6_LsfOwn.f k a0 a1 = some true
theorem madrigallaw6_LsfOwn.walk (P : madrigallaw6_LsfOwn.Pure) (a0 : Int) (a1 : Int) (w : World) (w0 : (Lit.int .i64 a0).wf = true) (w1 : (Lit.int .i64 a1).wf = true) :
    Calls Try.prog 13 #[.int .i64 a0, .int .i64 a1] w fun e w' => e = .returned (.bool true) ∧ Below w.heap.size w w' := by
  obtain ⟨k, h⟩ := P a0 a1 w0 w1
  refine (madrigallaw6_LsfOwn.calls k a0 a1 true w h).mono ?_
  rintro e w' ⟨rfl, hd⟩
  exact ⟨rfl, hd⟩

end Go.Proofs.Ytdchabinakboeaa.P
