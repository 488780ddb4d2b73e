/- The machine side of the laws of one chapter, without conditions: each call of a Go function comes to what the Lean function of its name answers. Written for this claim by a program of the prover. -/
import Derived.Test.YtdchabinakboeaaPx0
import Derived.Test.YtdchabinakboeaaPx23
import Derived.Test.YtdchabinakboeaaPx25
import Derived.Test.YtdchabinakboeaaPx31
import Derived.Test.YtdchabinakboeaaPx34
namespace Go.Proofs.Ytdchabinakboeaa.P
open Go.RowKit Go.Proofs.YtdchabinakboeaaW.PrintWords Go.Proofs.YtdchabinakboeaaW.PrintLast Go.Proofs.YtdchabinakboeaaW.PrintMore
attribute [local go_sem] max2_int min2_int max_two min_two max_three min_three max_four min_four   -- for this text's walks alone
set_option linter.unusedVariables false
set_option linter.unusedSimpArgs false

/-! ### madrigallaw6_LsfRises: function 9 -/
mutual
def madrigallaw6_LsfRises.j0 : Nat → Int → List Int → Bool → Int → List Int → Option (Bool)
  | 0, _, _, _, _, _ => none
  | k + 1, x1, x7, x32, x538000, x538001 => if x32 = true then (none) else ((lsf_Decode.f k x1 x538000 x538001).bind fun bt546 => (madrigallaw6_LsfRises.l0 k (([x7, bt546.1] : List (List Int))) 0))
def madrigallaw6_LsfRises.l0 : Nat → List (List Int) → Int → Option (Bool)
  | 0, _, _ => none
  | k + 1, x10, x11 => if x11 < 2 then (madrigallaw6_LsfRises.l1 k x10 x11 0 0) else (some true)
def madrigallaw6_LsfRises.l1 : Nat → List (List Int) → Int → Int → Int → Option (Bool)
  | 0, _, _, _, _ => none
  | k + 1, x10, x11, x12, x13 => if 0 ≤ x11 then (if x11 < (x10.length : Int) then (if x13 < ((rd_L1 x10 x11).length : Int) then (if 0 ≤ x13 then (if (rd (rd_L1 x10 x11) x13) < (wrap64 (x12 + 250)) then (none) else (if (rd (rd_L1 x10 x11) x13) > 32518 then (none) else (madrigallaw6_LsfRises.l1 k x10 x11 (rd (rd_L1 x10 x11) x13) (wrap64 (x13 + 1))))) else (none)) else (madrigallaw6_LsfRises.l0 k x10 (wrap64 (x11 + 1)))) else (none)) else (none)
end
def madrigallaw6_LsfRises.f (k : Nat) (l0 : List Int) (a1 : Int) (a2_0 : Int) (l2_1 : List Int) : Option (Bool) := (madrigallaw6_awake.f k).bind fun t538 => (if t538 = true then (if (l0.length : Int) > 64 then (some true) else ((lsf_Steady.f k l0).bind fun t539 => (if (t539.length : Int) = (l0.length : Int) then ((lsf_Steady.f k t539).bind fun t542 => ((madrigallaw6_same.f k t542 t539).bind fun t545 => (madrigallaw6_LsfRises.j0 k a1 t539 (!t545) a2_0 l2_1))) else (madrigallaw6_LsfRises.j0 k a1 t539 true a2_0 l2_1)))) else (none))
theorem madrigallaw6_LsfRises.mono_l : ∀ k, (∀ y0 y1 y2 y3 y4, LeO (madrigallaw6_LsfRises.j0 k y0 y1 y2 y3 y4) (madrigallaw6_LsfRises.j0 (k + 1) y0 y1 y2 y3 y4)) ∧ (∀ y0 y1, LeO (madrigallaw6_LsfRises.l0 k y0 y1) (madrigallaw6_LsfRises.l0 (k + 1) y0 y1)) ∧ (∀ y0 y1 y2 y3, LeO (madrigallaw6_LsfRises.l1 k y0 y1 y2 y3) (madrigallaw6_LsfRises.l1 (k + 1) y0 y1 y2 y3))
  | 0 => ⟨fun _ _ _ _ _ r h => by simp [madrigallaw6_LsfRises.j0] at h, fun _ _ r h => by simp [madrigallaw6_LsfRises.l0] at h, fun _ _ _ _ r h => by simp [madrigallaw6_LsfRises.l1] at h⟩
  | k + 1 => by
    obtain ⟨ih0, ih1, ih2⟩ := madrigallaw6_LsfRises.mono_l k
    refine ⟨?_, ?_, ?_⟩
    · intro y0 y1 y2 y3 y4
      unfold madrigallaw6_LsfRises.j0
      repeat' first
      | (with_reducible exact ih0 _ _ _ _ _)
      | (with_reducible exact ih1 _ _)
      | (with_reducible exact ih2 _ _ _ _)
      | (with_reducible exact lsf_Decode.mono _ _ _ _)
      | (with_reducible exact lsf_Steady.mono _ _)
      | (with_reducible exact madrigallaw6_awake.mono _)
      | (with_reducible exact madrigallaw6_same.mono _ _ _)
      | (with_reducible exact LeO.refl _)
      | (with_reducible exact LeO.none _)
      | (with_reducible refine LeO.ite ?_ ?_)
      | (with_reducible refine LeO.bind ?_ (fun _ => ?_))
      | exact ih0 _ _ _ _ _
      | exact ih1 _ _
      | exact ih2 _ _ _ _
      | exact lsf_Decode.mono _ _ _ _
      | exact lsf_Steady.mono _ _
      | exact madrigallaw6_awake.mono _
      | exact madrigallaw6_same.mono _ _ _
      | exact LeO.none _
      | refine LeO.ite ?_ ?_
      | refine LeO.bind ?_ (fun _ => ?_)
    · intro y0 y1
      unfold madrigallaw6_LsfRises.l0
      repeat' first
      | (with_reducible exact ih0 _ _ _ _ _)
      | (with_reducible exact ih1 _ _)
      | (with_reducible exact ih2 _ _ _ _)
      | (with_reducible exact lsf_Decode.mono _ _ _ _)
      | (with_reducible exact lsf_Steady.mono _ _)
      | (with_reducible exact madrigallaw6_awake.mono _)
      | (with_reducible exact madrigallaw6_same.mono _ _ _)
      | (with_reducible exact LeO.refl _)
      | (with_reducible exact LeO.none _)
      | (with_reducible refine LeO.ite ?_ ?_)
      | (with_reducible refine LeO.bind ?_ (fun _ => ?_))
      | exact ih0 _ _ _ _ _
      | exact ih1 _ _
      | exact ih2 _ _ _ _
      | exact lsf_Decode.mono _ _ _ _
      | exact lsf_Steady.mono _ _
      | exact madrigallaw6_awake.mono _
      | exact madrigallaw6_same.mono _ _ _
      | exact LeO.none _
      | refine LeO.ite ?_ ?_
      | refine LeO.bind ?_ (fun _ => ?_)
    · intro y0 y1 y2 y3
      unfold madrigallaw6_LsfRises.l1
      repeat' first
      | (with_reducible exact ih0 _ _ _ _ _)
      | (with_reducible exact ih1 _ _)
      | (with_reducible exact ih2 _ _ _ _)
      | (with_reducible exact lsf_Decode.mono _ _ _ _)
      | (with_reducible exact lsf_Steady.mono _ _)
      | (with_reducible exact madrigallaw6_awake.mono _)
      | (with_reducible exact madrigallaw6_same.mono _ _ _)
      | (with_reducible exact LeO.refl _)
      | (with_reducible exact LeO.none _)
      | (with_reducible refine LeO.ite ?_ ?_)
      | (with_reducible refine LeO.bind ?_ (fun _ => ?_))
      | exact ih0 _ _ _ _ _
      | exact ih1 _ _
      | exact ih2 _ _ _ _
      | exact lsf_Decode.mono _ _ _ _
      | exact lsf_Steady.mono _ _
      | exact madrigallaw6_awake.mono _
      | exact madrigallaw6_same.mono _ _ _
      | exact LeO.none _
      | refine LeO.ite ?_ ?_
      | refine LeO.bind ?_ (fun _ => ?_)
theorem madrigallaw6_LsfRises.mono : ∀ a0 a1 a2 a3 k, LeO (madrigallaw6_LsfRises.f k a0 a1 a2 a3) (madrigallaw6_LsfRises.f (k + 1) a0 a1 a2 a3) := by
  intro a0 a1 a2 a3 k
  obtain ⟨ih0, ih1, ih2⟩ := madrigallaw6_LsfRises.mono_l k
  unfold madrigallaw6_LsfRises.f
  repeat' first
      | (with_reducible exact ih0 _ _ _ _ _)
      | (with_reducible exact ih1 _ _)
      | (with_reducible exact ih2 _ _ _ _)
      | (with_reducible exact lsf_Decode.mono _ _ _ _)
      | (with_reducible exact lsf_Steady.mono _ _)
      | (with_reducible exact madrigallaw6_awake.mono _)
      | (with_reducible exact madrigallaw6_same.mono _ _ _)
      | (with_reducible exact LeO.refl _)
      | (with_reducible exact LeO.none _)
      | (with_reducible refine LeO.ite ?_ ?_)
      | (with_reducible refine LeO.bind ?_ (fun _ => ?_))
      | exact ih0 _ _ _ _ _
      | exact ih1 _ _
      | exact ih2 _ _ _ _
      | exact lsf_Decode.mono _ _ _ _
      | exact lsf_Steady.mono _ _
      | exact madrigallaw6_awake.mono _
      | exact madrigallaw6_same.mono _ _ _
      | exact LeO.none _
      | refine LeO.ite ?_ ?_
      | refine LeO.bind ?_ (fun _ => ?_)
set_option maxHeartbeats 8000000 in
set_option maxRecDepth 100000 in
theorem madrigallaw6_LsfRises.calls (k : Nat) (A0 : Option Addr) (c0 : Nat) (l0 : List Int) (a1 : Int) (a2_0 : Int) (A2_1 : Option Addr) (c2_1 : Nat) (l2_1 : List Int) (r : Bool) (w : World) (hr0 : Kd.C (Kd.int .i64) w A0 l0.length l0) (hc0 : l0.length ≤ c0) (hr2_1 : Kd.C (Kd.int .i64) w A2_1 l2_1.length l2_1) (hc2_1 : l2_1.length ≤ c2_1) (h : madrigallaw6_LsfRises.f k l0 a1 a2_0 l2_1 = some r) :
    Calls Try.prog 9 #[.slice A0 l0.length c0, .int .i64 a1, .agg #[.int .i64 a2_0, .slice A2_1 l2_1.length c2_1]] w fun e w' => e = .returned (.bool r) ∧ Below w.heap.size w w' := by
  have hu42 := Try.underlying42
  have HR0 := Aside0.mk hr0
  have HC0 := Aside0.mk hc0
  clear hr0 hc0
  have HR2_1 := Aside0.mk hr2_1
  have HC2_1 := Aside0.mk hc2_1
  clear hr2_1 hc2_1
  have HB := Aside0.mk (Below.refl w.heap.size w)
  have H : ((madrigallaw6_awake.f k).bind fun t538 => (if t538 = true then (if (l0.length : Int) > 64 then (some true) else ((lsf_Steady.f k l0).bind fun t539 => (if (t539.length : Int) = (l0.length : Int) then ((lsf_Steady.f k t539).bind fun t542 => ((madrigallaw6_same.f k t542 t539).bind fun t545 => (madrigallaw6_LsfRises.j0 k a1 t539 (!t545) a2_0 l2_1))) else (madrigallaw6_LsfRises.j0 k a1 t539 true a2_0 l2_1)))) else (none))) = some r := h
  clear h
  replace H := Option.bind_eq_some_iff.mp H
  obtain ⟨t538, A40, H⟩ := H
  replace H : (if t538 = true then (if (l0.length : Int) > 64 then (some true) else ((lsf_Steady.f k l0).bind fun t539 => (if (t539.length : Int) = (l0.length : Int) then ((lsf_Steady.f k t539).bind fun t542 => ((madrigallaw6_same.f k t542 t539).bind fun t545 => (madrigallaw6_LsfRises.j0 k a1 t539 (!t545) a2_0 l2_1))) else (madrigallaw6_LsfRises.j0 k a1 t539 true a2_0 l2_1)))) else (none)) = some r := H
  have A4 := Aside0.mk A40
  clear A40
  by_cases c5 : t538 = true
  · subst c5
    have H1 : (if (l0.length : Int) > 64 then (some true) else ((lsf_Steady.f k l0).bind fun t539 => (if (t539.length : Int) = (l0.length : Int) then ((lsf_Steady.f k t539).bind fun t542 => ((madrigallaw6_same.f k t542 t539).bind fun t545 => (madrigallaw6_LsfRises.j0 k a1 t539 (!t545) a2_0 l2_1))) else (madrigallaw6_LsfRises.j0 k a1 t539 true a2_0 l2_1)))) = some r := by rw [if_pos rfl] at H; exact H
    clear H
    have H := H1
    clear H1
    by_cases c6 : (l0.length : Int) > 64
    · rw [if_pos c6] at H
      have c6b0 : decide (64 < (l0.length : Int)) = true := decide_eq_true c6
      have c6b1 : decide (64 < l0.length) = true := decide_eq_true (by omega)
      clear c6
      obtain rfl := Option.some.inj H
      go_enter Try.func9, Try.ntmps9
      go_wp2_with (first | ((with_reducible refine gate_dst (N := 5) rfl ?_); refine box_event ?hg (N := 5) ?hd (cs := #[.int .i64 a2_0, .slice A2_1 l2_1.length c2_1]) (t := 42) ?hr ?_; (case hd => rfl); (case hg => rfl); (case hr => first | (go_simp; done) | (go_simp; rfl)); intro gb537 hg w7 hbox hb; have n0_ := Aside0.mk (below_step (by repeat (first | (with_reducible first | exact HB.out | apply below_alloc | apply pw_below_drewN | apply below_drew1) | exact HB.out)) hb); have n1_ := Aside0.mk (hbox); have n2_ := Aside0.mk ((by rw [hg]; exact (below_size (by repeat (first | (with_reducible first | exact HB.out | apply below_alloc | apply pw_below_drewN | apply below_drew1) | exact HB.out))) : w.heap.size ≤ gb537)); have n3_ := Aside0.mk ((by rw [hg]; exact (below_size (by repeat (first | (with_reducible first | exact HB.out | apply below_alloc | apply pw_below_drewN | apply below_drew1) | exact HB.out))) : w.heap.size ≤ gb537)); clear HB; have HB := n0_; have BK537 := n1_; have GW537 := n2_; have GE537 := n3_; clear n0_ n1_ n2_ n3_; clear hb hbox hg) | ((with_reducible refine gate_callee (f := 22) rfl ?_); refine goesL_ (some 14) rfl rfl Try.func22 (by kernel_rfl) rfl #[] rfl (by (try simp only [List.map_toArray, List.map_cons, List.map_nil]); first | done | rfl | (simp only [List.length_drop, List.length_take]; rfl)) ?_; (with_reducible refine (madrigallaw6_awake.calls k  true _ A4.out).mono ?_); rintro e w8 ⟨rfl, hb⟩; refine ⟨_, rfl, ?_⟩; have n0_ := Aside0.mk (blk_below (g := gb537) (o := .cells #[.int .i64 a2_0, .slice A2_1 l2_1.length c2_1] 42 (0, 0)) (by (with_reducible repeat (first | refine blk_drewN ?_ _ | refine blk_drew ?_ | refine blk_alloc ?_ _)); exact BK537.out) hb); have n1_ := Aside0.mk (below_step (by repeat (first | (with_reducible first | exact HB.out | apply below_alloc | apply pw_below_drewN | apply below_drew1 | refine below_set ?_ GE537.out) | exact HB.out)) hb); clear BK537; clear HB; have BK537 := n0_; have HB := n1_; clear n0_ n1_; (try clear hb); (try clear hb2); (try clear hk); (try clear hi); (try clear hge)))
      go_ret
      exact ⟨by first | rfl | (simp [errW_none, errW_some] <;> rfl) | (simp [*, errW_none, errW_some] <;> rfl), by repeat (first | (with_reducible first | exact HB.out | apply below_alloc | apply pw_below_drewN | apply below_drew1 | refine below_set ?_ GE537.out) | exact HB.out)⟩
    · rw [if_neg c6] at H
      have c6b0 : decide (64 < (l0.length : Int)) = false := decide_eq_false c6
      have c6b1 : decide (64 < l0.length) = false := decide_eq_false (by omega)
      clear c6
      replace H := Option.bind_eq_some_iff.mp H
      obtain ⟨t539, A90, H⟩ := H
      replace H : (if (t539.length : Int) = (l0.length : Int) then ((lsf_Steady.f k t539).bind fun t542 => ((madrigallaw6_same.f k t542 t539).bind fun t545 => (madrigallaw6_LsfRises.j0 k a1 t539 (!t545) a2_0 l2_1))) else (madrigallaw6_LsfRises.j0 k a1 t539 true a2_0 l2_1)) = some r := H
      have A9 := Aside0.mk A90
      clear A90
      have HC10 := Aside0.mk H
      clear H
      go_enter Try.func9, Try.ntmps9
      go_upto_region 6 with (first | ((with_reducible refine gate_dst (N := 5) rfl ?_); refine box_event ?hg (N := 5) ?hd (cs := #[.int .i64 a2_0, .slice A2_1 l2_1.length c2_1]) (t := 42) ?hr ?_; (case hd => rfl); (case hg => rfl); (case hr => first | (go_simp; done) | (go_simp; rfl)); intro gb537 hg w11 hbox hb; have n0_ := Aside0.mk (below_step (by repeat (first | (with_reducible first | exact HB.out | apply below_alloc | apply pw_below_drewN | apply below_drew1) | exact HB.out)) hb); have n1_ := Aside0.mk (hbox); have n2_ := Aside0.mk ((by rw [hg]; exact (below_size (by repeat (first | (with_reducible first | exact HB.out | apply below_alloc | apply pw_below_drewN | apply below_drew1) | exact HB.out))) : w.heap.size ≤ gb537)); have n3_ := Aside0.mk ((by rw [hg]; exact (below_size (by repeat (first | (with_reducible first | exact HB.out | apply below_alloc | apply pw_below_drewN | apply below_drew1) | exact HB.out))) : w.heap.size ≤ gb537)); clear HB; have HB := n0_; have BK537 := n1_; have GW537 := n2_; have GE537 := n3_; clear n0_ n1_ n2_ n3_; clear hb hbox hg) | ((with_reducible refine gate_callee (f := 22) rfl ?_); refine goesL_ (some 14) rfl rfl Try.func22 (by kernel_rfl) rfl #[] rfl (by (try simp only [List.map_toArray, List.map_cons, List.map_nil]); first | done | rfl | (simp only [List.length_drop, List.length_take]; rfl)) ?_; (with_reducible refine (madrigallaw6_awake.calls k  true _ A4.out).mono ?_); rintro e w12 ⟨rfl, hb⟩; refine ⟨_, rfl, ?_⟩; have n0_ := Aside0.mk (blk_below (g := gb537) (o := .cells #[.int .i64 a2_0, .slice A2_1 l2_1.length c2_1] 42 (0, 0)) (by (with_reducible repeat (first | refine blk_drewN ?_ _ | refine blk_drew ?_ | refine blk_alloc ?_ _)); exact BK537.out) hb); have n1_ := Aside0.mk (below_step (by repeat (first | (with_reducible first | exact HB.out | apply below_alloc | apply pw_below_drewN | apply below_drew1 | refine below_set ?_ GE537.out) | exact HB.out)) hb); clear BK537; clear HB; have BK537 := n0_; have HB := n1_; clear n0_ n1_; (try clear hb); (try clear hb2); (try clear hk); (try clear hi); (try clear hge)) | ((with_reducible refine gate_callee (f := 27) rfl ?_); refine goesL_ (some 20) rfl rfl Try.func27 (by kernel_rfl) rfl #[.slice A0 l0.length c0] rfl (by (try simp only [List.map_toArray, List.map_cons, List.map_nil]); first | done | rfl | (simp only [List.length_drop, List.length_take]; rfl)) ?_; (with_reducible refine (lsf_Steady.calls k _ _ l0 t539 _ ?side1 ?side2 A9.out).mono ?_); (case side1 => repeat (first | exact (Kd.C_below HR0.out HB.out) | (with_reducible refine Kd.C_alloc ?_ _) | (with_reducible refine Kd.C_drewN ?_ _) | (with_reducible refine Kd.C_drew ?_))); (case side2 => exact HC0.out); rintro e w13 ⟨v540, rfl, ho0, hb⟩; refine ⟨_, rfl, ?_⟩; have n0_ := Aside0.mk (Kd.R_lower ho0 (below_size (by repeat (first | (with_reducible first | exact HB.out | apply below_alloc | apply pw_below_drewN | apply below_drew1 | refine below_set ?_ GE537.out) | exact HB.out)))); have n1_ := Aside0.mk (blk_below (g := gb537) (o := .cells #[.int .i64 a2_0, .slice A2_1 l2_1.length c2_1] 42 (0, 0)) (by (with_reducible repeat (first | refine blk_drewN ?_ _ | refine blk_drew ?_ | refine blk_alloc ?_ _)); exact BK537.out) hb); have n2_ := Aside0.mk (below_step (by repeat (first | (with_reducible first | exact HB.out | apply below_alloc | apply pw_below_drewN | apply below_drew1 | refine below_set ?_ GE537.out) | exact HB.out)) hb); clear BK537; clear HB; have HO541 := n0_; have BK537 := n1_; have HB := n2_; clear n0_ n1_ n2_; (try clear hb); (try clear hb2); (try clear hk); (try clear hi); (try clear hge); (try clear ho0)))
      (try simp only [Act.put, List.setIfInBounds_toArray, List.set_cons_zero, List.set_cons_succ])
      go_cut [32] (fun v32 wc => ∃ (kq : Nat) (x32_9 : Bool), v32 = .bool x32_9 ∧ Aside0 (madrigallaw6_LsfRises.j0 kq a1 t539 x32_9 a2_0 l2_1 = some r) ∧ Aside0 (kq ≤ k) ∧ Aside0 (Kd.R (Kd.int .i64) 2 wc w.heap.size (fun _ => True) v540 t539) ∧ Aside0 (wc.heap[gb537]? = some (.cells #[.int .i64 a2_0, (.slice A2_1 l2_1.length c2_1)] 42 (0, 0))) ∧ Aside0 (Below w.heap.size w wc))
      case first =>
        have H := HC10.out
        clear HC10
        by_cases c14 : (t539.length : Int) = (l0.length : Int)
        · rw [if_pos c14] at H
          have c14b0 : ((t539.length : Int) == (l0.length : Int)) = true := beq_iff_eq.mpr c14
          have c14b1 : ((t539.length : Int) != (l0.length : Int)) = false := bne_eq_false_iff_eq.mpr c14
          have c14b2 : (t539.length == l0.length) = true := by first | simpa using c14 | (simp at c14 ⊢; omega)
          clear c14
          (first | rw [c14b0] | (simp only [i64_w, i32_w]; rw [c14b0]) | skip)
          replace H := Option.bind_eq_some_iff.mp H
          obtain ⟨t542, A150, H⟩ := H
          replace H : ((madrigallaw6_same.f k t542 t539).bind fun t545 => (madrigallaw6_LsfRises.j0 k a1 t539 (!t545) a2_0 l2_1)) = some r := H
          have A15 := Aside0.mk A150
          clear A150
          replace H := Option.bind_eq_some_iff.mp H
          obtain ⟨t545, A160, H⟩ := H
          replace H : (madrigallaw6_LsfRises.j0 k a1 t539 (!t545) a2_0 l2_1) = some r := H
          have A16 := Aside0.mk A160
          clear A160
          have H' := Aside0.mk H
          clear H
          obtain ⟨Ao17, co17, eo17⟩ := Kd.R_slice HO541.out
          subst eo17
          go_wp2_with (first | (go_at_call 27; (with_reducible refine (lsf_Steady.calls k _ _ t539 t542 _ ?side1 ?side2 A15.out).mono ?_); (case side1 => repeat (first | exact (Kd.R_reads' HO541.out).2.2 | (with_reducible refine Kd.C_alloc ?_ _) | (with_reducible refine Kd.C_drewN ?_ _) | (with_reducible refine Kd.C_drew ?_))); (case side2 => exact (Kd.R_reads' HO541.out).2.1); rintro e w18 ⟨v543, rfl, ho0, hb⟩; have n0_ := Aside0.mk (Kd.R_elder' (by (with_reducible repeat (first | apply Kd.R_alloc | apply Kd.R_drewN | apply Kd.R_drew)); exact HO541.out) (Kd.R_base ho0) hb); have n1_ := Aside0.mk (Kd.R_lower (Kd.R_new' ho0 (Kd.R_lt (by (with_reducible repeat (first | apply Kd.R_alloc | apply Kd.R_drewN | apply Kd.R_drew)); exact HO541.out))) (below_size (by repeat (first | (with_reducible first | exact HB.out | apply below_alloc | apply pw_below_drewN | apply below_drew1 | refine below_set ?_ GE537.out) | exact HB.out)))); have n2_ := Aside0.mk (blk_below (g := gb537) (o := .cells #[.int .i64 a2_0, .slice A2_1 l2_1.length c2_1] 42 (0, 0)) (by (with_reducible repeat (first | refine blk_drewN ?_ _ | refine blk_drew ?_ | refine blk_alloc ?_ _)); exact BK537.out) hb); have n3_ := Aside0.mk (below_step (by repeat (first | (with_reducible first | exact HB.out | apply below_alloc | apply pw_below_drewN | apply below_drew1 | refine below_set ?_ GE537.out) | exact HB.out)) hb); clear HO541; clear BK537; clear HB; have HO541 := n0_; have HO544 := n1_; have BK537 := n2_; have HB := n3_; clear n0_ n1_ n2_ n3_; (try clear hb); (try clear hb2); (try clear hk); (try clear hi); (try clear hge); (try clear ho0); obtain ⟨Ao19, co19, eo19⟩ := Kd.R_slice HO544.out; subst eo19) | (go_at_call 29; (with_reducible refine (madrigallaw6_same.calls k _ _ t542 _ _ t539 t545 _ ?side1 ?side2 ?side3 ?side4 A16.out).mono ?_); (case side1 => repeat (first | exact (Kd.R_reads' HO544.out).2.2 | (with_reducible refine Kd.C_alloc ?_ _) | (with_reducible refine Kd.C_drewN ?_ _) | (with_reducible refine Kd.C_drew ?_))); (case side2 => exact (Kd.R_reads' HO544.out).2.1); (case side3 => repeat (first | exact (Kd.R_reads' HO541.out).2.2 | (with_reducible refine Kd.C_alloc ?_ _) | (with_reducible refine Kd.C_drewN ?_ _) | (with_reducible refine Kd.C_drew ?_))); (case side4 => exact (Kd.R_reads' HO541.out).2.1); rintro e w' ⟨rfl, ⟨nd, rfl⟩⟩))
          go_meet
          case rel => exact ⟨_, (!t545), (by first | rfl | (simp; done) | (simp [*]; done)), H', ⟨by first | omega | exact Nat.le_refl _⟩, ⟨by (with_reducible repeat (first | apply Kd.R_alloc | apply Kd.R_drewN | apply Kd.R_drew)); exact Kd.R_mono HO541.out (fun _ hk => trivial)⟩, ⟨by (with_reducible repeat (first | refine blk_drewN ?_ _ | refine blk_drew ?_ | refine blk_alloc ?_ _)); exact BK537.out⟩, ⟨by repeat (first | (with_reducible first | exact HB.out | apply below_alloc | apply pw_below_drewN | apply below_drew1 | refine below_set ?_ GE537.out) | exact HB.out)⟩⟩
        · rw [if_neg c14] at H
          have c14b0 : ((t539.length : Int) == (l0.length : Int)) = false := beq_eq_false_iff_ne.mpr c14
          have c14b1 : ((t539.length : Int) != (l0.length : Int)) = true := bne_iff_ne.mpr c14
          have c14b2 : (t539.length == l0.length) = false := by first | simpa using c14 | (simp at c14 ⊢; omega)
          (first | rw [c14b0] | (simp only [i64_w, i32_w]; rw [c14b0]) | skip)
          have H' := Aside0.mk H
          clear H
          obtain ⟨Ao20, co20, eo20⟩ := Kd.R_slice HO541.out
          subst eo20
          go_wp2
          go_meet
          case rel => exact ⟨_, (true), (by first | rfl | (simp; done) | (simp [*]; done)), H', ⟨by first | omega | exact Nat.le_refl _⟩, ⟨by (with_reducible repeat (first | apply Kd.R_alloc | apply Kd.R_drewN | apply Kd.R_drew)); exact HO541.out⟩, ⟨by (with_reducible repeat (first | refine blk_drewN ?_ _ | refine blk_drew ?_ | refine blk_alloc ?_ _)); exact BK537.out⟩, ⟨by repeat (first | (with_reducible first | exact HB.out | apply below_alloc | apply pw_below_drewN | apply below_drew1 | refine below_set ?_ GE537.out) | exact HB.out)⟩⟩
      case rest =>
        clear HC10
        try clear c1
        try clear c2
        try clear p2
        try clear c5
        try clear c6
        try clear c6b0
        try clear c6b1
        try clear c9
        try clear c14
        try clear c14b0
        try clear c14b1
        try clear c14b2
        obtain ⟨kq, x32_9, rfl, HA, HJ9, HO_7, BK537, HB⟩ := hcut
        (try simp only [i64_w, i32_w])
        cases kq with
        | zero => exact absurd HA.out (by simp [madrigallaw6_LsfRises.j0])
        | succ kj9 =>
          have H := HA.out
          clear HA
          simp only [madrigallaw6_LsfRises.j0] at H
          by_cases c21 : x32_9 = true
          · subst c21
            have H1 : (none) = some r := by rw [if_pos rfl] at H; exact H
            clear H
            have H := H1
            clear H1
            exact absurd H (by simp)
          · replace c21 := Bool.eq_false_iff.mpr c21
            subst c21
            have H1 : ((lsf_Decode.f kj9 a1 a2_0 l2_1).bind fun bt546 => (madrigallaw6_LsfRises.l0 kj9 (([t539, bt546.1] : List (List Int))) 0)) = some r := by rw [if_neg (show ¬ (false = true) by decide)] at H; exact H
            clear H
            have H := H1
            clear H1
            replace H := Option.bind_eq_some_iff.mp H
            obtain ⟨⟨t546, t549⟩, A220, H⟩ := H
            replace H : (madrigallaw6_LsfRises.l0 kj9 (([t539, t546] : List (List Int))) 0) = some r := H
            have A22 := Aside0.mk A220
            clear A220
            obtain ⟨y550, hy550⟩ : ∃ y_ : List (List Int), y_ = (([t539, t546] : List (List Int))) := ⟨_, rfl⟩
            replace H : (madrigallaw6_LsfRises.l0 kj9 y550 0) = some r := by first | (rw [hy550]; with_reducible exact H) | (have H2_ := (Option.bind_some _ _).symm.trans H; rw [hy550]; with_reducible exact H2_) | (have H2_ := (Option.bind_some _ _).symm.trans H; with_reducible exact H2_) | with_reducible exact H | (rw [hy550]; exact H) | exact H
            have Ny550 := Aside0.mk hy550
            clear hy550
            have H' := Aside0.mk H
            clear H
            have hcz23_0 : wc.cell? ⟨gb537, 0, none⟩ = some (.int .i64 a2_0) := (blk_cell BK537.out 0).trans rfl
            have hcz23_1 : wc.cell? ⟨gb537, 1, none⟩ = some (.slice A2_1 l2_1.length c2_1) := (blk_cell BK537.out 1).trans rfl
            have hfz23_0 := blk_frozen BK537.out 0
            have hfz23_1 := blk_frozen BK537.out 1
            go_wp2_with (first | ((with_reducible refine gate_callee (f := 23) rfl ?_); refine goesL_ (some 36) rfl rfl Try.func23 (by kernel_rfl) rfl #[.int .i64 a1, .agg #[.int .i64 a2_0, .slice A2_1 l2_1.length c2_1]] rfl (by (try simp only [List.map_toArray, List.map_cons, List.map_nil]); first | done | rfl | (simp only [List.length_drop, List.length_take]; rfl)) ?_; (with_reducible refine (lsf_Decode.calls kj9 a1 a2_0 _ _ l2_1 t546 t549 _ ?side1 ?side2 A22.out).mono ?_); (case side1 => repeat (first | exact (Kd.C_below HR2_1.out HB.out) | (with_reducible refine Kd.C_alloc ?_ _) | (with_reducible refine Kd.C_drewN ?_ _) | (with_reducible refine Kd.C_drew ?_))); (case side2 => exact HC2_1.out); rintro e w24 ⟨v547, rfl, ho0, hb⟩; refine ⟨_, rfl, ?_⟩; have n0_ := Aside0.mk (Kd.R_elder' (by (with_reducible repeat (first | apply Kd.R_alloc | apply Kd.R_drewN | apply Kd.R_drew)); exact HO_7.out) (Kd.R_base ho0) hb); have n1_ := Aside0.mk (Kd.R_lower (Kd.R_new' ho0 (Kd.R_lt (by (with_reducible repeat (first | apply Kd.R_alloc | apply Kd.R_drewN | apply Kd.R_drew)); exact HO_7.out))) (below_size (by repeat (first | (with_reducible first | exact HB.out | apply below_alloc | apply pw_below_drewN | apply below_drew1 | refine below_set ?_ GE537.out) | exact HB.out)))); have n2_ := Aside0.mk (blk_below (g := gb537) (o := .cells #[.int .i64 a2_0, .slice A2_1 l2_1.length c2_1] 42 (0, 0)) (by (with_reducible repeat (first | refine blk_drewN ?_ _ | refine blk_drew ?_ | refine blk_alloc ?_ _)); exact BK537.out) hb); have n3_ := Aside0.mk (below_step (by repeat (first | (with_reducible first | exact HB.out | apply below_alloc | apply pw_below_drewN | apply below_drew1 | refine below_set ?_ GE537.out) | exact HB.out)) hb); clear HO_7; clear BK537; clear HB; have HO_7 := n0_; have HO548 := n1_; have BK537 := n2_; have HB := n3_; clear n0_ n1_ n2_ n3_; (try clear hb); (try clear hb2); (try clear hk); (try clear hi); (try clear hge); (try clear ho0); obtain ⟨Ao25, co25, eo25⟩ := Kd.R_slice HO_7.out; subst eo25; obtain ⟨Ao26, co26, eo26⟩ := Kd.R_slice HO548.out; subst eo26) | ((with_reducible refine gate_dst (N := 41) rfl ?_); refine Kd.N_lit (Kd.slice 2 (Kd.int .i64)) _ 28 ?hg (N' := 41) ?hd (xs := ([t539, t546] : List (List Int))) (inner := [.slice Ao25 t539.length co25, .slice Ao26 t546.length co26]) (ok := (fun k_ => k_ ≠ gb537)) (okp := (fun k_ => k_ ≠ gb537)) ?hr ?hp (fun _ hk => hk) ((show ∀ k_, w24.heap.size ≤ k_ → (fun k_ => k_ ≠ gb537) k_ from fun k_ hk => Kd.freshB (g := gb537) (o := .cells #[.int .i64 a2_0, .slice A2_1 l2_1.length c2_1] 42 (0, 0)) (by (with_reducible repeat (first | refine blk_drewN ?_ _ | refine blk_drew ?_ | refine blk_alloc ?_ _)); exact BK537.out) k_ hk) _ (Nat.le_refl _)) (Below.refl _ _) (Nat.le_refl _) (by simp) ?_; (case hd => rfl); (case hg => rfl); (case hr => first | (go_simp; done) | (go_simp; rfl)); (case hp => exact (Reps.one (show Kd.FK (Kd.slice 2 (Kd.int .i64)) _ _ t539 [.slice Ao25 t539.length co25] from (Kd.FK_slice_mk (Kd.R_reads' (Kd.R_mono (ok' := (fun k_ => k_ ≠ gb537)) (Kd.R_types (HO_7.out) BK537.out (by decide)) (fun k_ hk => hk.2))).2.1 (Kd.R_F (Kd.R_mono (ok' := (fun k_ => k_ ≠ gb537)) (Kd.R_types (HO_7.out) BK537.out (by decide)) (fun k_ hk => hk.2))))) (Reps.one (show Kd.FK (Kd.slice 2 (Kd.int .i64)) _ _ t546 [.slice Ao26 t546.length co26] from (Kd.FK_slice_mk (Kd.R_reads' (Kd.R_mono (ok' := (fun k_ => k_ ≠ gb537)) (Kd.R_types (HO548.out) BK537.out (by decide)) (fun k_ hk => hk.2))).2.1 (Kd.R_F (Kd.R_mono (ok' := (fun k_ => k_ ≠ gb537)) (Kd.R_types (HO548.out) BK537.out (by decide)) (fun k_ hk => hk.2))))) (Reps.none _ _)))); intro v551 w27 ho28 hb hg_ hnew_; clear hg_ hnew_; (first | rw [← Ny550.out] at ho28 | (simp only [Int.reduceToNat] at ho28; rw [← Ny550.out] at ho28)); have n0_ := Aside0.mk (Kd.N_lower ho28 (below_size (by repeat (first | (with_reducible first | exact HB.out | apply below_alloc | apply pw_below_drewN | apply below_drew1 | refine below_set ?_ GE537.out) | exact HB.out)))); have n1_ := Aside0.mk (blk_below (g := gb537) (o := .cells #[.int .i64 a2_0, .slice A2_1 l2_1.length c2_1] 42 (0, 0)) (by (with_reducible repeat (first | refine blk_drewN ?_ _ | refine blk_drew ?_ | refine blk_alloc ?_ _)); exact BK537.out) hb); have n2_ := Aside0.mk (below_step (by repeat (first | (with_reducible first | exact HB.out | apply below_alloc | apply pw_below_drewN | apply below_drew1 | refine below_set ?_ GE537.out) | exact HB.out)) hb); clear BK537; clear HB; clear HO548; clear HO_7; have HO552 := n0_; have BK537 := n1_; have HB := n2_; clear n0_ n1_ n2_; clear hb ho28))
            go_loopg [11] kj9 (fun kq v11 w' => ∃ (x11_2 : Int), v11 = .int .i64 x11_2 ∧ Aside0 (madrigallaw6_LsfRises.l0 kq y550 x11_2 = some r) ∧ Aside0 (kq ≤ kj9) ∧ Aside0 (Kd.N (Kd.slice 2 (Kd.int .i64)) 28 w' w.heap.size (fun k_ => k_ ≠ gb537) v551 y550) ∧ Aside0 (w'.heap[gb537]? = some (.cells #[.int .i64 a2_0, (.slice A2_1 l2_1.length c2_1)] 42 (0, 0))) ∧ Aside0 (Below w.heap.size w w'))
            case atStart => exact ⟨(0), (by first | rfl | (simp; done) | (simp [*]; done)), H', ⟨Nat.le_refl _⟩, ⟨by (with_reducible repeat (first | apply Kd.N_alloc | apply Kd.N_drewN | apply Kd.N_drew)); exact HO552.out⟩, ⟨by (with_reducible repeat (first | refine blk_drewN ?_ _ | refine blk_drew ?_ | refine blk_alloc ?_ _)); exact BK537.out⟩, ⟨by repeat (first | (with_reducible first | exact HB.out | apply below_alloc | apply pw_below_drewN | apply below_drew1 | refine below_set ?_ GE537.out) | exact HB.out)⟩⟩
            case round =>
              clear H'
              try clear c1
              try clear c2
              try clear p2
              try clear c5
              try clear c6
              try clear c6b0
              try clear c6b1
              try clear c9
              try clear c14
              try clear c14b0
              try clear c14b1
              try clear c14b2
              try clear c21
              try clear c22
              try clear c23
              try clear c27
              try clear hcz23_0
              try clear hcz23_1
              try clear hfz23_0
              try clear hfz23_1
              try clear p2
              obtain ⟨x11_2, rfl, HA, HK2, HO_10, BK537, HB⟩ := hrel
              (try simp only [i64_w, i32_w])
              cases gk with
              | zero => exact absurd HA.out (by simp [madrigallaw6_LsfRises.l0])
              | succ k2 =>
                have H := HA.out
                clear HA
                simp only [madrigallaw6_LsfRises.l0] at H
                by_cases c29 : x11_2 < 2
                · rw [if_pos c29] at H
                  have c29b0 : decide (x11_2 < 2) = true := decide_eq_true c29
                  clear c29
                  have H' := Aside0.mk H
                  clear H
                  go_wp2
                  go_loopg [12, 13] k2 (fun kq v12 v13 w' => ∃ (x12_3 : Int) (x13_3 : Int), v12 = .int .i64 x12_3 ∧ v13 = .int .i64 x13_3 ∧ Aside0 (madrigallaw6_LsfRises.l1 kq y550 x11_2 x12_3 x13_3 = some r) ∧ Aside0 (kq ≤ k2) ∧ Aside0 (Kd.N (Kd.slice 2 (Kd.int .i64)) 28 w' w.heap.size (fun k_ => k_ ≠ gb537) v551 y550) ∧ Aside0 (w'.heap[gb537]? = some (.cells #[.int .i64 a2_0, (.slice A2_1 l2_1.length c2_1)] 42 (0, 0))) ∧ Aside0 (Below w.heap.size w w'))
                  case atStart => exact ⟨(0), (0), (by first | rfl | (simp; done) | (simp [*]; done)), (by first | rfl | (simp; done) | (simp [*]; done)), H', ⟨Nat.le_refl _⟩, ⟨by (with_reducible repeat (first | apply Kd.N_alloc | apply Kd.N_drewN | apply Kd.N_drew)); exact HO_10.out⟩, ⟨by (with_reducible repeat (first | refine blk_drewN ?_ _ | refine blk_drew ?_ | refine blk_alloc ?_ _)); exact BK537.out⟩, ⟨by repeat (first | (with_reducible first | exact HB.out | apply below_alloc | apply pw_below_drewN | apply below_drew1 | refine below_set ?_ GE537.out) | exact HB.out)⟩⟩
                  case round =>
                    clear H'
                    try clear c1
                    try clear c2
                    try clear p2
                    try clear c5
                    try clear c6
                    try clear c6b0
                    try clear c6b1
                    try clear c9
                    try clear c14
                    try clear c14b0
                    try clear c14b1
                    try clear c14b2
                    try clear c21
                    try clear c22
                    try clear c23
                    try clear c27
                    try clear c29
                    try clear c29b0
                    try clear hcz23_0
                    try clear hcz23_1
                    try clear hfz23_0
                    try clear hfz23_1
                    try clear p2
                    obtain ⟨x12_3, x13_3, rfl, rfl, HA, HK3, HO_10, BK537, HB⟩ := hrel
                    (try simp only [i64_w, i32_w])
                    cases gk with
                    | zero => exact absurd HA.out (by simp [madrigallaw6_LsfRises.l1])
                    | succ k3 =>
                      have H := HA.out
                      clear HA
                      simp only [madrigallaw6_LsfRises.l1] at H
                      by_cases c30 : 0 ≤ x11_2
                      · rw [if_pos c30] at H
                        have c30b0 : decide (0 ≤ x11_2) = true := decide_eq_true c30
                        clear c30
                        by_cases c31 : x11_2 < (y550.length : Int)
                        · rw [if_pos c31] at H
                          have c31b0 : decide (x11_2 < (y550.length : Int)) = true := decide_eq_true c31
                          clear c31
                          by_cases c32 : x13_3 < ((rd_L1 y550 x11_2).length : Int)
                          · rw [if_pos c32] at H
                            have c32b0 : decide (x13_3 < ((rd_L1 y550 x11_2).length : Int)) = true := decide_eq_true c32
                            clear c32
                            by_cases c33 : 0 ≤ x13_3
                            · rw [if_pos c33] at H
                              have c33b0 : decide (0 ≤ x13_3) = true := decide_eq_true c33
                              clear c33
                              by_cases c34 : (rd (rd_L1 y550 x11_2) x13_3) < (wrap64 (x12_3 + 250))
                              · rw [if_pos c34] at H
                                exact absurd H (by simp)
                              · rw [if_neg c34] at H
                                have c34b0 : decide ((rd (rd_L1 y550 x11_2) x13_3) < (wrap64 (x12_3 + 250))) = false := decide_eq_false c34
                                clear c34
                                by_cases c35 : (rd (rd_L1 y550 x11_2) x13_3) > 32518
                                · rw [if_pos c35] at H
                                  exact absurd H (by simp)
                                · rw [if_neg c35] at H
                                  have c35b0 : decide (32518 < (rd (rd_L1 y550 x11_2) x13_3)) = false := decide_eq_false c35
                                  clear c35
                                  have H' := Aside0.mk H
                                  clear H
                                  obtain ⟨Ao36, co36, eo36⟩ := Kd.N_slice HO_10.out
                                  subst eo36
                                  have p553 : 0 ≤ (x11_2 : Int) := of_decide_eq_true (by first | (with_reducible assumption) | assumption)
                                  have q553 : x11_2 < (y550.length : Int) := of_decide_eq_true (by first | (with_reducible assumption) | assumption)
                                  obtain ⟨ad553, A553_0, c553_0, e553, hx553_0, hl553_0, hi553_0⟩ := at_L1 (Kd.N_reads' HO_10.out).2.2 x11_2 p553 q553
                                  cases e553
                                  obtain ⟨ce553, hce553, hMe553, hcc553⟩ := Kd.N_get HO_10.out [] x11_2 p553 (by first | exact q553 | exact of_decide_eq_true (by first | (with_reducible assumption) | assumption) | (have e_ := (Kd.N_reads' HO_10.out).1; omega))
                                  obtain ⟨ua553_0, uc553_0, rfl, ul553_0, ge553_0⟩ := Kd.FK_slice_open hMe553
                                  have hv553_0 := hcc553 0 _ rfl
                                  rw [Nat.add_zero, show ((Kd.slice 2 (Kd.int .i64))).sz = 1 from rfl, Nat.mul_one] at hv553_0
                                  replace hv553_0 := Option.some.inj (hv553_0.symm.trans hx553_0)
                                  injection hv553_0 with hva_ hvn_ hvc_
                                  rw [hva_] at ge553_0
                                  rw [hvc_] at ul553_0
                                  have HL553_0 := Aside0.mk (show Kd.V (Kd.int .i64) 2 _ w.heap.size _ _ (rd_L1 y550 x11_2) from Kd.V_mk ul553_0 ge553_0)
                                  clear hva_ hvn_ hvc_ ge553_0 ul553_0
                                  clear hcc553 hce553
                                  have HR553_0 := Aside0.mk hi553_0
                                  have HC553_0 := Aside0.mk hl553_0
                                  clear hi553_0 hl553_0
                                  replace p553 := eq_true p553
                                  replace q553 := eq_true q553
                                  have p554 : 0 ≤ (x11_2 : Int) := of_decide_eq_true (by first | (with_reducible assumption) | assumption)
                                  have q554 : x11_2 < (y550.length : Int) := of_decide_eq_true (by first | (with_reducible assumption) | assumption)
                                  obtain ⟨ad554, A554_0, c554_0, e554, hx554_0, hl554_0, hi554_0⟩ := at_L1 (Kd.N_reads' HO_10.out).2.2 x11_2 p554 q554
                                  obtain rfl : ad553 = ad554 := (by injection e554)
                                  obtain ⟨ce554, hce554, hMe554, hcc554⟩ := Kd.N_get HO_10.out [] x11_2 p554 (by first | exact q554 | exact of_decide_eq_true (by first | (with_reducible assumption) | assumption) | (have e_ := (Kd.N_reads' HO_10.out).1; omega))
                                  obtain ⟨ua554_0, uc554_0, rfl, ul554_0, ge554_0⟩ := Kd.FK_slice_open hMe554
                                  have hv554_0 := hcc554 0 _ rfl
                                  rw [Nat.add_zero, show ((Kd.slice 2 (Kd.int .i64))).sz = 1 from rfl, Nat.mul_one] at hv554_0
                                  replace hv554_0 := Option.some.inj (hv554_0.symm.trans hx554_0)
                                  injection hv554_0 with hva_ hvn_ hvc_
                                  rw [hva_] at ge554_0
                                  rw [hvc_] at ul554_0
                                  have HL554_0 := Aside0.mk (show Kd.V (Kd.int .i64) 2 _ w.heap.size _ _ (rd_L1 y550 x11_2) from Kd.V_mk ul554_0 ge554_0)
                                  clear hva_ hvn_ hvc_ ge554_0 ul554_0
                                  clear hcc554 hce554
                                  have HR554_0 := Aside0.mk hi554_0
                                  have HC554_0 := Aside0.mk hl554_0
                                  clear hi554_0 hl554_0
                                  replace p554 := eq_true p554
                                  replace q554 := eq_true q554
                                  have ea_ := Option.some.inj (hx553_0.symm.trans hx554_0)
                                  injection ea_ with ea_ en_ ec_
                                  subst ea_
                                  subst ec_
                                  clear en_
                                  have p555 : 0 ≤ (x13_3 : Int) := of_decide_eq_true (by first | (with_reducible assumption) | assumption)
                                  have q555 : x13_3 < ((rd_L1 y550 x11_2).length : Int) := of_decide_eq_true (by first | (with_reducible assumption) | assumption)
                                  obtain ⟨ad555, e555, hx555_0⟩ := Kd.at_int (by repeat (first | (with_reducible exact HR554_0.out) | (with_reducible refine Kd.C_alloc ?_ _) | (with_reducible refine Kd.C_drewN ?_ _) | (with_reducible refine Kd.C_drew ?_) | exact HR554_0.out)) x13_3 p555 q555
                                  cases e555
                                  replace p555 := eq_true p555
                                  replace q555 := eq_true q555
                                  have p556 : 0 ≤ (x11_2 : Int) := of_decide_eq_true (by first | (with_reducible assumption) | assumption)
                                  have q556 : x11_2 < (y550.length : Int) := of_decide_eq_true (by first | (with_reducible assumption) | assumption)
                                  obtain ⟨ad556, A556_0, c556_0, e556, hx556_0, hl556_0, hi556_0⟩ := at_L1 (Kd.N_reads' HO_10.out).2.2 x11_2 p556 q556
                                  obtain rfl : ad553 = ad556 := (by injection e556)
                                  obtain ⟨ce556, hce556, hMe556, hcc556⟩ := Kd.N_get HO_10.out [] x11_2 p556 (by first | exact q556 | exact of_decide_eq_true (by first | (with_reducible assumption) | assumption) | (have e_ := (Kd.N_reads' HO_10.out).1; omega))
                                  obtain ⟨ua556_0, uc556_0, rfl, ul556_0, ge556_0⟩ := Kd.FK_slice_open hMe556
                                  have hv556_0 := hcc556 0 _ rfl
                                  rw [Nat.add_zero, show ((Kd.slice 2 (Kd.int .i64))).sz = 1 from rfl, Nat.mul_one] at hv556_0
                                  replace hv556_0 := Option.some.inj (hv556_0.symm.trans hx556_0)
                                  injection hv556_0 with hva_ hvn_ hvc_
                                  rw [hva_] at ge556_0
                                  rw [hvc_] at ul556_0
                                  have HL556_0 := Aside0.mk (show Kd.V (Kd.int .i64) 2 _ w.heap.size _ _ (rd_L1 y550 x11_2) from Kd.V_mk ul556_0 ge556_0)
                                  clear hva_ hvn_ hvc_ ge556_0 ul556_0
                                  clear hcc556 hce556
                                  have HR556_0 := Aside0.mk hi556_0
                                  have HC556_0 := Aside0.mk hl556_0
                                  clear hi556_0 hl556_0
                                  replace p556 := eq_true p556
                                  replace q556 := eq_true q556
                                  have ea_ := Option.some.inj (hx553_0.symm.trans hx556_0)
                                  injection ea_ with ea_ en_ ec_
                                  subst ea_
                                  subst ec_
                                  clear en_
                                  have p557 : 0 ≤ (x13_3 : Int) := of_decide_eq_true (by first | (with_reducible assumption) | assumption)
                                  have q557 : x13_3 < ((rd_L1 y550 x11_2).length : Int) := of_decide_eq_true (by first | (with_reducible assumption) | assumption)
                                  obtain ⟨ad557, e557, hx557_0⟩ := Kd.at_int (by repeat (first | (with_reducible exact HR556_0.out) | (with_reducible refine Kd.C_alloc ?_ _) | (with_reducible refine Kd.C_drewN ?_ _) | (with_reducible refine Kd.C_drew ?_) | exact HR556_0.out)) x13_3 p557 q557
                                  cases e557
                                  replace p557 := eq_true p557
                                  replace q557 := eq_true q557
                                  have p558 : 0 ≤ (x11_2 : Int) := of_decide_eq_true (by first | (with_reducible assumption) | assumption)
                                  have q558 : x11_2 < (y550.length : Int) := of_decide_eq_true (by first | (with_reducible assumption) | assumption)
                                  obtain ⟨ad558, A558_0, c558_0, e558, hx558_0, hl558_0, hi558_0⟩ := at_L1 (Kd.N_reads' HO_10.out).2.2 x11_2 p558 q558
                                  obtain rfl : ad553 = ad558 := (by injection e558)
                                  obtain ⟨ce558, hce558, hMe558, hcc558⟩ := Kd.N_get HO_10.out [] x11_2 p558 (by first | exact q558 | exact of_decide_eq_true (by first | (with_reducible assumption) | assumption) | (have e_ := (Kd.N_reads' HO_10.out).1; omega))
                                  obtain ⟨ua558_0, uc558_0, rfl, ul558_0, ge558_0⟩ := Kd.FK_slice_open hMe558
                                  have hv558_0 := hcc558 0 _ rfl
                                  rw [Nat.add_zero, show ((Kd.slice 2 (Kd.int .i64))).sz = 1 from rfl, Nat.mul_one] at hv558_0
                                  replace hv558_0 := Option.some.inj (hv558_0.symm.trans hx558_0)
                                  injection hv558_0 with hva_ hvn_ hvc_
                                  rw [hva_] at ge558_0
                                  rw [hvc_] at ul558_0
                                  have HL558_0 := Aside0.mk (show Kd.V (Kd.int .i64) 2 _ w.heap.size _ _ (rd_L1 y550 x11_2) from Kd.V_mk ul558_0 ge558_0)
                                  clear hva_ hvn_ hvc_ ge558_0 ul558_0
                                  clear hcc558 hce558
                                  have HR558_0 := Aside0.mk hi558_0
                                  have HC558_0 := Aside0.mk hl558_0
                                  clear hi558_0 hl558_0
                                  replace p558 := eq_true p558
                                  replace q558 := eq_true q558
                                  have ea_ := Option.some.inj (hx553_0.symm.trans hx558_0)
                                  injection ea_ with ea_ en_ ec_
                                  subst ea_
                                  subst ec_
                                  clear en_
                                  have p559 : 0 ≤ (x13_3 : Int) := of_decide_eq_true (by first | (with_reducible assumption) | assumption)
                                  have q559 : x13_3 < ((rd_L1 y550 x11_2).length : Int) := of_decide_eq_true (by first | (with_reducible assumption) | assumption)
                                  obtain ⟨ad559, e559, hx559_0⟩ := Kd.at_int (by repeat (first | (with_reducible exact HR558_0.out) | (with_reducible refine Kd.C_alloc ?_ _) | (with_reducible refine Kd.C_drewN ?_ _) | (with_reducible refine Kd.C_drew ?_) | exact HR558_0.out)) x13_3 p559 q559
                                  cases e559
                                  replace p559 := eq_true p559
                                  replace q559 := eq_true q559
                                  go_wp2
                                  go_roundg k3
                                  case measure => have := HJ9.out; have := HK2.out; have := HK3.out; omega
                                  case rel => exact ⟨(rd (rd_L1 y550 x11_2) x13_3), (wrap64 (x13_3 + 1)), (by first | rfl | (simp; done) | (simp [*]; done)), (by first | rfl | (simp; done) | (simp [*]; done)), H', ⟨by have := HJ9.out; have := HK2.out; have := HK3.out; omega⟩, ⟨by (with_reducible repeat (first | apply Kd.N_alloc | apply Kd.N_drewN | apply Kd.N_drew)); exact HO_10.out⟩, ⟨by (with_reducible repeat (first | refine blk_drewN ?_ _ | refine blk_drew ?_ | refine blk_alloc ?_ _)); exact BK537.out⟩, ⟨by repeat (first | (with_reducible first | exact HB.out | apply below_alloc | apply pw_below_drewN | apply below_drew1 | refine below_set ?_ GE537.out) | exact HB.out)⟩⟩
                            · rw [if_neg c33] at H
                              exact absurd H (by simp)
                          · rw [if_neg c32] at H
                            have c32b0 : decide (x13_3 < ((rd_L1 y550 x11_2).length : Int)) = false := decide_eq_false c32
                            clear c32
                            have H' := Aside0.mk H
                            clear H
                            obtain ⟨Ao37, co37, eo37⟩ := Kd.N_slice HO_10.out
                            subst eo37
                            have p553 : 0 ≤ (x11_2 : Int) := of_decide_eq_true (by first | (with_reducible assumption) | assumption)
                            have q553 : x11_2 < (y550.length : Int) := of_decide_eq_true (by first | (with_reducible assumption) | assumption)
                            obtain ⟨ad553, A553_0, c553_0, e553, hx553_0, hl553_0, hi553_0⟩ := at_L1 (Kd.N_reads' HO_10.out).2.2 x11_2 p553 q553
                            cases e553
                            obtain ⟨ce553, hce553, hMe553, hcc553⟩ := Kd.N_get HO_10.out [] x11_2 p553 (by first | exact q553 | exact of_decide_eq_true (by first | (with_reducible assumption) | assumption) | (have e_ := (Kd.N_reads' HO_10.out).1; omega))
                            obtain ⟨ua553_0, uc553_0, rfl, ul553_0, ge553_0⟩ := Kd.FK_slice_open hMe553
                            have hv553_0 := hcc553 0 _ rfl
                            rw [Nat.add_zero, show ((Kd.slice 2 (Kd.int .i64))).sz = 1 from rfl, Nat.mul_one] at hv553_0
                            replace hv553_0 := Option.some.inj (hv553_0.symm.trans hx553_0)
                            injection hv553_0 with hva_ hvn_ hvc_
                            rw [hva_] at ge553_0
                            rw [hvc_] at ul553_0
                            have HL553_0 := Aside0.mk (show Kd.V (Kd.int .i64) 2 _ w.heap.size _ _ (rd_L1 y550 x11_2) from Kd.V_mk ul553_0 ge553_0)
                            clear hva_ hvn_ hvc_ ge553_0 ul553_0
                            clear hcc553 hce553
                            have HR553_0 := Aside0.mk hi553_0
                            have HC553_0 := Aside0.mk hl553_0
                            clear hi553_0 hl553_0
                            replace p553 := eq_true p553
                            replace q553 := eq_true q553
                            go_wp2
                            go_roundg k3
                            case measure => have := HJ9.out; have := HK2.out; have := HK3.out; omega
                            case rel => exact ⟨(wrap64 (x11_2 + 1)), (by first | rfl | (simp; done) | (simp [*]; done)), H', ⟨by have := HJ9.out; have := HK2.out; have := HK3.out; omega⟩, ⟨by (with_reducible repeat (first | apply Kd.N_alloc | apply Kd.N_drewN | apply Kd.N_drew)); exact HO_10.out⟩, ⟨by (with_reducible repeat (first | refine blk_drewN ?_ _ | refine blk_drew ?_ | refine blk_alloc ?_ _)); exact BK537.out⟩, ⟨by repeat (first | (with_reducible first | exact HB.out | apply below_alloc | apply pw_below_drewN | apply below_drew1 | refine below_set ?_ GE537.out) | exact HB.out)⟩⟩
                        · rw [if_neg c31] at H
                          exact absurd H (by simp)
                      · rw [if_neg c30] at H
                        exact absurd H (by simp)
                · rw [if_neg c29] at H
                  have c29b0 : decide (x11_2 < 2) = false := decide_eq_false c29
                  clear c29
                  obtain rfl := Option.some.inj H
                  go_wp2
                  go_ret
                  exact ⟨by first | rfl | (simp [errW_none, errW_some] <;> rfl) | (simp [*, errW_none, errW_some] <;> rfl), by repeat (first | (with_reducible first | exact HB.out | apply below_alloc | apply pw_below_drewN | apply below_drew1 | refine below_set ?_ GE537.out) | exact HB.out)⟩
  · replace c5 := Bool.eq_false_iff.mpr c5
    subst c5
    have H1 : (none) = some r := by rw [if_neg (show ¬ (false = true) by decide)] at H; exact H
    clear H
    have H := H1
    clear H1
    exact absurd H (by simp)

/-- THE ONE PURE STATEMENT of madrigallaw6_LsfRises. -/
def madrigallaw6_LsfRises.Pure : Prop := ∀ (l0 : List Int) (a1 : Int) (a2_0 : Int) (l2_1 : List Int), l0.length ≤ maxLen → l0.length * 8 ≤ 140737488351232 → (∀ x ∈ l0, (Lit.int .i64 x).wf = true) → (Lit.int .i64 a1).wf = true → (Lit.int .i64 a2_0).wf = true → l2_1.length ≤ maxLen → (∀ x ∈ l2_1, (Lit.int .i64 x).wf = true) → ∃ k, madrigallaw6_LsfRises.f k l0 a1 a2_0 l2_1 = some true
theorem madrigallaw6_LsfRises.walk (P : madrigallaw6_LsfRises.Pure) (a0 : Option Addr) (len0 cap0 : Nat) (z0 : List Int) (a1 : Int) (a2_0 : Int) (a2 : Option Addr) (len2 cap2 : Nat) (z2 : List Int) (w : World) (w0 : (a0 = none ∧ len0 = 0 ∧ cap0 = 0 ∧ z0 = []) ∨ ∃ x, a0 = some x ∧ len0 ≤ cap0 ∧ cap0 ≤ maxLen ∧ z0.length = cap0 ∧ (∀ i, i < z0.length → w.cell? (x.add i) = some (.int .i64 (z0.getD i 0))) ∧ ∀ n ∈ z0, (Lit.int .i64 n).wf = true) (y0 : len0 * 8 ≤ 140737488351232) (w1 : (Lit.int .i64 a1).wf = true) (v2 : (Lit.int .i64 a2_0).wf = true) (w2 : (a2 = none ∧ len2 = 0 ∧ cap2 = 0 ∧ z2 = []) ∨ ∃ x, a2 = some x ∧ len2 ≤ cap2 ∧ cap2 ≤ maxLen ∧ z2.length = cap2 ∧ (∀ i, i < z2.length → w.cell? (x.add i) = some (.int .i64 (z2.getD i 0))) ∧ ∀ n ∈ z2, (Lit.int .i64 n).wf = true) :
    Calls Try.prog 9 #[.slice a0 len0 cap0, .int .i64 a1, .agg #[.int .i64 a2_0, .slice a2 len2 cap2]] w fun e w' => e = .returned (.bool true) ∧ Below w.heap.size w w' := by
  obtain ⟨l0, rfl, hr0, hm0, hw0, hc0⟩ := ReadsInt.ofRowC w0
  obtain ⟨l2, rfl, hr2, hm2, hw2, hc2⟩ := ReadsInt.ofRowC w2
  obtain ⟨k, h⟩ := P l0 a1 a2_0 l2 hm0 y0 hw0 w1 v2 hm2 hw2
  refine (madrigallaw6_LsfRises.calls k _ _ l0 a1 a2_0 _ _ l2 true w (Kd.C_of_reads (d := (0 : Int)) (h1 := fun _ => rfl) hr0) hc0 (Kd.C_of_reads (d := (0 : Int)) (h1 := fun _ => rfl) hr2) hc2 h).mono ?_
  rintro e w' ⟨rfl, hd⟩
  exact ⟨rfl, hd⟩

end Go.Proofs.Ytdchabinakboeaa.P
