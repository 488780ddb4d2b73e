/- The machine side of the laws of one chapter, without conditions: each call of a Go function comes to what the Lean function of its name answers. Written for this claim by a program of the prover. -/
import Derived.Test.YtdchabinakboeaaPx0
import Derived.Test.YtdchabinakboeaaPx21
import Derived.Test.YtdchabinakboeaaPx29
import Derived.Test.YtdchabinakboeaaPx30
import Derived.Test.YtdchabinakboeaaPx31
import Derived.Test.YtdchabinakboeaaPx33
import Derived.Test.YtdchabinakboeaaPx37
import Derived.Test.YtdchabinakboeaaPx38
namespace Go.Proofs.Ytdchabinakboeaa.P
open Go.RowKit Go.Proofs.YtdchabinakboeaaW.PrintWords Go.Proofs.YtdchabinakboeaaW.PrintLast Go.Proofs.YtdchabinakboeaaW.PrintMore
attribute [local go_sem] max2_int min2_int max_two min_two max_three min_three max_four min_four   -- for this text's walks alone
set_option linter.unusedVariables false
set_option linter.unusedSimpArgs false

/-! ### madrigallaw6_LsfNear: function 10 -/
mutual
def madrigallaw6_LsfNear.j0 : Nat → Int → List Int → Bool → Int → List Int → Option (Bool)
  | 0, _, _, _, _, _ => none
  | k + 1, x0, x5, x40, x572000, x572001 => if x40 = true then (none) else ((madrigalref1_Lsf.f k x0 x572000).bind fun t573 => (madrigallaw6_LsfNear.l0 k x0 x5 t573 0 x572000 x572001))
def madrigallaw6_LsfNear.l0 : Nat → Int → List Int → List Int → Int → Int → List Int → Option (Bool)
  | 0, _, _, _, _, _, _ => none
  | k + 1, x0, x5, x8, x9, x572000, x572001 => if x9 < x0 then (if 0 ≤ x9 then (if x9 < (x8.length : Int) then (if x9 < (x5.length : Int) then ((madrigalref6_Step.f x0).bind fun t579 => (if x9 < (x572001.length : Int) then (if (wrap64 ((rd x8 x9) - (rd x5 x9))) < 0 then (madrigallaw6_LsfNear.j2 k x0 x5 x8 x9 (wrap64 (-(wrap64 ((rd x8 x9) - (rd x5 x9))))) (wrap64 ((wrap64 ((rd x8 x9) + (wrap64 (t579 * (rd x572001 x9))))) - (rd x5 x9))) x572000 x572001) else (madrigallaw6_LsfNear.j2 k x0 x5 x8 x9 (wrap64 ((rd x8 x9) - (rd x5 x9))) (wrap64 ((wrap64 ((rd x8 x9) + (wrap64 (t579 * (rd x572001 x9))))) - (rd x5 x9))) x572000 x572001)) else (none))) else (none)) else (none)) else (none)) else (some true)
def madrigallaw6_LsfNear.j2 : Nat → Int → List Int → List Int → Int → Int → Int → Int → List Int → Option (Bool)
  | 0, _, _, _, _, _, _, _, _ => none
  | k + 1, x0, x5, x8, x9, x10, x11, x572000, x572001 => if x11 < 0 then (if (wrap64 (-x11)) > x10 then (none) else (madrigallaw6_LsfNear.l0 k x0 x5 x8 (wrap64 (x9 + 1)) x572000 x572001)) else (if x11 > x10 then (none) else (madrigallaw6_LsfNear.l0 k x0 x5 x8 (wrap64 (x9 + 1)) x572000 x572001))
end
def madrigallaw6_LsfNear.f (k : Nat) (a0 : Int) (a1_0 : Int) (l1_1 : List Int) : Option (Bool) := (madrigallaw6_awake.f k).bind fun t561 => (if t561 = true then ((madrigalref6_GoodIndex.f k a0 a1_0 l1_1).bind fun t562 => (if t562 = true then ((madrigalref6_Decode.f k a0 a1_0 l1_1).bind fun t563 => ((lsf_Search.f k a0 t563).bind fun bt566 => (if bt566.2.2 = 0 then ((lsf_Good.f k a0 bt566.1 bt566.2.1).bind fun t572 => (madrigallaw6_LsfNear.j0 k a0 t563 (!t572) bt566.1 bt566.2.1)) else (madrigallaw6_LsfNear.j0 k a0 t563 true bt566.1 bt566.2.1)))) else (some true))) else (none))
theorem madrigallaw6_LsfNear.mono_l : ∀ k, (∀ y0 y1 y2 y3 y4, LeO (madrigallaw6_LsfNear.j0 k y0 y1 y2 y3 y4) (madrigallaw6_LsfNear.j0 (k + 1) y0 y1 y2 y3 y4)) ∧ (∀ y0 y1 y2 y3 y4 y5, LeO (madrigallaw6_LsfNear.l0 k y0 y1 y2 y3 y4 y5) (madrigallaw6_LsfNear.l0 (k + 1) y0 y1 y2 y3 y4 y5)) ∧ (∀ y0 y1 y2 y3 y4 y5 y6 y7, LeO (madrigallaw6_LsfNear.j2 k y0 y1 y2 y3 y4 y5 y6 y7) (madrigallaw6_LsfNear.j2 (k + 1) y0 y1 y2 y3 y4 y5 y6 y7))
  | 0 => ⟨fun _ _ _ _ _ r h => by simp [madrigallaw6_LsfNear.j0] at h, fun _ _ _ _ _ _ r h => by simp [madrigallaw6_LsfNear.l0] at h, fun _ _ _ _ _ _ _ _ r h => by simp [madrigallaw6_LsfNear.j2] at h⟩
  | k + 1 => by
    obtain ⟨ih0, ih1, ih2⟩ := madrigallaw6_LsfNear.mono_l k
    refine ⟨?_, ?_, ?_⟩
    · intro y0 y1 y2 y3 y4
      unfold madrigallaw6_LsfNear.j0
      repeat' first
      | (with_reducible exact ih0 _ _ _ _ _)
      | (with_reducible exact ih1 _ _ _ _ _ _)
      | (with_reducible exact ih2 _ _ _ _ _ _ _ _)
      | (with_reducible exact lsf_Good.mono _ _ _ _)
      | (with_reducible exact lsf_Search.mono _ _ _)
      | (with_reducible exact madrigallaw6_awake.mono _)
      | (with_reducible exact madrigalref1_Lsf.mono _ _ _)
      | (with_reducible exact madrigalref6_Decode.mono _ _ _ _)
      | (with_reducible exact madrigalref6_GoodIndex.mono _ _ _ _)
      | (with_reducible exact LeO.refl _)
      | (with_reducible exact LeO.none _)
      | (with_reducible refine LeO.ite ?_ ?_)
      | (with_reducible refine LeO.bind ?_ (fun _ => ?_))
      | exact ih0 _ _ _ _ _
      | exact ih1 _ _ _ _ _ _
      | exact ih2 _ _ _ _ _ _ _ _
      | exact lsf_Good.mono _ _ _ _
      | exact lsf_Search.mono _ _ _
      | exact madrigallaw6_awake.mono _
      | exact madrigalref1_Lsf.mono _ _ _
      | exact madrigalref6_Decode.mono _ _ _ _
      | exact madrigalref6_GoodIndex.mono _ _ _ _
      | exact LeO.none _
      | refine LeO.ite ?_ ?_
      | refine LeO.bind ?_ (fun _ => ?_)
    · intro y0 y1 y2 y3 y4 y5
      unfold madrigallaw6_LsfNear.l0
      repeat' first
      | (with_reducible exact ih0 _ _ _ _ _)
      | (with_reducible exact ih1 _ _ _ _ _ _)
      | (with_reducible exact ih2 _ _ _ _ _ _ _ _)
      | (with_reducible exact lsf_Good.mono _ _ _ _)
      | (with_reducible exact lsf_Search.mono _ _ _)
      | (with_reducible exact madrigallaw6_awake.mono _)
      | (with_reducible exact madrigalref1_Lsf.mono _ _ _)
      | (with_reducible exact madrigalref6_Decode.mono _ _ _ _)
      | (with_reducible exact madrigalref6_GoodIndex.mono _ _ _ _)
      | (with_reducible exact LeO.refl _)
      | (with_reducible exact LeO.none _)
      | (with_reducible refine LeO.ite ?_ ?_)
      | (with_reducible refine LeO.bind ?_ (fun _ => ?_))
      | exact ih0 _ _ _ _ _
      | exact ih1 _ _ _ _ _ _
      | exact ih2 _ _ _ _ _ _ _ _
      | exact lsf_Good.mono _ _ _ _
      | exact lsf_Search.mono _ _ _
      | exact madrigallaw6_awake.mono _
      | exact madrigalref1_Lsf.mono _ _ _
      | exact madrigalref6_Decode.mono _ _ _ _
      | exact madrigalref6_GoodIndex.mono _ _ _ _
      | exact LeO.none _
      | refine LeO.ite ?_ ?_
      | refine LeO.bind ?_ (fun _ => ?_)
    · intro y0 y1 y2 y3 y4 y5 y6 y7
      unfold madrigallaw6_LsfNear.j2
      repeat' first
      | (with_reducible exact ih0 _ _ _ _ _)
      | (with_reducible exact ih1 _ _ _ _ _ _)
      | (with_reducible exact ih2 _ _ _ _ _ _ _ _)
      | (with_reducible exact lsf_Good.mono _ _ _ _)
      | (with_reducible exact lsf_Search.mono _ _ _)
      | (with_reducible exact madrigallaw6_awake.mono _)
      | (with_reducible exact madrigalref1_Lsf.mono _ _ _)
      | (with_reducible exact madrigalref6_Decode.mono _ _ _ _)
      | (with_reducible exact madrigalref6_GoodIndex.mono _ _ _ _)
      | (with_reducible exact LeO.refl _)
      | (with_reducible exact LeO.none _)
      | (with_reducible refine LeO.ite ?_ ?_)
      | (with_reducible refine LeO.bind ?_ (fun _ => ?_))
      | exact ih0 _ _ _ _ _
      | exact ih1 _ _ _ _ _ _
      | exact ih2 _ _ _ _ _ _ _ _
      | exact lsf_Good.mono _ _ _ _
      | exact lsf_Search.mono _ _ _
      | exact madrigallaw6_awake.mono _
      | exact madrigalref1_Lsf.mono _ _ _
      | exact madrigalref6_Decode.mono _ _ _ _
      | exact madrigalref6_GoodIndex.mono _ _ _ _
      | exact LeO.none _
      | refine LeO.ite ?_ ?_
      | refine LeO.bind ?_ (fun _ => ?_)
theorem madrigallaw6_LsfNear.mono : ∀ a0 a1 a2 k, LeO (madrigallaw6_LsfNear.f k a0 a1 a2) (madrigallaw6_LsfNear.f (k + 1) a0 a1 a2) := by
  intro a0 a1 a2 k
  obtain ⟨ih0, ih1, ih2⟩ := madrigallaw6_LsfNear.mono_l k
  unfold madrigallaw6_LsfNear.f
  repeat' first
      | (with_reducible exact ih0 _ _ _ _ _)
      | (with_reducible exact ih1 _ _ _ _ _ _)
      | (with_reducible exact ih2 _ _ _ _ _ _ _ _)
      | (with_reducible exact lsf_Good.mono _ _ _ _)
      | (with_reducible exact lsf_Search.mono _ _ _)
      | (with_reducible exact madrigallaw6_awake.mono _)
      | (with_reducible exact madrigalref1_Lsf.mono _ _ _)
      | (with_reducible exact madrigalref6_Decode.mono _ _ _ _)
      | (with_reducible exact madrigalref6_GoodIndex.mono _ _ _ _)
      | (with_reducible exact LeO.refl _)
      | (with_reducible exact LeO.none _)
      | (with_reducible refine LeO.ite ?_ ?_)
      | (with_reducible refine LeO.bind ?_ (fun _ => ?_))
      | exact ih0 _ _ _ _ _
      | exact ih1 _ _ _ _ _ _
      | exact ih2 _ _ _ _ _ _ _ _
      | exact lsf_Good.mono _ _ _ _
      | exact lsf_Search.mono _ _ _
      | exact madrigallaw6_awake.mono _
      | exact madrigalref1_Lsf.mono _ _ _
      | exact madrigalref6_Decode.mono _ _ _ _
      | exact madrigalref6_GoodIndex.mono _ _ _ _
      | exact LeO.none _
      | refine LeO.ite ?_ ?_
      | refine LeO.bind ?_ (fun _ => ?_)
set_option maxHeartbeats 8000000 in
set_option maxRecDepth 100000 in
theorem madrigallaw6_LsfNear.calls (k : Nat) (a0 : Int) (a1_0 : Int) (A1_1 : Option Addr) (c1_1 : Nat) (l1_1 : List Int) (r : Bool) (w : World) (hr1_1 : Kd.C (Kd.int .i64) w A1_1 l1_1.length l1_1) (hc1_1 : l1_1.length ≤ c1_1) (h : madrigallaw6_LsfNear.f k a0 a1_0 l1_1 = some r) :
    Calls Try.prog 10 #[.int .i64 a0, .agg #[.int .i64 a1_0, .slice A1_1 l1_1.length c1_1]] w fun e w' => e = .returned (.bool r) ∧ Below w.heap.size w w' := by
  have hu42 := Try.underlying42
  have HR1_1 := Aside0.mk hr1_1
  have HC1_1 := Aside0.mk hc1_1
  clear hr1_1 hc1_1
  have HB := Aside0.mk (Below.refl w.heap.size w)
  have H : ((madrigallaw6_awake.f k).bind fun t561 => (if t561 = true then ((madrigalref6_GoodIndex.f k a0 a1_0 l1_1).bind fun t562 => (if t562 = true then ((madrigalref6_Decode.f k a0 a1_0 l1_1).bind fun t563 => ((lsf_Search.f k a0 t563).bind fun bt566 => (if bt566.2.2 = 0 then ((lsf_Good.f k a0 bt566.1 bt566.2.1).bind fun t572 => (madrigallaw6_LsfNear.j0 k a0 t563 (!t572) bt566.1 bt566.2.1)) else (madrigallaw6_LsfNear.j0 k a0 t563 true bt566.1 bt566.2.1)))) else (some true))) else (none))) = some r := h
  clear h
  replace H := Option.bind_eq_some_iff.mp H
  obtain ⟨t561, A30, H⟩ := H
  replace H : (if t561 = true then ((madrigalref6_GoodIndex.f k a0 a1_0 l1_1).bind fun t562 => (if t562 = true then ((madrigalref6_Decode.f k a0 a1_0 l1_1).bind fun t563 => ((lsf_Search.f k a0 t563).bind fun bt566 => (if bt566.2.2 = 0 then ((lsf_Good.f k a0 bt566.1 bt566.2.1).bind fun t572 => (madrigallaw6_LsfNear.j0 k a0 t563 (!t572) bt566.1 bt566.2.1)) else (madrigallaw6_LsfNear.j0 k a0 t563 true bt566.1 bt566.2.1)))) else (some true))) else (none)) = some r := H
  have A3 := Aside0.mk A30
  clear A30
  by_cases c4 : t561 = true
  · subst c4
    have H1 : ((madrigalref6_GoodIndex.f k a0 a1_0 l1_1).bind fun t562 => (if t562 = true then ((madrigalref6_Decode.f k a0 a1_0 l1_1).bind fun t563 => ((lsf_Search.f k a0 t563).bind fun bt566 => (if bt566.2.2 = 0 then ((lsf_Good.f k a0 bt566.1 bt566.2.1).bind fun t572 => (madrigallaw6_LsfNear.j0 k a0 t563 (!t572) bt566.1 bt566.2.1)) else (madrigallaw6_LsfNear.j0 k a0 t563 true bt566.1 bt566.2.1)))) else (some true))) = some r := by rw [if_pos rfl] at H; exact H
    clear H
    have H := H1
    clear H1
    replace H := Option.bind_eq_some_iff.mp H
    obtain ⟨t562, A50, H⟩ := H
    replace H : (if t562 = true then ((madrigalref6_Decode.f k a0 a1_0 l1_1).bind fun t563 => ((lsf_Search.f k a0 t563).bind fun bt566 => (if bt566.2.2 = 0 then ((lsf_Good.f k a0 bt566.1 bt566.2.1).bind fun t572 => (madrigallaw6_LsfNear.j0 k a0 t563 (!t572) bt566.1 bt566.2.1)) else (madrigallaw6_LsfNear.j0 k a0 t563 true bt566.1 bt566.2.1)))) else (some true)) = some r := H
    have A5 := Aside0.mk A50
    clear A50
    by_cases c6 : t562 = true
    · subst c6
      have H1 : ((madrigalref6_Decode.f k a0 a1_0 l1_1).bind fun t563 => ((lsf_Search.f k a0 t563).bind fun bt566 => (if bt566.2.2 = 0 then ((lsf_Good.f k a0 bt566.1 bt566.2.1).bind fun t572 => (madrigallaw6_LsfNear.j0 k a0 t563 (!t572) bt566.1 bt566.2.1)) else (madrigallaw6_LsfNear.j0 k a0 t563 true bt566.1 bt566.2.1)))) = some r := by rw [if_pos rfl] at H; exact H
      clear H
      have H := H1
      clear H1
      replace H := Option.bind_eq_some_iff.mp H
      obtain ⟨t563, A70, H⟩ := H
      replace H : ((lsf_Search.f k a0 t563).bind fun bt566 => (if bt566.2.2 = 0 then ((lsf_Good.f k a0 bt566.1 bt566.2.1).bind fun t572 => (madrigallaw6_LsfNear.j0 k a0 t563 (!t572) bt566.1 bt566.2.1)) else (madrigallaw6_LsfNear.j0 k a0 t563 true bt566.1 bt566.2.1))) = some r := H
      have A7 := Aside0.mk A70
      clear A70
      replace H := Option.bind_eq_some_iff.mp H
      obtain ⟨⟨t566, t567, t570⟩, A80, H⟩ := H
      replace H : (if t570 = 0 then ((lsf_Good.f k a0 t566 t567).bind fun t572 => (madrigallaw6_LsfNear.j0 k a0 t563 (!t572) t566 t567)) else (madrigallaw6_LsfNear.j0 k a0 t563 true t566 t567)) = some r := H
      have A8 := Aside0.mk A80
      clear A80
      have HC9 := Aside0.mk H
      clear H
      go_enter Try.func10, Try.ntmps10
      go_upto_region 7 with (first | ((with_reducible refine gate_dst (N := 3) rfl ?_); refine box_event ?hg (N := 3) ?hd (cs := #[.int .i64 a1_0, .slice A1_1 l1_1.length c1_1]) (t := 42) ?hr ?_; (case hd => rfl); (case hg => rfl); (case hr => first | (go_simp; done) | (go_simp; rfl)); intro gb560 hg w10 hbox hb; have n0_ := Aside0.mk (below_step (by repeat (first | (with_reducible first | exact HB.out | apply below_alloc | apply pw_below_drewN | apply below_drew1) | exact HB.out)) hb); have n1_ := Aside0.mk (hbox); have n2_ := Aside0.mk ((by rw [hg]; exact (below_size (by repeat (first | (with_reducible first | exact HB.out | apply below_alloc | apply pw_below_drewN | apply below_drew1) | exact HB.out))) : w.heap.size ≤ gb560)); have n3_ := Aside0.mk ((by rw [hg]; exact (below_size (by repeat (first | (with_reducible first | exact HB.out | apply below_alloc | apply pw_below_drewN | apply below_drew1) | exact HB.out))) : w.heap.size ≤ gb560)); clear HB; have HB := n0_; have BK560 := n1_; have GW560 := n2_; have GE560 := n3_; clear n0_ n1_ n2_ n3_; clear hb hbox hg) | (go_at_call 22; (with_reducible refine (madrigallaw6_awake.calls k  true _ A3.out).mono ?_); rintro e w11 ⟨rfl, hb⟩; have n0_ := Aside0.mk (blk_below (g := gb560) (o := .cells #[.int .i64 a1_0, .slice A1_1 l1_1.length c1_1] 42 (0, 0)) (by (with_reducible repeat (first | refine blk_drewN ?_ _ | refine blk_drew ?_ | refine blk_alloc ?_ _)); exact BK560.out) hb); have n1_ := Aside0.mk (below_step (by repeat (first | (with_reducible first | exact HB.out | apply below_alloc | apply pw_below_drewN | apply below_drew1 | refine below_set ?_ GE560.out) | exact HB.out)) hb); clear BK560; clear HB; have BK560 := n0_; have HB := n1_; clear n0_ n1_; (try clear hb); (try clear hb2); (try clear hk); (try clear hi); (try clear hge); have hcz12_0 : w11.cell? ⟨gb560, 0, none⟩ = some (.int .i64 a1_0) := (blk_cell BK560.out 0).trans rfl; have hcz12_1 : w11.cell? ⟨gb560, 1, none⟩ = some (.slice A1_1 l1_1.length c1_1) := (blk_cell BK560.out 1).trans rfl; have hfz12_0 := blk_frozen BK560.out 0; have hfz12_1 := blk_frozen BK560.out 1) | (go_at_call 28; (with_reducible refine (madrigalref6_GoodIndex.calls k a0 a1_0 _ _ l1_1 true _ ?side1 ?side2 A5.out).mono ?_); (case side1 => repeat (first | exact (Kd.C_below HR1_1.out HB.out) | (with_reducible refine Kd.C_alloc ?_ _) | (with_reducible refine Kd.C_drewN ?_ _) | (with_reducible refine Kd.C_drew ?_))); (case side2 => exact HC1_1.out); rintro e w' ⟨rfl, ⟨nd, rfl⟩⟩; (try first | exact ⟨rfl, _, World.drewN_drewN _ _ _⟩ | exact ⟨rfl, _, Eq.trans (World.drewN_drewN _ _ _) (congrArg (World.drewN _) (Nat.add_assoc _ _ _))⟩)) | (go_at_call 30; (with_reducible refine (madrigalref6_Decode.calls k a0 a1_0 _ _ l1_1 t563 _ ?side1 ?side2 A7.out).mono ?_); (case side1 => repeat (first | exact (Kd.C_below HR1_1.out (by repeat (first | (with_reducible first | exact HB.out | apply below_alloc | apply pw_below_drewN | apply below_drew1 | refine below_set ?_ GE560.out) | exact HB.out))) | (with_reducible refine Kd.C_alloc ?_ _) | (with_reducible refine Kd.C_drewN ?_ _) | (with_reducible refine Kd.C_drew ?_))); (case side2 => exact HC1_1.out); rintro e w13 ⟨v564, rfl, ho0, hb⟩; have n0_ := Aside0.mk (Kd.R_lower ho0 (below_size (by repeat (first | (with_reducible first | exact HB.out | apply below_alloc | apply pw_below_drewN | apply below_drew1 | refine below_set ?_ GE560.out) | exact HB.out)))); have n1_ := Aside0.mk (blk_below (g := gb560) (o := .cells #[.int .i64 a1_0, .slice A1_1 l1_1.length c1_1] 42 (0, 0)) (by (with_reducible repeat (first | refine blk_drewN ?_ _ | refine blk_drew ?_ | refine blk_alloc ?_ _)); exact BK560.out) hb); have n2_ := Aside0.mk (below_step (by repeat (first | (with_reducible first | exact HB.out | apply below_alloc | apply pw_below_drewN | apply below_drew1 | refine below_set ?_ GE560.out) | exact HB.out)) hb); clear BK560; clear HB; have HO565 := n0_; have BK560 := n1_; have HB := n2_; clear n0_ n1_ n2_; (try clear hb); (try clear hb2); (try clear hk); (try clear hi); (try clear hge); (try clear ho0); obtain ⟨Ao14, co14, eo14⟩ := Kd.R_slice HO565.out; subst eo14) | (go_at_call 25; (with_reducible refine (lsf_Search.calls k a0 _ _ t563 t566 t567 t570 _ ?side1 ?side2 A8.out).mono ?_); (case side1 => repeat (first | exact (Kd.R_reads' HO565.out).2.2 | (with_reducible refine Kd.C_alloc ?_ _) | (with_reducible refine Kd.C_drewN ?_ _) | (with_reducible refine Kd.C_drew ?_))); (case side2 => exact (Kd.R_reads' HO565.out).2.1); rintro e w15 ⟨v568, rfl, ho0, hb⟩; have n0_ := Aside0.mk (Kd.R_below (by (with_reducible repeat (first | apply Kd.R_alloc | apply Kd.R_drewN | apply Kd.R_drew)); exact HO565.out) hb); have n1_ := Aside0.mk (Kd.R_lower ho0 (below_size (by repeat (first | (with_reducible first | exact HB.out | apply below_alloc | apply pw_below_drewN | apply below_drew1 | refine below_set ?_ GE560.out) | exact HB.out)))); have n2_ := Aside0.mk (blk_below (g := gb560) (o := .cells #[.int .i64 a1_0, .slice A1_1 l1_1.length c1_1] 42 (0, 0)) (by (with_reducible repeat (first | refine blk_drewN ?_ _ | refine blk_drew ?_ | refine blk_alloc ?_ _)); exact BK560.out) hb); have n3_ := Aside0.mk (below_step (by repeat (first | (with_reducible first | exact HB.out | apply below_alloc | apply pw_below_drewN | apply below_drew1 | refine below_set ?_ GE560.out) | exact HB.out)) hb); clear HO565; clear BK560; clear HB; have HO565 := n0_; have HO569 := n1_; have BK560 := n2_; have HB := n3_; clear n0_ n1_ n2_ n3_; (try clear hb); (try clear hb2); (try clear hk); (try clear hi); (try clear hge); (try clear ho0)) | ((with_reducible refine gate_dst (N := 6) rfl ?_); refine box_event ?hg (N := 6) ?hd (cs := #[.int .i64 0, .slice none 0 0]) (t := 42) ?hr ?_; (case hd => rfl); (case hg => rfl); (case hr => first | (go_simp; done) | (go_simp; rfl)); intro gb571 hg w16 hbox hb; have n0_ := Aside0.mk (Kd.R_below (by (with_reducible repeat (first | apply Kd.R_alloc | apply Kd.R_drewN | apply Kd.R_drew)); exact HO565.out) hb); have n1_ := Aside0.mk (Kd.R_below (by (with_reducible repeat (first | apply Kd.R_alloc | apply Kd.R_drewN | apply Kd.R_drew)); exact HO569.out) hb); have n2_ := Aside0.mk (blk_below (g := gb560) (o := .cells #[.int .i64 a1_0, .slice A1_1 l1_1.length c1_1] 42 (0, 0)) (by (with_reducible repeat (first | refine blk_drewN ?_ _ | refine blk_drew ?_ | refine blk_alloc ?_ _)); exact BK560.out) hb); have n3_ := Aside0.mk (below_step (by repeat (first | (with_reducible first | exact HB.out | apply below_alloc | apply pw_below_drewN | apply below_drew1 | refine below_set ?_ GE560.out) | exact HB.out)) hb); have n4_ := Aside0.mk (hbox); have n5_ := Aside0.mk ((by rw [hg]; exact (below_size (by repeat (first | (with_reducible first | exact HB.out | apply below_alloc | apply pw_below_drewN | apply below_drew1 | refine below_set ?_ GE560.out) | exact HB.out))) : w.heap.size ≤ gb571)); have n6_ := Aside0.mk ((by rw [hg]; exact (below_size (by repeat (first | (with_reducible first | exact HB.out | apply below_alloc | apply pw_below_drewN | apply below_drew1 | refine below_set ?_ GE560.out) | exact HB.out))) : w.heap.size ≤ gb571)); have n7_ := Aside0.mk ((by rw [hg]; exact Nat.ne_of_lt (blk_lt (g := gb560) (o := .cells #[.int .i64 a1_0, .slice A1_1 l1_1.length c1_1] 42 (0, 0)) (by (with_reducible repeat (first | refine blk_drewN ?_ _ | refine blk_drew ?_ | refine blk_alloc ?_ _)); exact BK560.out)) : gb560 ≠ gb571)); have n8_ := Aside0.mk ((by rw [hg]; exact Nat.ne_of_gt (blk_lt (g := gb560) (o := .cells #[.int .i64 a1_0, .slice A1_1 l1_1.length c1_1] 42 (0, 0)) (by (with_reducible repeat (first | refine blk_drewN ?_ _ | refine blk_drew ?_ | refine blk_alloc ?_ _)); exact BK560.out)) : gb571 ≠ gb560)); clear HO565; clear HO569; clear BK560; clear HB; have HO565 := n0_; have HO569 := n1_; have BK560 := n2_; have HB := n3_; have BK571 := n4_; have GW571 := n5_; have GE571 := n6_; have NB560_571 := n7_; have NB571_560 := n8_; clear n0_ n1_ n2_ n3_ n4_ n5_ n6_ n7_ n8_; clear hb hbox hg; have hnb17 := NB571_560.out; have hnc17 := NB560_571.out; have hcz18_0 : w16.cell? ⟨gb571, 0, none⟩ = some (.int .i64 0) := (blk_cell BK571.out 0).trans rfl; have hcz18_1 : w16.cell? ⟨gb571, 1, none⟩ = some (.slice none 0 0) := (blk_cell BK571.out 1).trans rfl; have hfz18_0 := blk_frozen BK571.out 0; have hfz18_1 := blk_frozen BK571.out 1; obtain ⟨Ao19, co19, eo19⟩ := Kd.R_slice HO569.out; subst eo19))
      repeat (go_quiet (first | ((with_reducible refine gate_dst (N := 3) rfl ?_); refine box_event ?hg (N := 3) ?hd (cs := #[.int .i64 a1_0, .slice A1_1 l1_1.length c1_1]) (t := 42) ?hr ?_; (case hd => rfl); (case hg => rfl); (case hr => first | (go_simp; done) | (go_simp; rfl)); intro gb560 hg w10 hbox hb; have n0_ := Aside0.mk (below_step (by repeat (first | (with_reducible first | exact HB.out | apply below_alloc | apply pw_below_drewN | apply below_drew1) | exact HB.out)) hb); have n1_ := Aside0.mk (hbox); have n2_ := Aside0.mk ((by rw [hg]; exact (below_size (by repeat (first | (with_reducible first | exact HB.out | apply below_alloc | apply pw_below_drewN | apply below_drew1) | exact HB.out))) : w.heap.size ≤ gb560)); have n3_ := Aside0.mk ((by rw [hg]; exact (below_size (by repeat (first | (with_reducible first | exact HB.out | apply below_alloc | apply pw_below_drewN | apply below_drew1) | exact HB.out))) : w.heap.size ≤ gb560)); clear HB; have HB := n0_; have BK560 := n1_; have GW560 := n2_; have GE560 := n3_; clear n0_ n1_ n2_ n3_; clear hb hbox hg) | (go_at_call 22; (with_reducible refine (madrigallaw6_awake.calls k  true _ A3.out).mono ?_); rintro e w11 ⟨rfl, hb⟩; have n0_ := Aside0.mk (blk_below (g := gb560) (o := .cells #[.int .i64 a1_0, .slice A1_1 l1_1.length c1_1] 42 (0, 0)) (by (with_reducible repeat (first | refine blk_drewN ?_ _ | refine blk_drew ?_ | refine blk_alloc ?_ _)); exact BK560.out) hb); have n1_ := Aside0.mk (below_step (by repeat (first | (with_reducible first | exact HB.out | apply below_alloc | apply pw_below_drewN | apply below_drew1 | refine below_set ?_ GE560.out) | exact HB.out)) hb); clear BK560; clear HB; have BK560 := n0_; have HB := n1_; clear n0_ n1_; (try clear hb); (try clear hb2); (try clear hk); (try clear hi); (try clear hge); have hcz12_0 : w11.cell? ⟨gb560, 0, none⟩ = some (.int .i64 a1_0) := (blk_cell BK560.out 0).trans rfl; have hcz12_1 : w11.cell? ⟨gb560, 1, none⟩ = some (.slice A1_1 l1_1.length c1_1) := (blk_cell BK560.out 1).trans rfl; have hfz12_0 := blk_frozen BK560.out 0; have hfz12_1 := blk_frozen BK560.out 1) | (go_at_call 28; (with_reducible refine (madrigalref6_GoodIndex.calls k a0 a1_0 _ _ l1_1 true _ ?side1 ?side2 A5.out).mono ?_); (case side1 => repeat (first | exact (Kd.C_below HR1_1.out HB.out) | (with_reducible refine Kd.C_alloc ?_ _) | (with_reducible refine Kd.C_drewN ?_ _) | (with_reducible refine Kd.C_drew ?_))); (case side2 => exact HC1_1.out); rintro e w' ⟨rfl, ⟨nd, rfl⟩⟩; (try first | exact ⟨rfl, _, World.drewN_drewN _ _ _⟩ | exact ⟨rfl, _, Eq.trans (World.drewN_drewN _ _ _) (congrArg (World.drewN _) (Nat.add_assoc _ _ _))⟩)) | (go_at_call 30; (with_reducible refine (madrigalref6_Decode.calls k a0 a1_0 _ _ l1_1 t563 _ ?side1 ?side2 A7.out).mono ?_); (case side1 => repeat (first | exact (Kd.C_below HR1_1.out (by repeat (first | (with_reducible first | exact HB.out | apply below_alloc | apply pw_below_drewN | apply below_drew1 | refine below_set ?_ GE560.out) | exact HB.out))) | (with_reducible refine Kd.C_alloc ?_ _) | (with_reducible refine Kd.C_drewN ?_ _) | (with_reducible refine Kd.C_drew ?_))); (case side2 => exact HC1_1.out); rintro e w13 ⟨v564, rfl, ho0, hb⟩; have n0_ := Aside0.mk (Kd.R_lower ho0 (below_size (by repeat (first | (with_reducible first | exact HB.out | apply below_alloc | apply pw_below_drewN | apply below_drew1 | refine below_set ?_ GE560.out) | exact HB.out)))); have n1_ := Aside0.mk (blk_below (g := gb560) (o := .cells #[.int .i64 a1_0, .slice A1_1 l1_1.length c1_1] 42 (0, 0)) (by (with_reducible repeat (first | refine blk_drewN ?_ _ | refine blk_drew ?_ | refine blk_alloc ?_ _)); exact BK560.out) hb); have n2_ := Aside0.mk (below_step (by repeat (first | (with_reducible first | exact HB.out | apply below_alloc | apply pw_below_drewN | apply below_drew1 | refine below_set ?_ GE560.out) | exact HB.out)) hb); clear BK560; clear HB; have HO565 := n0_; have BK560 := n1_; have HB := n2_; clear n0_ n1_ n2_; (try clear hb); (try clear hb2); (try clear hk); (try clear hi); (try clear hge); (try clear ho0); obtain ⟨Ao14, co14, eo14⟩ := Kd.R_slice HO565.out; subst eo14) | (go_at_call 25; (with_reducible refine (lsf_Search.calls k a0 _ _ t563 t566 t567 t570 _ ?side1 ?side2 A8.out).mono ?_); (case side1 => repeat (first | exact (Kd.R_reads' HO565.out).2.2 | (with_reducible refine Kd.C_alloc ?_ _) | (with_reducible refine Kd.C_drewN ?_ _) | (with_reducible refine Kd.C_drew ?_))); (case side2 => exact (Kd.R_reads' HO565.out).2.1); rintro e w15 ⟨v568, rfl, ho0, hb⟩; have n0_ := Aside0.mk (Kd.R_below (by (with_reducible repeat (first | apply Kd.R_alloc | apply Kd.R_drewN | apply Kd.R_drew)); exact HO565.out) hb); have n1_ := Aside0.mk (Kd.R_lower ho0 (below_size (by repeat (first | (with_reducible first | exact HB.out | apply below_alloc | apply pw_below_drewN | apply below_drew1 | refine below_set ?_ GE560.out) | exact HB.out)))); have n2_ := Aside0.mk (blk_below (g := gb560) (o := .cells #[.int .i64 a1_0, .slice A1_1 l1_1.length c1_1] 42 (0, 0)) (by (with_reducible repeat (first | refine blk_drewN ?_ _ | refine blk_drew ?_ | refine blk_alloc ?_ _)); exact BK560.out) hb); have n3_ := Aside0.mk (below_step (by repeat (first | (with_reducible first | exact HB.out | apply below_alloc | apply pw_below_drewN | apply below_drew1 | refine below_set ?_ GE560.out) | exact HB.out)) hb); clear HO565; clear BK560; clear HB; have HO565 := n0_; have HO569 := n1_; have BK560 := n2_; have HB := n3_; clear n0_ n1_ n2_ n3_; (try clear hb); (try clear hb2); (try clear hk); (try clear hi); (try clear hge); (try clear ho0)) | ((with_reducible refine gate_dst (N := 6) rfl ?_); refine box_event ?hg (N := 6) ?hd (cs := #[.int .i64 0, .slice none 0 0]) (t := 42) ?hr ?_; (case hd => rfl); (case hg => rfl); (case hr => first | (go_simp; done) | (go_simp; rfl)); intro gb571 hg w16 hbox hb; have n0_ := Aside0.mk (Kd.R_below (by (with_reducible repeat (first | apply Kd.R_alloc | apply Kd.R_drewN | apply Kd.R_drew)); exact HO565.out) hb); have n1_ := Aside0.mk (Kd.R_below (by (with_reducible repeat (first | apply Kd.R_alloc | apply Kd.R_drewN | apply Kd.R_drew)); exact HO569.out) hb); have n2_ := Aside0.mk (blk_below (g := gb560) (o := .cells #[.int .i64 a1_0, .slice A1_1 l1_1.length c1_1] 42 (0, 0)) (by (with_reducible repeat (first | refine blk_drewN ?_ _ | refine blk_drew ?_ | refine blk_alloc ?_ _)); exact BK560.out) hb); have n3_ := Aside0.mk (below_step (by repeat (first | (with_reducible first | exact HB.out | apply below_alloc | apply pw_below_drewN | apply below_drew1 | refine below_set ?_ GE560.out) | exact HB.out)) hb); have n4_ := Aside0.mk (hbox); have n5_ := Aside0.mk ((by rw [hg]; exact (below_size (by repeat (first | (with_reducible first | exact HB.out | apply below_alloc | apply pw_below_drewN | apply below_drew1 | refine below_set ?_ GE560.out) | exact HB.out))) : w.heap.size ≤ gb571)); have n6_ := Aside0.mk ((by rw [hg]; exact (below_size (by repeat (first | (with_reducible first | exact HB.out | apply below_alloc | apply pw_below_drewN | apply below_drew1 | refine below_set ?_ GE560.out) | exact HB.out))) : w.heap.size ≤ gb571)); have n7_ := Aside0.mk ((by rw [hg]; exact Nat.ne_of_lt (blk_lt (g := gb560) (o := .cells #[.int .i64 a1_0, .slice A1_1 l1_1.length c1_1] 42 (0, 0)) (by (with_reducible repeat (first | refine blk_drewN ?_ _ | refine blk_drew ?_ | refine blk_alloc ?_ _)); exact BK560.out)) : gb560 ≠ gb571)); have n8_ := Aside0.mk ((by rw [hg]; exact Nat.ne_of_gt (blk_lt (g := gb560) (o := .cells #[.int .i64 a1_0, .slice A1_1 l1_1.length c1_1] 42 (0, 0)) (by (with_reducible repeat (first | refine blk_drewN ?_ _ | refine blk_drew ?_ | refine blk_alloc ?_ _)); exact BK560.out)) : gb571 ≠ gb560)); clear HO565; clear HO569; clear BK560; clear HB; have HO565 := n0_; have HO569 := n1_; have BK560 := n2_; have HB := n3_; have BK571 := n4_; have GW571 := n5_; have GE571 := n6_; have NB560_571 := n7_; have NB571_560 := n8_; clear n0_ n1_ n2_ n3_ n4_ n5_ n6_ n7_ n8_; clear hb hbox hg; have hnb17 := NB571_560.out; have hnc17 := NB560_571.out; have hcz18_0 : w16.cell? ⟨gb571, 0, none⟩ = some (.int .i64 0) := (blk_cell BK571.out 0).trans rfl; have hcz18_1 : w16.cell? ⟨gb571, 1, none⟩ = some (.slice none 0 0) := (blk_cell BK571.out 1).trans rfl; have hfz18_0 := blk_frozen BK571.out 0; have hfz18_1 := blk_frozen BK571.out 1; obtain ⟨Ao19, co19, eo19⟩ := Kd.R_slice HO569.out; subst eo19)); go_upto_region 7 with (first | ((with_reducible refine gate_dst (N := 3) rfl ?_); refine box_event ?hg (N := 3) ?hd (cs := #[.int .i64 a1_0, .slice A1_1 l1_1.length c1_1]) (t := 42) ?hr ?_; (case hd => rfl); (case hg => rfl); (case hr => first | (go_simp; done) | (go_simp; rfl)); intro gb560 hg w10 hbox hb; have n0_ := Aside0.mk (below_step (by repeat (first | (with_reducible first | exact HB.out | apply below_alloc | apply pw_below_drewN | apply below_drew1) | exact HB.out)) hb); have n1_ := Aside0.mk (hbox); have n2_ := Aside0.mk ((by rw [hg]; exact (below_size (by repeat (first | (with_reducible first | exact HB.out | apply below_alloc | apply pw_below_drewN | apply below_drew1) | exact HB.out))) : w.heap.size ≤ gb560)); have n3_ := Aside0.mk ((by rw [hg]; exact (below_size (by repeat (first | (with_reducible first | exact HB.out | apply below_alloc | apply pw_below_drewN | apply below_drew1) | exact HB.out))) : w.heap.size ≤ gb560)); clear HB; have HB := n0_; have BK560 := n1_; have GW560 := n2_; have GE560 := n3_; clear n0_ n1_ n2_ n3_; clear hb hbox hg) | (go_at_call 22; (with_reducible refine (madrigallaw6_awake.calls k  true _ A3.out).mono ?_); rintro e w11 ⟨rfl, hb⟩; have n0_ := Aside0.mk (blk_below (g := gb560) (o := .cells #[.int .i64 a1_0, .slice A1_1 l1_1.length c1_1] 42 (0, 0)) (by (with_reducible repeat (first | refine blk_drewN ?_ _ | refine blk_drew ?_ | refine blk_alloc ?_ _)); exact BK560.out) hb); have n1_ := Aside0.mk (below_step (by repeat (first | (with_reducible first | exact HB.out | apply below_alloc | apply pw_below_drewN | apply below_drew1 | refine below_set ?_ GE560.out) | exact HB.out)) hb); clear BK560; clear HB; have BK560 := n0_; have HB := n1_; clear n0_ n1_; (try clear hb); (try clear hb2); (try clear hk); (try clear hi); (try clear hge); have hcz12_0 : w11.cell? ⟨gb560, 0, none⟩ = some (.int .i64 a1_0) := (blk_cell BK560.out 0).trans rfl; have hcz12_1 : w11.cell? ⟨gb560, 1, none⟩ = some (.slice A1_1 l1_1.length c1_1) := (blk_cell BK560.out 1).trans rfl; have hfz12_0 := blk_frozen BK560.out 0; have hfz12_1 := blk_frozen BK560.out 1) | (go_at_call 28; (with_reducible refine (madrigalref6_GoodIndex.calls k a0 a1_0 _ _ l1_1 true _ ?side1 ?side2 A5.out).mono ?_); (case side1 => repeat (first | exact (Kd.C_below HR1_1.out HB.out) | (with_reducible refine Kd.C_alloc ?_ _) | (with_reducible refine Kd.C_drewN ?_ _) | (with_reducible refine Kd.C_drew ?_))); (case side2 => exact HC1_1.out); rintro e w' ⟨rfl, ⟨nd, rfl⟩⟩; (try first | exact ⟨rfl, _, World.drewN_drewN _ _ _⟩ | exact ⟨rfl, _, Eq.trans (World.drewN_drewN _ _ _) (congrArg (World.drewN _) (Nat.add_assoc _ _ _))⟩)) | (go_at_call 30; (with_reducible refine (madrigalref6_Decode.calls k a0 a1_0 _ _ l1_1 t563 _ ?side1 ?side2 A7.out).mono ?_); (case side1 => repeat (first | exact (Kd.C_below HR1_1.out (by repeat (first | (with_reducible first | exact HB.out | apply below_alloc | apply pw_below_drewN | apply below_drew1 | refine below_set ?_ GE560.out) | exact HB.out))) | (with_reducible refine Kd.C_alloc ?_ _) | (with_reducible refine Kd.C_drewN ?_ _) | (with_reducible refine Kd.C_drew ?_))); (case side2 => exact HC1_1.out); rintro e w13 ⟨v564, rfl, ho0, hb⟩; have n0_ := Aside0.mk (Kd.R_lower ho0 (below_size (by repeat (first | (with_reducible first | exact HB.out | apply below_alloc | apply pw_below_drewN | apply below_drew1 | refine below_set ?_ GE560.out) | exact HB.out)))); have n1_ := Aside0.mk (blk_below (g := gb560) (o := .cells #[.int .i64 a1_0, .slice A1_1 l1_1.length c1_1] 42 (0, 0)) (by (with_reducible repeat (first | refine blk_drewN ?_ _ | refine blk_drew ?_ | refine blk_alloc ?_ _)); exact BK560.out) hb); have n2_ := Aside0.mk (below_step (by repeat (first | (with_reducible first | exact HB.out | apply below_alloc | apply pw_below_drewN | apply below_drew1 | refine below_set ?_ GE560.out) | exact HB.out)) hb); clear BK560; clear HB; have HO565 := n0_; have BK560 := n1_; have HB := n2_; clear n0_ n1_ n2_; (try clear hb); (try clear hb2); (try clear hk); (try clear hi); (try clear hge); (try clear ho0); obtain ⟨Ao14, co14, eo14⟩ := Kd.R_slice HO565.out; subst eo14) | (go_at_call 25; (with_reducible refine (lsf_Search.calls k a0 _ _ t563 t566 t567 t570 _ ?side1 ?side2 A8.out).mono ?_); (case side1 => repeat (first | exact (Kd.R_reads' HO565.out).2.2 | (with_reducible refine Kd.C_alloc ?_ _) | (with_reducible refine Kd.C_drewN ?_ _) | (with_reducible refine Kd.C_drew ?_))); (case side2 => exact (Kd.R_reads' HO565.out).2.1); rintro e w15 ⟨v568, rfl, ho0, hb⟩; have n0_ := Aside0.mk (Kd.R_below (by (with_reducible repeat (first | apply Kd.R_alloc | apply Kd.R_drewN | apply Kd.R_drew)); exact HO565.out) hb); have n1_ := Aside0.mk (Kd.R_lower ho0 (below_size (by repeat (first | (with_reducible first | exact HB.out | apply below_alloc | apply pw_below_drewN | apply below_drew1 | refine below_set ?_ GE560.out) | exact HB.out)))); have n2_ := Aside0.mk (blk_below (g := gb560) (o := .cells #[.int .i64 a1_0, .slice A1_1 l1_1.length c1_1] 42 (0, 0)) (by (with_reducible repeat (first | refine blk_drewN ?_ _ | refine blk_drew ?_ | refine blk_alloc ?_ _)); exact BK560.out) hb); have n3_ := Aside0.mk (below_step (by repeat (first | (with_reducible first | exact HB.out | apply below_alloc | apply pw_below_drewN | apply below_drew1 | refine below_set ?_ GE560.out) | exact HB.out)) hb); clear HO565; clear BK560; clear HB; have HO565 := n0_; have HO569 := n1_; have BK560 := n2_; have HB := n3_; clear n0_ n1_ n2_ n3_; (try clear hb); (try clear hb2); (try clear hk); (try clear hi); (try clear hge); (try clear ho0)) | ((with_reducible refine gate_dst (N := 6) rfl ?_); refine box_event ?hg (N := 6) ?hd (cs := #[.int .i64 0, .slice none 0 0]) (t := 42) ?hr ?_; (case hd => rfl); (case hg => rfl); (case hr => first | (go_simp; done) | (go_simp; rfl)); intro gb571 hg w16 hbox hb; have n0_ := Aside0.mk (Kd.R_below (by (with_reducible repeat (first | apply Kd.R_alloc | apply Kd.R_drewN | apply Kd.R_drew)); exact HO565.out) hb); have n1_ := Aside0.mk (Kd.R_below (by (with_reducible repeat (first | apply Kd.R_alloc | apply Kd.R_drewN | apply Kd.R_drew)); exact HO569.out) hb); have n2_ := Aside0.mk (blk_below (g := gb560) (o := .cells #[.int .i64 a1_0, .slice A1_1 l1_1.length c1_1] 42 (0, 0)) (by (with_reducible repeat (first | refine blk_drewN ?_ _ | refine blk_drew ?_ | refine blk_alloc ?_ _)); exact BK560.out) hb); have n3_ := Aside0.mk (below_step (by repeat (first | (with_reducible first | exact HB.out | apply below_alloc | apply pw_below_drewN | apply below_drew1 | refine below_set ?_ GE560.out) | exact HB.out)) hb); have n4_ := Aside0.mk (hbox); have n5_ := Aside0.mk ((by rw [hg]; exact (below_size (by repeat (first | (with_reducible first | exact HB.out | apply below_alloc | apply pw_below_drewN | apply below_drew1 | refine below_set ?_ GE560.out) | exact HB.out))) : w.heap.size ≤ gb571)); have n6_ := Aside0.mk ((by rw [hg]; exact (below_size (by repeat (first | (with_reducible first | exact HB.out | apply below_alloc | apply pw_below_drewN | apply below_drew1 | refine below_set ?_ GE560.out) | exact HB.out))) : w.heap.size ≤ gb571)); have n7_ := Aside0.mk ((by rw [hg]; exact Nat.ne_of_lt (blk_lt (g := gb560) (o := .cells #[.int .i64 a1_0, .slice A1_1 l1_1.length c1_1] 42 (0, 0)) (by (with_reducible repeat (first | refine blk_drewN ?_ _ | refine blk_drew ?_ | refine blk_alloc ?_ _)); exact BK560.out)) : gb560 ≠ gb571)); have n8_ := Aside0.mk ((by rw [hg]; exact Nat.ne_of_gt (blk_lt (g := gb560) (o := .cells #[.int .i64 a1_0, .slice A1_1 l1_1.length c1_1] 42 (0, 0)) (by (with_reducible repeat (first | refine blk_drewN ?_ _ | refine blk_drew ?_ | refine blk_alloc ?_ _)); exact BK560.out)) : gb571 ≠ gb560)); clear HO565; clear HO569; clear BK560; clear HB; have HO565 := n0_; have HO569 := n1_; have BK560 := n2_; have HB := n3_; have BK571 := n4_; have GW571 := n5_; have GE571 := n6_; have NB560_571 := n7_; have NB571_560 := n8_; clear n0_ n1_ n2_ n3_ n4_ n5_ n6_ n7_ n8_; clear hb hbox hg; have hnb17 := NB571_560.out; have hnc17 := NB560_571.out; have hcz18_0 : w16.cell? ⟨gb571, 0, none⟩ = some (.int .i64 0) := (blk_cell BK571.out 0).trans rfl; have hcz18_1 : w16.cell? ⟨gb571, 1, none⟩ = some (.slice none 0 0) := (blk_cell BK571.out 1).trans rfl; have hfz18_0 := blk_frozen BK571.out 0; have hfz18_1 := blk_frozen BK571.out 1; obtain ⟨Ao19, co19, eo19⟩ := Kd.R_slice HO569.out; subst eo19)))
      (try simp only [Act.put, List.setIfInBounds_toArray, List.set_cons_zero, List.set_cons_succ])
      go_cut [40] (fun v40 wc => ∃ (kq : Nat) (x40_8 : Bool), v40 = .bool x40_8 ∧ Aside0 (madrigallaw6_LsfNear.j0 kq a0 t563 x40_8 t566 t567 = some r) ∧ Aside0 (kq ≤ k) ∧ Aside0 (Kd.R (Kd.int .i64) 2 wc w.heap.size (fun _ => True) (.slice Ao14 t563.length co14) t563) ∧ Aside0 (Kd.R (Kd.int .i64) 3 wc w.heap.size (fun _ => True) (.slice Ao19 t567.length co19) t567) ∧ Aside0 (wc.heap[gb560]? = some (.cells #[.int .i64 a1_0, (.slice A1_1 l1_1.length c1_1)] 42 (0, 0))) ∧ Aside0 (wc.heap[gb571]? = some (.cells #[.int .i64 t566, (.slice Ao19 t567.length co19)] 42 (0, 0))) ∧ Aside0 (Below w.heap.size w wc))
      case first =>
        have H := HC9.out
        clear HC9
        by_cases c20 : t570 = 0
        · rw [if_pos c20] at H
          have c20b0 : (t570 == 0) = true := beq_iff_eq.mpr c20
          have c20b1 : (t570 != 0) = false := bne_eq_false_iff_eq.mpr c20
          clear c20
          (first | rw [c20b0] | (simp only [i64_w, i32_w]; rw [c20b0]) | skip)
          replace H := Option.bind_eq_some_iff.mp H
          obtain ⟨t572, A210, H⟩ := H
          replace H : (madrigallaw6_LsfNear.j0 k a0 t563 (!t572) t566 t567) = some r := H
          have A21 := Aside0.mk A210
          clear A210
          have H' := Aside0.mk H
          clear H
          have hnb22 := NB571_560.out
          have hnc22 := NB560_571.out
          have hcz23_0 : w16.cell? ⟨gb571, 0, none⟩ = some (.int .i64 0) := (blk_cell BK571.out 0).trans rfl
          have hcz23_1 : w16.cell? ⟨gb571, 1, none⟩ = some (.slice none 0 0) := (blk_cell BK571.out 1).trans rfl
          have hfz23_0 := blk_frozen BK571.out 0
          have hfz23_1 := blk_frozen BK571.out 1
          go_wp2_with (first | (go_at_call 26; (with_reducible refine (lsf_Good.calls k a0 t566 _ _ t567 t572 _ ?side1 ?side2 A21.out).mono ?_); (case side1 => refine (Kd.R_reads' (e := 3) (base := w.heap.size) (ok := fun k_ => True) (n := t567.length) (c := co19) ?_).2.2; exact (by (with_reducible repeat (first | apply Kd.R_alloc | apply Kd.R_drewN | apply Kd.R_drew)); exact (Kd.R_mono (Kd.R_far (p := ⟨gb571, 1, none⟩) (Kd.R_far (p := ⟨gb571, 0, none⟩) (Kd.R_types HO569.out BK571.out (by decide)) (fun _ hk => hk.2) (.int .i64 t566)) (fun _ hk => hk.2) (.slice Ao19 t567.length co19)) (fun _ h_ => h_.1)))); (case side2 => exact (Kd.R_reads' HO569.out).2.1); rintro e w24 ⟨rfl, hb⟩; have n0_ := Aside0.mk (Kd.R_below (by (with_reducible repeat (first | apply Kd.R_alloc | apply Kd.R_drewN | apply Kd.R_drew)); exact (Kd.R_mono (Kd.R_far (p := ⟨gb571, 1, none⟩) (Kd.R_far (p := ⟨gb571, 0, none⟩) (Kd.R_types HO565.out BK571.out (by decide)) (fun _ hk => hk.2) (.int .i64 t566)) (fun _ hk => hk.2) (.slice Ao19 t567.length co19)) (fun _ h_ => h_.1))) hb); have n1_ := Aside0.mk (Kd.R_below (by (with_reducible repeat (first | apply Kd.R_alloc | apply Kd.R_drewN | apply Kd.R_drew)); exact (Kd.R_mono (Kd.R_far (p := ⟨gb571, 1, none⟩) (Kd.R_far (p := ⟨gb571, 0, none⟩) (Kd.R_types HO569.out BK571.out (by decide)) (fun _ hk => hk.2) (.int .i64 t566)) (fun _ hk => hk.2) (.slice Ao19 t567.length co19)) (fun _ h_ => h_.1))) hb); have n2_ := Aside0.mk (blk_below (g := gb560) (o := .cells #[.int .i64 a1_0, .slice A1_1 l1_1.length c1_1] 42 (0, 0)) (by (with_reducible repeat (first | refine blk_drewN ?_ _ | refine blk_drew ?_ | refine blk_alloc ?_ _)); refine blk_far ?_ NB560_571.out _; (with_reducible repeat (first | refine blk_drewN ?_ _ | refine blk_drew ?_ | refine blk_alloc ?_ _)); refine blk_far ?_ NB560_571.out _; (with_reducible repeat (first | refine blk_drewN ?_ _ | refine blk_drew ?_ | refine blk_alloc ?_ _)); exact BK560.out) hb); have n3_ := Aside0.mk (blk_below (g := gb571) (o := .cells #[.int .i64 t566, .slice Ao19 t567.length co19] 42 (0, 0)) (by (with_reducible repeat (first | refine blk_drewN ?_ _ | refine blk_drew ?_ | refine blk_alloc ?_ _)); refine blk_put (cs := #[.int .i64 t566, .slice none 0 0]) ?_ 1 _ rfl; (with_reducible repeat (first | refine blk_drewN ?_ _ | refine blk_drew ?_ | refine blk_alloc ?_ _)); refine blk_put (cs := #[.int .i64 0, .slice none 0 0]) ?_ 0 _ rfl; (with_reducible repeat (first | refine blk_drewN ?_ _ | refine blk_drew ?_ | refine blk_alloc ?_ _)); exact BK571.out) hb); have n4_ := Aside0.mk (below_step (by repeat (first | (with_reducible first | exact HB.out | apply below_alloc | apply pw_below_drewN | apply below_drew1 | refine below_set ?_ GE560.out | refine below_set ?_ GE571.out) | exact HB.out)) hb); clear HO565; clear HO569; clear BK560; clear BK571; clear HB; have HO565 := n0_; have HO569 := n1_; have BK560 := n2_; have BK571 := n3_; have HB := n4_; clear n0_ n1_ n2_ n3_ n4_; (try clear hb); (try clear hb2); (try clear hk); (try clear hi); (try clear hge)))
          repeat (go_quiet (first | (go_at_call 26; (with_reducible refine (lsf_Good.calls k a0 t566 _ _ t567 t572 _ ?side1 ?side2 A21.out).mono ?_); (case side1 => refine (Kd.R_reads' (e := 3) (base := w.heap.size) (ok := fun k_ => True) (n := t567.length) (c := co19) ?_).2.2; exact (by (with_reducible repeat (first | apply Kd.R_alloc | apply Kd.R_drewN | apply Kd.R_drew)); exact (Kd.R_mono (Kd.R_far (p := ⟨gb571, 1, none⟩) (Kd.R_far (p := ⟨gb571, 0, none⟩) (Kd.R_types HO569.out BK571.out (by decide)) (fun _ hk => hk.2) (.int .i64 t566)) (fun _ hk => hk.2) (.slice Ao19 t567.length co19)) (fun _ h_ => h_.1)))); (case side2 => exact (Kd.R_reads' HO569.out).2.1); rintro e w24 ⟨rfl, hb⟩; have n0_ := Aside0.mk (Kd.R_below (by (with_reducible repeat (first | apply Kd.R_alloc | apply Kd.R_drewN | apply Kd.R_drew)); exact (Kd.R_mono (Kd.R_far (p := ⟨gb571, 1, none⟩) (Kd.R_far (p := ⟨gb571, 0, none⟩) (Kd.R_types HO565.out BK571.out (by decide)) (fun _ hk => hk.2) (.int .i64 t566)) (fun _ hk => hk.2) (.slice Ao19 t567.length co19)) (fun _ h_ => h_.1))) hb); have n1_ := Aside0.mk (Kd.R_below (by (with_reducible repeat (first | apply Kd.R_alloc | apply Kd.R_drewN | apply Kd.R_drew)); exact (Kd.R_mono (Kd.R_far (p := ⟨gb571, 1, none⟩) (Kd.R_far (p := ⟨gb571, 0, none⟩) (Kd.R_types HO569.out BK571.out (by decide)) (fun _ hk => hk.2) (.int .i64 t566)) (fun _ hk => hk.2) (.slice Ao19 t567.length co19)) (fun _ h_ => h_.1))) hb); have n2_ := Aside0.mk (blk_below (g := gb560) (o := .cells #[.int .i64 a1_0, .slice A1_1 l1_1.length c1_1] 42 (0, 0)) (by (with_reducible repeat (first | refine blk_drewN ?_ _ | refine blk_drew ?_ | refine blk_alloc ?_ _)); refine blk_far ?_ NB560_571.out _; (with_reducible repeat (first | refine blk_drewN ?_ _ | refine blk_drew ?_ | refine blk_alloc ?_ _)); refine blk_far ?_ NB560_571.out _; (with_reducible repeat (first | refine blk_drewN ?_ _ | refine blk_drew ?_ | refine blk_alloc ?_ _)); exact BK560.out) hb); have n3_ := Aside0.mk (blk_below (g := gb571) (o := .cells #[.int .i64 t566, .slice Ao19 t567.length co19] 42 (0, 0)) (by (with_reducible repeat (first | refine blk_drewN ?_ _ | refine blk_drew ?_ | refine blk_alloc ?_ _)); refine blk_put (cs := #[.int .i64 t566, .slice none 0 0]) ?_ 1 _ rfl; (with_reducible repeat (first | refine blk_drewN ?_ _ | refine blk_drew ?_ | refine blk_alloc ?_ _)); refine blk_put (cs := #[.int .i64 0, .slice none 0 0]) ?_ 0 _ rfl; (with_reducible repeat (first | refine blk_drewN ?_ _ | refine blk_drew ?_ | refine blk_alloc ?_ _)); exact BK571.out) hb); have n4_ := Aside0.mk (below_step (by repeat (first | (with_reducible first | exact HB.out | apply below_alloc | apply pw_below_drewN | apply below_drew1 | refine below_set ?_ GE560.out | refine below_set ?_ GE571.out) | exact HB.out)) hb); clear HO565; clear HO569; clear BK560; clear BK571; clear HB; have HO565 := n0_; have HO569 := n1_; have BK560 := n2_; have BK571 := n3_; have HB := n4_; clear n0_ n1_ n2_ n3_ n4_; (try clear hb); (try clear hb2); (try clear hk); (try clear hi); (try clear hge))); try go_wp2_with (first | (go_at_call 26; (with_reducible refine (lsf_Good.calls k a0 t566 _ _ t567 t572 _ ?side1 ?side2 A21.out).mono ?_); (case side1 => refine (Kd.R_reads' (e := 3) (base := w.heap.size) (ok := fun k_ => True) (n := t567.length) (c := co19) ?_).2.2; exact (by (with_reducible repeat (first | apply Kd.R_alloc | apply Kd.R_drewN | apply Kd.R_drew)); exact (Kd.R_mono (Kd.R_far (p := ⟨gb571, 1, none⟩) (Kd.R_far (p := ⟨gb571, 0, none⟩) (Kd.R_types HO569.out BK571.out (by decide)) (fun _ hk => hk.2) (.int .i64 t566)) (fun _ hk => hk.2) (.slice Ao19 t567.length co19)) (fun _ h_ => h_.1)))); (case side2 => exact (Kd.R_reads' HO569.out).2.1); rintro e w24 ⟨rfl, hb⟩; have n0_ := Aside0.mk (Kd.R_below (by (with_reducible repeat (first | apply Kd.R_alloc | apply Kd.R_drewN | apply Kd.R_drew)); exact (Kd.R_mono (Kd.R_far (p := ⟨gb571, 1, none⟩) (Kd.R_far (p := ⟨gb571, 0, none⟩) (Kd.R_types HO565.out BK571.out (by decide)) (fun _ hk => hk.2) (.int .i64 t566)) (fun _ hk => hk.2) (.slice Ao19 t567.length co19)) (fun _ h_ => h_.1))) hb); have n1_ := Aside0.mk (Kd.R_below (by (with_reducible repeat (first | apply Kd.R_alloc | apply Kd.R_drewN | apply Kd.R_drew)); exact (Kd.R_mono (Kd.R_far (p := ⟨gb571, 1, none⟩) (Kd.R_far (p := ⟨gb571, 0, none⟩) (Kd.R_types HO569.out BK571.out (by decide)) (fun _ hk => hk.2) (.int .i64 t566)) (fun _ hk => hk.2) (.slice Ao19 t567.length co19)) (fun _ h_ => h_.1))) hb); have n2_ := Aside0.mk (blk_below (g := gb560) (o := .cells #[.int .i64 a1_0, .slice A1_1 l1_1.length c1_1] 42 (0, 0)) (by (with_reducible repeat (first | refine blk_drewN ?_ _ | refine blk_drew ?_ | refine blk_alloc ?_ _)); refine blk_far ?_ NB560_571.out _; (with_reducible repeat (first | refine blk_drewN ?_ _ | refine blk_drew ?_ | refine blk_alloc ?_ _)); refine blk_far ?_ NB560_571.out _; (with_reducible repeat (first | refine blk_drewN ?_ _ | refine blk_drew ?_ | refine blk_alloc ?_ _)); exact BK560.out) hb); have n3_ := Aside0.mk (blk_below (g := gb571) (o := .cells #[.int .i64 t566, .slice Ao19 t567.length co19] 42 (0, 0)) (by (with_reducible repeat (first | refine blk_drewN ?_ _ | refine blk_drew ?_ | refine blk_alloc ?_ _)); refine blk_put (cs := #[.int .i64 t566, .slice none 0 0]) ?_ 1 _ rfl; (with_reducible repeat (first | refine blk_drewN ?_ _ | refine blk_drew ?_ | refine blk_alloc ?_ _)); refine blk_put (cs := #[.int .i64 0, .slice none 0 0]) ?_ 0 _ rfl; (with_reducible repeat (first | refine blk_drewN ?_ _ | refine blk_drew ?_ | refine blk_alloc ?_ _)); exact BK571.out) hb); have n4_ := Aside0.mk (below_step (by repeat (first | (with_reducible first | exact HB.out | apply below_alloc | apply pw_below_drewN | apply below_drew1 | refine below_set ?_ GE560.out | refine below_set ?_ GE571.out) | exact HB.out)) hb); clear HO565; clear HO569; clear BK560; clear BK571; clear HB; have HO565 := n0_; have HO569 := n1_; have BK560 := n2_; have BK571 := n3_; have HB := n4_; clear n0_ n1_ n2_ n3_ n4_; (try clear hb); (try clear hb2); (try clear hk); (try clear hi); (try clear hge))))
          go_meet
          case rel => exact ⟨_, (!t572), (by first | rfl | (simp; done) | (simp [*]; done)), H', ⟨by first | omega | exact Nat.le_refl _⟩, ⟨by (with_reducible repeat (first | apply Kd.R_alloc | apply Kd.R_drewN | apply Kd.R_drew)); exact HO565.out⟩, ⟨by (with_reducible repeat (first | apply Kd.R_alloc | apply Kd.R_drewN | apply Kd.R_drew)); exact HO569.out⟩, ⟨by (with_reducible repeat (first | refine blk_drewN ?_ _ | refine blk_drew ?_ | refine blk_alloc ?_ _)); exact BK560.out⟩, ⟨by (with_reducible repeat (first | refine blk_drewN ?_ _ | refine blk_drew ?_ | refine blk_alloc ?_ _)); exact BK571.out⟩, ⟨by repeat (first | (with_reducible first | exact HB.out | apply below_alloc | apply pw_below_drewN | apply below_drew1 | refine below_set ?_ GE560.out | refine below_set ?_ GE571.out) | exact HB.out)⟩⟩
        · rw [if_neg c20] at H
          have c20b0 : (t570 == 0) = false := beq_eq_false_iff_ne.mpr c20
          have c20b1 : (t570 != 0) = true := bne_iff_ne.mpr c20
          (first | rw [c20b0] | (simp only [i64_w, i32_w]; rw [c20b0]) | skip)
          have H' := Aside0.mk H
          clear H
          go_wp2
          repeat (go_quiet (fail); try go_wp2)
          go_meet
          case rel => exact ⟨_, (true), (by first | rfl | (simp; done) | (simp [*]; done)), H', ⟨by first | omega | exact Nat.le_refl _⟩, ⟨by (with_reducible repeat (first | apply Kd.R_alloc | apply Kd.R_drewN | apply Kd.R_drew)); exact Kd.R_mono (Kd.R_far (p := ⟨gb571, 1, none⟩) (Kd.R_far (p := ⟨gb571, 0, none⟩) (Kd.R_types HO565.out BK571.out (by decide)) (fun _ hk => hk.2) (.int .i64 t566)) (fun _ hk => hk.2) (.slice Ao19 t567.length co19)) (fun _ hk => trivial)⟩, ⟨by (with_reducible repeat (first | apply Kd.R_alloc | apply Kd.R_drewN | apply Kd.R_drew)); exact Kd.R_mono (Kd.R_far (p := ⟨gb571, 1, none⟩) (Kd.R_far (p := ⟨gb571, 0, none⟩) (Kd.R_types HO569.out BK571.out (by decide)) (fun _ hk => hk.2) (.int .i64 t566)) (fun _ hk => hk.2) (.slice Ao19 t567.length co19)) (fun _ hk => trivial)⟩, ⟨by (with_reducible repeat (first | refine blk_drewN ?_ _ | refine blk_drew ?_ | refine blk_alloc ?_ _)); refine blk_far ?_ NB560_571.out _; (with_reducible repeat (first | refine blk_drewN ?_ _ | refine blk_drew ?_ | refine blk_alloc ?_ _)); refine blk_far ?_ NB560_571.out _; (with_reducible repeat (first | refine blk_drewN ?_ _ | refine blk_drew ?_ | refine blk_alloc ?_ _)); exact BK560.out⟩, ⟨by (with_reducible repeat (first | refine blk_drewN ?_ _ | refine blk_drew ?_ | refine blk_alloc ?_ _)); refine blk_put (cs := #[.int .i64 t566, .slice none 0 0]) ?_ 1 _ rfl; (with_reducible repeat (first | refine blk_drewN ?_ _ | refine blk_drew ?_ | refine blk_alloc ?_ _)); refine blk_put (cs := #[.int .i64 0, .slice none 0 0]) ?_ 0 _ rfl; (with_reducible repeat (first | refine blk_drewN ?_ _ | refine blk_drew ?_ | refine blk_alloc ?_ _)); exact BK571.out⟩, ⟨by repeat (first | (with_reducible first | exact HB.out | apply below_alloc | apply pw_below_drewN | apply below_drew1 | refine below_set ?_ GE560.out | refine below_set ?_ GE571.out) | exact HB.out)⟩⟩
      case rest =>
        clear HC9
        try clear c1
        try clear c2
        try clear p2
        try clear c4
        try clear c6
        try clear c10
        try clear c17
        try clear c20
        try clear c20b0
        try clear c20b1
        try clear c22
        try clear hcz12_0
        try clear hcz12_1
        try clear hcz18_0
        try clear hcz18_1
        try clear hcz23_0
        try clear hcz23_1
        try clear hfz12_0
        try clear hfz12_1
        try clear hfz18_0
        try clear hfz18_1
        try clear hfz23_0
        try clear hfz23_1
        obtain ⟨kq, x40_8, rfl, HA, HJ8, HO_5, HO_572001, BK560, BK571, HB⟩ := hcut
        (try simp only [i64_w, i32_w])
        cases kq with
        | zero => exact absurd HA.out (by simp [madrigallaw6_LsfNear.j0])
        | succ kj8 =>
          have H := HA.out
          clear HA
          simp only [madrigallaw6_LsfNear.j0] at H
          by_cases c25 : x40_8 = true
          · subst c25
            have H1 : (none) = some r := by rw [if_pos rfl] at H; exact H
            clear H
            have H := H1
            clear H1
            exact absurd H (by simp)
          · replace c25 := Bool.eq_false_iff.mpr c25
            subst c25
            have H1 : ((madrigalref1_Lsf.f kj8 a0 t566).bind fun t573 => (madrigallaw6_LsfNear.l0 kj8 a0 t563 t573 0 t566 t567)) = some r := by rw [if_neg (show ¬ (false = true) by decide)] at H; exact H
            clear H
            have H := H1
            clear H1
            replace H := Option.bind_eq_some_iff.mp H
            obtain ⟨t573, A260, H⟩ := H
            replace H : (madrigallaw6_LsfNear.l0 kj8 a0 t563 t573 0 t566 t567) = some r := H
            have A26 := Aside0.mk A260
            clear A260
            have H' := Aside0.mk H
            clear H
            have hnb27 := NB571_560.out
            have hnc27 := NB560_571.out
            have hcz28_0 : wc.cell? ⟨gb571, 0, none⟩ = some (.int .i64 t566) := (blk_cell BK571.out 0).trans rfl
            have hcz28_1 : wc.cell? ⟨gb571, 1, none⟩ = some (.slice Ao19 t567.length co19) := (blk_cell BK571.out 1).trans rfl
            have hfz28_0 := blk_frozen BK571.out 0
            have hfz28_1 := blk_frozen BK571.out 1
            go_wp2_with (first | (go_at_call 34; (with_reducible refine (madrigalref1_Lsf.calls kj8 a0 t566 t573 _ A26.out).mono ?_); rintro e w29 ⟨v574, rfl, ho0, hb⟩; have n0_ := Aside0.mk (Kd.R_elder' (by (with_reducible repeat (first | apply Kd.R_alloc | apply Kd.R_drewN | apply Kd.R_drew)); exact HO_5.out) (Kd.R_base ho0) hb); have n1_ := Aside0.mk (Kd.R_below (by (with_reducible repeat (first | apply Kd.R_alloc | apply Kd.R_drewN | apply Kd.R_drew)); exact HO_572001.out) hb); have n2_ := Aside0.mk (Kd.R_lower (Kd.R_new' ho0 (Kd.R_lt (by (with_reducible repeat (first | apply Kd.R_alloc | apply Kd.R_drewN | apply Kd.R_drew)); exact HO_5.out))) (below_size (by repeat (first | (with_reducible first | exact HB.out | apply below_alloc | apply pw_below_drewN | apply below_drew1 | refine below_set ?_ GE560.out | refine below_set ?_ GE571.out) | exact HB.out)))); have n3_ := Aside0.mk (blk_below (g := gb560) (o := .cells #[.int .i64 a1_0, .slice A1_1 l1_1.length c1_1] 42 (0, 0)) (by (with_reducible repeat (first | refine blk_drewN ?_ _ | refine blk_drew ?_ | refine blk_alloc ?_ _)); exact BK560.out) hb); have n4_ := Aside0.mk (blk_below (g := gb571) (o := .cells #[.int .i64 t566, .slice Ao19 t567.length co19] 42 (0, 0)) (by (with_reducible repeat (first | refine blk_drewN ?_ _ | refine blk_drew ?_ | refine blk_alloc ?_ _)); exact BK571.out) hb); have n5_ := Aside0.mk (below_step (by repeat (first | (with_reducible first | exact HB.out | apply below_alloc | apply pw_below_drewN | apply below_drew1 | refine below_set ?_ GE560.out | refine below_set ?_ GE571.out) | exact HB.out)) hb); clear HO_5; clear HO_572001; clear BK560; clear BK571; clear HB; have HO_5 := n0_; have HO_572001 := n1_; have HO575 := n2_; have BK560 := n3_; have BK571 := n4_; have HB := n5_; clear n0_ n1_ n2_ n3_ n4_ n5_; (try clear hb); (try clear hb2); (try clear hk); (try clear hi); (try clear hge); (try clear ho0)))
            repeat (go_quiet (first | (go_at_call 34; (with_reducible refine (madrigalref1_Lsf.calls kj8 a0 t566 t573 _ A26.out).mono ?_); rintro e w29 ⟨v574, rfl, ho0, hb⟩; have n0_ := Aside0.mk (Kd.R_elder' (by (with_reducible repeat (first | apply Kd.R_alloc | apply Kd.R_drewN | apply Kd.R_drew)); exact HO_5.out) (Kd.R_base ho0) hb); have n1_ := Aside0.mk (Kd.R_below (by (with_reducible repeat (first | apply Kd.R_alloc | apply Kd.R_drewN | apply Kd.R_drew)); exact HO_572001.out) hb); have n2_ := Aside0.mk (Kd.R_lower (Kd.R_new' ho0 (Kd.R_lt (by (with_reducible repeat (first | apply Kd.R_alloc | apply Kd.R_drewN | apply Kd.R_drew)); exact HO_5.out))) (below_size (by repeat (first | (with_reducible first | exact HB.out | apply below_alloc | apply pw_below_drewN | apply below_drew1 | refine below_set ?_ GE560.out | refine below_set ?_ GE571.out) | exact HB.out)))); have n3_ := Aside0.mk (blk_below (g := gb560) (o := .cells #[.int .i64 a1_0, .slice A1_1 l1_1.length c1_1] 42 (0, 0)) (by (with_reducible repeat (first | refine blk_drewN ?_ _ | refine blk_drew ?_ | refine blk_alloc ?_ _)); exact BK560.out) hb); have n4_ := Aside0.mk (blk_below (g := gb571) (o := .cells #[.int .i64 t566, .slice Ao19 t567.length co19] 42 (0, 0)) (by (with_reducible repeat (first | refine blk_drewN ?_ _ | refine blk_drew ?_ | refine blk_alloc ?_ _)); exact BK571.out) hb); have n5_ := Aside0.mk (below_step (by repeat (first | (with_reducible first | exact HB.out | apply below_alloc | apply pw_below_drewN | apply below_drew1 | refine below_set ?_ GE560.out | refine below_set ?_ GE571.out) | exact HB.out)) hb); clear HO_5; clear HO_572001; clear BK560; clear BK571; clear HB; have HO_5 := n0_; have HO_572001 := n1_; have HO575 := n2_; have BK560 := n3_; have BK571 := n4_; have HB := n5_; clear n0_ n1_ n2_ n3_ n4_ n5_; (try clear hb); (try clear hb2); (try clear hk); (try clear hi); (try clear hge); (try clear ho0))); try go_wp2_with (first | (go_at_call 34; (with_reducible refine (madrigalref1_Lsf.calls kj8 a0 t566 t573 _ A26.out).mono ?_); rintro e w29 ⟨v574, rfl, ho0, hb⟩; have n0_ := Aside0.mk (Kd.R_elder' (by (with_reducible repeat (first | apply Kd.R_alloc | apply Kd.R_drewN | apply Kd.R_drew)); exact HO_5.out) (Kd.R_base ho0) hb); have n1_ := Aside0.mk (Kd.R_below (by (with_reducible repeat (first | apply Kd.R_alloc | apply Kd.R_drewN | apply Kd.R_drew)); exact HO_572001.out) hb); have n2_ := Aside0.mk (Kd.R_lower (Kd.R_new' ho0 (Kd.R_lt (by (with_reducible repeat (first | apply Kd.R_alloc | apply Kd.R_drewN | apply Kd.R_drew)); exact HO_5.out))) (below_size (by repeat (first | (with_reducible first | exact HB.out | apply below_alloc | apply pw_below_drewN | apply below_drew1 | refine below_set ?_ GE560.out | refine below_set ?_ GE571.out) | exact HB.out)))); have n3_ := Aside0.mk (blk_below (g := gb560) (o := .cells #[.int .i64 a1_0, .slice A1_1 l1_1.length c1_1] 42 (0, 0)) (by (with_reducible repeat (first | refine blk_drewN ?_ _ | refine blk_drew ?_ | refine blk_alloc ?_ _)); exact BK560.out) hb); have n4_ := Aside0.mk (blk_below (g := gb571) (o := .cells #[.int .i64 t566, .slice Ao19 t567.length co19] 42 (0, 0)) (by (with_reducible repeat (first | refine blk_drewN ?_ _ | refine blk_drew ?_ | refine blk_alloc ?_ _)); exact BK571.out) hb); have n5_ := Aside0.mk (below_step (by repeat (first | (with_reducible first | exact HB.out | apply below_alloc | apply pw_below_drewN | apply below_drew1 | refine below_set ?_ GE560.out | refine below_set ?_ GE571.out) | exact HB.out)) hb); clear HO_5; clear HO_572001; clear BK560; clear BK571; clear HB; have HO_5 := n0_; have HO_572001 := n1_; have HO575 := n2_; have BK560 := n3_; have BK571 := n4_; have HB := n5_; clear n0_ n1_ n2_ n3_ n4_ n5_; (try clear hb); (try clear hb2); (try clear hk); (try clear hi); (try clear hge); (try clear ho0))))
            go_loopg [9] kj8 (fun kq v9 w' => ∃ (x9_2 : Int), v9 = .int .i64 x9_2 ∧ Aside0 (madrigallaw6_LsfNear.l0 kq a0 t563 t573 x9_2 t566 t567 = some r) ∧ Aside0 (kq ≤ kj8) ∧ Aside0 (Kd.R (Kd.int .i64) 2 w' w.heap.size (fun k_ => some k_ ≠ (v574 : Value).ownBlock) (.slice Ao14 t563.length co14) t563) ∧ Aside0 (Kd.R (Kd.int .i64) 2 w' w.heap.size (fun k_ => some k_ ≠ ((.slice Ao14 t563.length co14) : Value).ownBlock) v574 t573) ∧ Aside0 (Kd.R (Kd.int .i64) 3 w' w.heap.size (fun _ => True) (.slice Ao19 t567.length co19) t567) ∧ Aside0 (w'.heap[gb560]? = some (.cells #[.int .i64 a1_0, (.slice A1_1 l1_1.length c1_1)] 42 (0, 0))) ∧ Aside0 (w'.heap[gb571]? = some (.cells #[.int .i64 t566, (.slice Ao19 t567.length co19)] 42 (0, 0))) ∧ Aside0 (Below w.heap.size w w'))
            case atStart => exact ⟨(0), (by first | rfl | (simp; done) | (simp [*]; done)), H', ⟨Nat.le_refl _⟩, ⟨by (with_reducible repeat (first | apply Kd.R_alloc | apply Kd.R_drewN | apply Kd.R_drew)); exact Kd.R_mono HO_5.out (fun _ hk => hk.2)⟩, ⟨by (with_reducible repeat (first | apply Kd.R_alloc | apply Kd.R_drewN | apply Kd.R_drew)); exact Kd.R_mono HO575.out (fun _ hk => hk.2)⟩, ⟨by (with_reducible repeat (first | apply Kd.R_alloc | apply Kd.R_drewN | apply Kd.R_drew)); exact HO_572001.out⟩, ⟨by (with_reducible repeat (first | refine blk_drewN ?_ _ | refine blk_drew ?_ | refine blk_alloc ?_ _)); exact BK560.out⟩, ⟨by (with_reducible repeat (first | refine blk_drewN ?_ _ | refine blk_drew ?_ | refine blk_alloc ?_ _)); exact BK571.out⟩, ⟨by repeat (first | (with_reducible first | exact HB.out | apply below_alloc | apply pw_below_drewN | apply below_drew1 | refine below_set ?_ GE560.out | refine below_set ?_ GE571.out) | exact HB.out)⟩⟩
            case round =>
              clear H'
              try clear c1
              try clear c2
              try clear p2
              try clear c4
              try clear c6
              try clear c10
              try clear c17
              try clear c20
              try clear c20b0
              try clear c20b1
              try clear c22
              try clear c25
              try clear c27
              try clear hcz12_0
              try clear hcz12_1
              try clear hcz18_0
              try clear hcz18_1
              try clear hcz23_0
              try clear hcz23_1
              try clear hcz28_0
              try clear hcz28_1
              try clear hfz12_0
              try clear hfz12_1
              try clear hfz18_0
              try clear hfz18_1
              try clear hfz23_0
              try clear hfz23_1
              try clear hfz28_0
              try clear hfz28_1
              try clear p2
              obtain ⟨x9_2, rfl, HA, HK2, HO_5, HO_8, HO_572001, BK560, BK571, HB⟩ := hrel
              (try simp only [i64_w, i32_w])
              cases gk with
              | zero => exact absurd HA.out (by simp [madrigallaw6_LsfNear.l0])
              | succ k2 =>
                have H := HA.out
                clear HA
                simp only [madrigallaw6_LsfNear.l0] at H
                by_cases c30 : x9_2 < a0
                · rw [if_pos c30] at H
                  have c30b0 : decide (x9_2 < a0) = true := decide_eq_true c30
                  clear c30
                  by_cases c31 : 0 ≤ x9_2
                  · rw [if_pos c31] at H
                    have c31b0 : decide (0 ≤ x9_2) = true := decide_eq_true c31
                    clear c31
                    by_cases c32 : x9_2 < (t573.length : Int)
                    · rw [if_pos c32] at H
                      have c32b0 : decide (x9_2 < (t573.length : Int)) = true := decide_eq_true c32
                      clear c32
                      by_cases c33 : x9_2 < (t563.length : Int)
                      · rw [if_pos c33] at H
                        have c33b0 : decide (x9_2 < (t563.length : Int)) = true := decide_eq_true c33
                        clear c33
                        replace H := Option.bind_eq_some_iff.mp H
                        obtain ⟨t579, A340, H⟩ := H
                        replace H : (if x9_2 < (t567.length : Int) then (if (wrap64 ((rd t573 x9_2) - (rd t563 x9_2))) < 0 then (madrigallaw6_LsfNear.j2 k2 a0 t563 t573 x9_2 (wrap64 (-(wrap64 ((rd t573 x9_2) - (rd t563 x9_2))))) (wrap64 ((wrap64 ((rd t573 x9_2) + (wrap64 (t579 * (rd t567 x9_2))))) - (rd t563 x9_2))) t566 t567) else (madrigallaw6_LsfNear.j2 k2 a0 t563 t573 x9_2 (wrap64 ((rd t573 x9_2) - (rd t563 x9_2))) (wrap64 ((wrap64 ((rd t573 x9_2) + (wrap64 (t579 * (rd t567 x9_2))))) - (rd t563 x9_2))) t566 t567)) else (none)) = some r := H
                        have A34 := Aside0.mk A340
                        clear A340
                        by_cases c35 : x9_2 < (t567.length : Int)
                        · rw [if_pos c35] at H
                          have c35b0 : decide (x9_2 < (t567.length : Int)) = true := decide_eq_true c35
                          clear c35
                          have HC36 := Aside0.mk H
                          clear H
                          obtain ⟨Ao37, co37, eo37⟩ := Kd.R_slice HO_8.out
                          subst eo37
                          have p576 : 0 ≤ (x9_2 : Int) := of_decide_eq_true (by first | (with_reducible assumption) | assumption)
                          have q576 : x9_2 < (t573.length : Int) := of_decide_eq_true (by first | (with_reducible assumption) | assumption)
                          obtain ⟨ad576, e576, hx576_0⟩ := Kd.at_int (Kd.R_reads' HO_8.out).2.2 x9_2 p576 q576
                          cases e576
                          replace p576 := eq_true p576
                          replace q576 := eq_true q576
                          have p577 : 0 ≤ (x9_2 : Int) := of_decide_eq_true (by first | (with_reducible assumption) | assumption)
                          have q577 : x9_2 < (t563.length : Int) := of_decide_eq_true (by first | (with_reducible assumption) | assumption)
                          obtain ⟨ad577, e577, hx577_0⟩ := Kd.at_int (Kd.R_reads' HO_5.out).2.2 x9_2 p577 q577
                          cases e577
                          replace p577 := eq_true p577
                          replace q577 := eq_true q577
                          have p578 : 0 ≤ (x9_2 : Int) := of_decide_eq_true (by first | (with_reducible assumption) | assumption)
                          have q578 : x9_2 < (t573.length : Int) := of_decide_eq_true (by first | (with_reducible assumption) | assumption)
                          obtain ⟨ad578, e578, hx578_0⟩ := Kd.at_int (Kd.R_reads' HO_8.out).2.2 x9_2 p578 q578
                          obtain rfl : ad576 = ad578 := (by injection e578)
                          replace p578 := eq_true p578
                          replace q578 := eq_true q578
                          go_upto_if 78 with (first | (go_at_call 35; (with_reducible refine (madrigalref6_Step.calls a0 t579 _ A34.out).mono ?_); rintro e w' ⟨rfl, ⟨nd, rfl⟩⟩; (try first | exact ⟨rfl, _, World.drewN_drewN _ _ _⟩ | exact ⟨rfl, _, Eq.trans (World.drewN_drewN _ _ _) (congrArg (World.drewN _) (Nat.add_assoc _ _ _))⟩); have hnb38 := NB571_560.out; have hnc38 := NB560_571.out; have hcz39_0 : wr.cell? ⟨gb571, 0, none⟩ = some (.int .i64 t566) := (blk_cell BK571.out 0).trans rfl; have hcz39_1 : wr.cell? ⟨gb571, 1, none⟩ = some (.slice Ao19 t567.length co19) := (blk_cell BK571.out 1).trans rfl; have hfz39_0 := blk_frozen BK571.out 0; have hfz39_1 := blk_frozen BK571.out 1; have p580 : 0 ≤ (x9_2 : Int) := of_decide_eq_true (by first | (with_reducible assumption) | assumption); have q580 : x9_2 < (t567.length : Int) := of_decide_eq_true (by first | (with_reducible assumption) | assumption); obtain ⟨ad580, e580, hx580_0⟩ := Kd.at_int (Kd.R_reads' HO_572001.out).2.2 x9_2 p580 q580; cases e580; replace p580 := eq_true p580; replace q580 := eq_true q580; have p581 : 0 ≤ (x9_2 : Int) := of_decide_eq_true (by first | (with_reducible assumption) | assumption); have q581 : x9_2 < (t563.length : Int) := of_decide_eq_true (by first | (with_reducible assumption) | assumption); obtain ⟨ad581, e581, hx581_0⟩ := Kd.at_int (Kd.R_reads' HO_5.out).2.2 x9_2 p581 q581; obtain rfl : ad577 = ad581 := (by injection e581); replace p581 := eq_true p581; replace q581 := eq_true q581))
                          repeat (go_quiet (first | (go_at_call 35; (with_reducible refine (madrigalref6_Step.calls a0 t579 _ A34.out).mono ?_); rintro e w' ⟨rfl, ⟨nd, rfl⟩⟩; (try first | exact ⟨rfl, _, World.drewN_drewN _ _ _⟩ | exact ⟨rfl, _, Eq.trans (World.drewN_drewN _ _ _) (congrArg (World.drewN _) (Nat.add_assoc _ _ _))⟩); have hnb38 := NB571_560.out; have hnc38 := NB560_571.out; have hcz39_0 : wr.cell? ⟨gb571, 0, none⟩ = some (.int .i64 t566) := (blk_cell BK571.out 0).trans rfl; have hcz39_1 : wr.cell? ⟨gb571, 1, none⟩ = some (.slice Ao19 t567.length co19) := (blk_cell BK571.out 1).trans rfl; have hfz39_0 := blk_frozen BK571.out 0; have hfz39_1 := blk_frozen BK571.out 1; have p580 : 0 ≤ (x9_2 : Int) := of_decide_eq_true (by first | (with_reducible assumption) | assumption); have q580 : x9_2 < (t567.length : Int) := of_decide_eq_true (by first | (with_reducible assumption) | assumption); obtain ⟨ad580, e580, hx580_0⟩ := Kd.at_int (Kd.R_reads' HO_572001.out).2.2 x9_2 p580 q580; cases e580; replace p580 := eq_true p580; replace q580 := eq_true q580; have p581 : 0 ≤ (x9_2 : Int) := of_decide_eq_true (by first | (with_reducible assumption) | assumption); have q581 : x9_2 < (t563.length : Int) := of_decide_eq_true (by first | (with_reducible assumption) | assumption); obtain ⟨ad581, e581, hx581_0⟩ := Kd.at_int (Kd.R_reads' HO_5.out).2.2 x9_2 p581 q581; obtain rfl : ad577 = ad581 := (by injection e581); replace p581 := eq_true p581; replace q581 := eq_true q581)); go_upto_if 78 with (first | (go_at_call 35; (with_reducible refine (madrigalref6_Step.calls a0 t579 _ A34.out).mono ?_); rintro e w' ⟨rfl, ⟨nd, rfl⟩⟩; (try first | exact ⟨rfl, _, World.drewN_drewN _ _ _⟩ | exact ⟨rfl, _, Eq.trans (World.drewN_drewN _ _ _) (congrArg (World.drewN _) (Nat.add_assoc _ _ _))⟩); have hnb38 := NB571_560.out; have hnc38 := NB560_571.out; have hcz39_0 : wr.cell? ⟨gb571, 0, none⟩ = some (.int .i64 t566) := (blk_cell BK571.out 0).trans rfl; have hcz39_1 : wr.cell? ⟨gb571, 1, none⟩ = some (.slice Ao19 t567.length co19) := (blk_cell BK571.out 1).trans rfl; have hfz39_0 := blk_frozen BK571.out 0; have hfz39_1 := blk_frozen BK571.out 1; have p580 : 0 ≤ (x9_2 : Int) := of_decide_eq_true (by first | (with_reducible assumption) | assumption); have q580 : x9_2 < (t567.length : Int) := of_decide_eq_true (by first | (with_reducible assumption) | assumption); obtain ⟨ad580, e580, hx580_0⟩ := Kd.at_int (Kd.R_reads' HO_572001.out).2.2 x9_2 p580 q580; cases e580; replace p580 := eq_true p580; replace q580 := eq_true q580; have p581 : 0 ≤ (x9_2 : Int) := of_decide_eq_true (by first | (with_reducible assumption) | assumption); have q581 : x9_2 < (t563.length : Int) := of_decide_eq_true (by first | (with_reducible assumption) | assumption); obtain ⟨ad581, e581, hx581_0⟩ := Kd.at_int (Kd.R_reads' HO_5.out).2.2 x9_2 p581 q581; obtain rfl : ad577 = ad581 := (by injection e581); replace p581 := eq_true p581; replace q581 := eq_true q581)))
                          (try simp only [Act.put, List.setIfInBounds_toArray, List.set_cons_zero, List.set_cons_succ])
                          go_cut [10] (fun v10 wc => ∃ (kq : Nat) (x10_35 : Int), v10 = .int .i64 x10_35 ∧ Aside0 (madrigallaw6_LsfNear.j2 kq a0 t563 t573 x9_2 x10_35 (wrap64 ((wrap64 ((rd t573 x9_2) + (wrap64 (t579 * (rd t567 x9_2))))) - (rd t563 x9_2))) t566 t567 = some r) ∧ Aside0 (kq ≤ k2) ∧ Aside0 (Kd.R (Kd.int .i64) 2 wc w.heap.size (fun k_ => some k_ ≠ ((.slice (some ad576) t573.length co37) : Value).ownBlock) (.slice (some ad577) t563.length co14) t563) ∧ Aside0 (Kd.R (Kd.int .i64) 2 wc w.heap.size (fun k_ => some k_ ≠ ((.slice (some ad577) t563.length co14) : Value).ownBlock) (.slice (some ad576) t573.length co37) t573) ∧ Aside0 (Kd.R (Kd.int .i64) 3 wc w.heap.size (fun _ => True) (.slice (some ad580) t567.length co19) t567) ∧ Aside0 (wc.heap[gb560]? = some (.cells #[.int .i64 a1_0, (.slice A1_1 l1_1.length c1_1)] 42 (0, 0))) ∧ Aside0 (wc.heap[gb571]? = some (.cells #[.int .i64 t566, (.slice (some ad580) t567.length co19)] 42 (0, 0))) ∧ Aside0 (Below w.heap.size w wc))
                          case first =>
                            have H := HC36.out
                            clear HC36
                            by_cases c40 : (wrap64 ((rd t573 x9_2) - (rd t563 x9_2))) < 0
                            · rw [if_pos c40] at H
                              have c40b0 : decide ((wrap64 ((rd t573 x9_2) - (rd t563 x9_2))) < 0) = true := decide_eq_true c40
                              clear c40
                              (first | rw [c40b0] | (simp only [i64_w, i32_w]; rw [c40b0]) | skip)
                              have H' := Aside0.mk H
                              clear H
                              go_wp2
                              repeat (go_quiet (fail); try go_wp2)
                              go_meet
                              case rel => exact ⟨_, (wrap64 (-(wrap64 ((rd t573 x9_2) - (rd t563 x9_2))))), (by first | rfl | (simp; done) | (simp [*]; done)), H', ⟨by have := HJ8.out; have := HK2.out; first | omega | exact Nat.le_refl _⟩, ⟨by (with_reducible repeat (first | apply Kd.R_alloc | apply Kd.R_drewN | apply Kd.R_drew)); exact HO_5.out⟩, ⟨by (with_reducible repeat (first | apply Kd.R_alloc | apply Kd.R_drewN | apply Kd.R_drew)); exact HO_8.out⟩, ⟨by (with_reducible repeat (first | apply Kd.R_alloc | apply Kd.R_drewN | apply Kd.R_drew)); exact HO_572001.out⟩, ⟨by (with_reducible repeat (first | refine blk_drewN ?_ _ | refine blk_drew ?_ | refine blk_alloc ?_ _)); exact BK560.out⟩, ⟨by (with_reducible repeat (first | refine blk_drewN ?_ _ | refine blk_drew ?_ | refine blk_alloc ?_ _)); exact BK571.out⟩, ⟨by repeat (first | (with_reducible first | exact HB.out | apply below_alloc | apply pw_below_drewN | apply below_drew1 | refine below_set ?_ GE560.out | refine below_set ?_ GE571.out) | exact HB.out)⟩⟩
                            · rw [if_neg c40] at H
                              have c40b0 : decide ((wrap64 ((rd t573 x9_2) - (rd t563 x9_2))) < 0) = false := decide_eq_false c40
                              clear c40
                              (first | rw [c40b0] | (simp only [i64_w, i32_w]; rw [c40b0]) | skip)
                              have H' := Aside0.mk H
                              clear H
                              go_wp2
                              repeat (go_quiet (fail); try go_wp2)
                              go_meet
                              case rel => exact ⟨_, (wrap64 ((rd t573 x9_2) - (rd t563 x9_2))), (by first | rfl | (simp; done) | (simp [*]; done)), H', ⟨by have := HJ8.out; have := HK2.out; first | omega | exact Nat.le_refl _⟩, ⟨by (with_reducible repeat (first | apply Kd.R_alloc | apply Kd.R_drewN | apply Kd.R_drew)); exact HO_5.out⟩, ⟨by (with_reducible repeat (first | apply Kd.R_alloc | apply Kd.R_drewN | apply Kd.R_drew)); exact HO_8.out⟩, ⟨by (with_reducible repeat (first | apply Kd.R_alloc | apply Kd.R_drewN | apply Kd.R_drew)); exact HO_572001.out⟩, ⟨by (with_reducible repeat (first | refine blk_drewN ?_ _ | refine blk_drew ?_ | refine blk_alloc ?_ _)); exact BK560.out⟩, ⟨by (with_reducible repeat (first | refine blk_drewN ?_ _ | refine blk_drew ?_ | refine blk_alloc ?_ _)); exact BK571.out⟩, ⟨by repeat (first | (with_reducible first | exact HB.out | apply below_alloc | apply pw_below_drewN | apply below_drew1 | refine below_set ?_ GE560.out | refine below_set ?_ GE571.out) | exact HB.out)⟩⟩
                          case rest =>
                            clear HC36
                            try clear c1
                            try clear c2
                            try clear p2
                            try clear c3
                            try clear c4
                            try clear p5
                            try clear q5
                            try clear hx5
                            try clear c6
                            try clear p6
                            try clear c10
                            try clear c17
                            try clear c20
                            try clear c20b0
                            try clear c20b1
                            try clear c22
                            try clear c25
                            try clear c27
                            try clear c30
                            try clear c30b0
                            try clear c31
                            try clear c31b0
                            try clear c32
                            try clear c32b0
                            try clear c33
                            try clear c33b0
                            try clear c35
                            try clear c35b0
                            try clear c38
                            try clear c40
                            try clear c40b0
                            try clear hcz12_0
                            try clear hcz12_1
                            try clear hcz18_0
                            try clear hcz18_1
                            try clear hcz23_0
                            try clear hcz23_1
                            try clear hcz28_0
                            try clear hcz28_1
                            try clear hcz39_0
                            try clear hcz39_1
                            try clear hfz12_0
                            try clear hfz12_1
                            try clear hfz18_0
                            try clear hfz18_1
                            try clear hfz23_0
                            try clear hfz23_1
                            try clear hfz28_0
                            try clear hfz28_1
                            try clear hfz39_0
                            try clear hfz39_1
                            try clear hx576_0
                            try clear hx577_0
                            try clear hx578_0
                            try clear hx580_0
                            try clear hx581_0
                            try clear p2
                            try clear p576
                            try clear p577
                            try clear p578
                            try clear p580
                            try clear p581
                            try clear q576
                            try clear q577
                            try clear q578
                            try clear q580
                            try clear q581
                            obtain ⟨kq, x10_35, rfl, HA, HJ35, HO_5, HO_8, HO_572001, BK560, BK571, HB⟩ := hcut
                            (try simp only [i64_w, i32_w])
                            cases kq with
                            | zero => exact absurd HA.out (by simp [madrigallaw6_LsfNear.j2])
                            | succ kj35 =>
                              have H := HA.out
                              clear HA
                              simp only [madrigallaw6_LsfNear.j2] at H
                              by_cases c41 : (wrap64 ((wrap64 ((rd t573 x9_2) + (wrap64 (t579 * (rd t567 x9_2))))) - (rd t563 x9_2))) < 0
                              · rw [if_pos c41] at H
                                have c41b0 : decide ((wrap64 ((wrap64 ((rd t573 x9_2) + (wrap64 (t579 * (rd t567 x9_2))))) - (rd t563 x9_2))) < 0) = true := decide_eq_true c41
                                clear c41
                                by_cases c42 : (wrap64 (-(wrap64 ((wrap64 ((rd t573 x9_2) + (wrap64 (t579 * (rd t567 x9_2))))) - (rd t563 x9_2))))) > x10_35
                                · rw [if_pos c42] at H
                                  exact absurd H (by simp)
                                · rw [if_neg c42] at H
                                  have c42b0 : decide (x10_35 < (wrap64 (-(wrap64 ((wrap64 ((rd t573 x9_2) + (wrap64 (t579 * (rd t567 x9_2))))) - (rd t563 x9_2)))))) = false := decide_eq_false c42
                                  clear c42
                                  have H' := Aside0.mk H
                                  clear H
                                  go_wp2
                                  repeat (go_quiet (fail); try go_wp2)
                                  go_roundg kj35
                                  case measure => have := HJ8.out; have := HK2.out; have := HJ35.out; omega
                                  case rel => exact ⟨(wrap64 (x9_2 + 1)), (by first | rfl | (simp; done) | (simp [*]; done)), H', ⟨by have := HJ8.out; have := HK2.out; have := HJ35.out; omega⟩, ⟨by (with_reducible repeat (first | apply Kd.R_alloc | apply Kd.R_drewN | apply Kd.R_drew)); exact HO_5.out⟩, ⟨by (with_reducible repeat (first | apply Kd.R_alloc | apply Kd.R_drewN | apply Kd.R_drew)); exact HO_8.out⟩, ⟨by (with_reducible repeat (first | apply Kd.R_alloc | apply Kd.R_drewN | apply Kd.R_drew)); exact HO_572001.out⟩, ⟨by (with_reducible repeat (first | refine blk_drewN ?_ _ | refine blk_drew ?_ | refine blk_alloc ?_ _)); exact BK560.out⟩, ⟨by (with_reducible repeat (first | refine blk_drewN ?_ _ | refine blk_drew ?_ | refine blk_alloc ?_ _)); exact BK571.out⟩, ⟨by repeat (first | (with_reducible first | exact HB.out | apply below_alloc | apply pw_below_drewN | apply below_drew1 | refine below_set ?_ GE560.out | refine below_set ?_ GE571.out) | exact HB.out)⟩⟩
                              · rw [if_neg c41] at H
                                have c41b0 : decide ((wrap64 ((wrap64 ((rd t573 x9_2) + (wrap64 (t579 * (rd t567 x9_2))))) - (rd t563 x9_2))) < 0) = false := decide_eq_false c41
                                clear c41
                                by_cases c43 : (wrap64 ((wrap64 ((rd t573 x9_2) + (wrap64 (t579 * (rd t567 x9_2))))) - (rd t563 x9_2))) > x10_35
                                · rw [if_pos c43] at H
                                  exact absurd H (by simp)
                                · rw [if_neg c43] at H
                                  have c43b0 : decide (x10_35 < (wrap64 ((wrap64 ((rd t573 x9_2) + (wrap64 (t579 * (rd t567 x9_2))))) - (rd t563 x9_2)))) = false := decide_eq_false c43
                                  clear c43
                                  have H' := Aside0.mk H
                                  clear H
                                  go_wp2
                                  repeat (go_quiet (fail); try go_wp2)
                                  go_roundg kj35
                                  case measure => have := HJ8.out; have := HK2.out; have := HJ35.out; omega
                                  case rel => exact ⟨(wrap64 (x9_2 + 1)), (by first | rfl | (simp; done) | (simp [*]; done)), H', ⟨by have := HJ8.out; have := HK2.out; have := HJ35.out; omega⟩, ⟨by (with_reducible repeat (first | apply Kd.R_alloc | apply Kd.R_drewN | apply Kd.R_drew)); exact HO_5.out⟩, ⟨by (with_reducible repeat (first | apply Kd.R_alloc | apply Kd.R_drewN | apply Kd.R_drew)); exact HO_8.out⟩, ⟨by (with_reducible repeat (first | apply Kd.R_alloc | apply Kd.R_drewN | apply Kd.R_drew)); exact HO_572001.out⟩, ⟨by (with_reducible repeat (first | refine blk_drewN ?_ _ | refine blk_drew ?_ | refine blk_alloc ?_ _)); exact BK560.out⟩, ⟨by (with_reducible repeat (first | refine blk_drewN ?_ _ | refine blk_drew ?_ | refine blk_alloc ?_ _)); exact BK571.out⟩, ⟨by repeat (first | (with_reducible first | exact HB.out | apply below_alloc | apply pw_below_drewN | apply below_drew1 | refine below_set ?_ GE560.out | refine below_set ?_ GE571.out) | exact HB.out)⟩⟩
                        · rw [if_neg c35] at H
                          exact absurd H (by simp)
                      · rw [if_neg c33] at H
                        exact absurd H (by simp)
                    · rw [if_neg c32] at H
                      exact absurd H (by simp)
                  · rw [if_neg c31] at H
                    exact absurd H (by simp)
                · rw [if_neg c30] at H
                  have c30b0 : decide (x9_2 < a0) = false := decide_eq_false c30
                  clear c30
                  obtain rfl := Option.some.inj H
                  go_wp2
                  repeat (go_quiet (fail); try go_wp2)
                  go_ret
                  exact ⟨by first | rfl | (simp [errW_none, errW_some] <;> rfl) | (simp [*, errW_none, errW_some] <;> rfl), by repeat (first | (with_reducible first | exact HB.out | apply below_alloc | apply pw_below_drewN | apply below_drew1 | refine below_set ?_ GE560.out | refine below_set ?_ GE571.out) | exact HB.out)⟩
    · replace c6 := Bool.eq_false_iff.mpr c6
      subst c6
      have H1 : (some true) = some r := by rw [if_neg (show ¬ (false = true) by decide)] at H; exact H
      clear H
      have H := H1
      clear H1
      obtain rfl := Option.some.inj H
      go_enter Try.func10, Try.ntmps10
      go_wp2_with (first | ((with_reducible refine gate_dst (N := 3) rfl ?_); refine box_event ?hg (N := 3) ?hd (cs := #[.int .i64 a1_0, .slice A1_1 l1_1.length c1_1]) (t := 42) ?hr ?_; (case hd => rfl); (case hg => rfl); (case hr => first | (go_simp; done) | (go_simp; rfl)); intro gb560 hg w44 hbox hb; have n0_ := Aside0.mk (below_step (by repeat (first | (with_reducible first | exact HB.out | apply below_alloc | apply pw_below_drewN | apply below_drew1) | exact HB.out)) hb); have n1_ := Aside0.mk (hbox); have n2_ := Aside0.mk ((by rw [hg]; exact (below_size (by repeat (first | (with_reducible first | exact HB.out | apply below_alloc | apply pw_below_drewN | apply below_drew1) | exact HB.out))) : w.heap.size ≤ gb560)); have n3_ := Aside0.mk ((by rw [hg]; exact (below_size (by repeat (first | (with_reducible first | exact HB.out | apply below_alloc | apply pw_below_drewN | apply below_drew1) | exact HB.out))) : w.heap.size ≤ gb560)); clear HB; have HB := n0_; have BK560 := n1_; have GW560 := n2_; have GE560 := n3_; clear n0_ n1_ n2_ n3_; clear hb hbox hg) | (go_at_call 22; (with_reducible refine (madrigallaw6_awake.calls k  true _ A3.out).mono ?_); rintro e w45 ⟨rfl, hb⟩; have n0_ := Aside0.mk (blk_below (g := gb560) (o := .cells #[.int .i64 a1_0, .slice A1_1 l1_1.length c1_1] 42 (0, 0)) (by (with_reducible repeat (first | refine blk_drewN ?_ _ | refine blk_drew ?_ | refine blk_alloc ?_ _)); exact BK560.out) hb); have n1_ := Aside0.mk (below_step (by repeat (first | (with_reducible first | exact HB.out | apply below_alloc | apply pw_below_drewN | apply below_drew1 | refine below_set ?_ GE560.out) | exact HB.out)) hb); clear BK560; clear HB; have BK560 := n0_; have HB := n1_; clear n0_ n1_; (try clear hb); (try clear hb2); (try clear hk); (try clear hi); (try clear hge); have hcz46_0 : w45.cell? ⟨gb560, 0, none⟩ = some (.int .i64 a1_0) := (blk_cell BK560.out 0).trans rfl; have hcz46_1 : w45.cell? ⟨gb560, 1, none⟩ = some (.slice A1_1 l1_1.length c1_1) := (blk_cell BK560.out 1).trans rfl; have hfz46_0 := blk_frozen BK560.out 0; have hfz46_1 := blk_frozen BK560.out 1) | (go_at_call 28; (with_reducible refine (madrigalref6_GoodIndex.calls k a0 a1_0 _ _ l1_1 false _ ?side1 ?side2 A5.out).mono ?_); (case side1 => repeat (first | exact (Kd.C_below HR1_1.out HB.out) | (with_reducible refine Kd.C_alloc ?_ _) | (with_reducible refine Kd.C_drewN ?_ _) | (with_reducible refine Kd.C_drew ?_))); (case side2 => exact HC1_1.out); rintro e w' ⟨rfl, ⟨nd, rfl⟩⟩; (try first | exact ⟨rfl, _, World.drewN_drewN _ _ _⟩ | exact ⟨rfl, _, Eq.trans (World.drewN_drewN _ _ _) (congrArg (World.drewN _) (Nat.add_assoc _ _ _))⟩)))
      repeat (go_quiet (first | ((with_reducible refine gate_dst (N := 3) rfl ?_); refine box_event ?hg (N := 3) ?hd (cs := #[.int .i64 a1_0, .slice A1_1 l1_1.length c1_1]) (t := 42) ?hr ?_; (case hd => rfl); (case hg => rfl); (case hr => first | (go_simp; done) | (go_simp; rfl)); intro gb560 hg w44 hbox hb; have n0_ := Aside0.mk (below_step (by repeat (first | (with_reducible first | exact HB.out | apply below_alloc | apply pw_below_drewN | apply below_drew1) | exact HB.out)) hb); have n1_ := Aside0.mk (hbox); have n2_ := Aside0.mk ((by rw [hg]; exact (below_size (by repeat (first | (with_reducible first | exact HB.out | apply below_alloc | apply pw_below_drewN | apply below_drew1) | exact HB.out))) : w.heap.size ≤ gb560)); have n3_ := Aside0.mk ((by rw [hg]; exact (below_size (by repeat (first | (with_reducible first | exact HB.out | apply below_alloc | apply pw_below_drewN | apply below_drew1) | exact HB.out))) : w.heap.size ≤ gb560)); clear HB; have HB := n0_; have BK560 := n1_; have GW560 := n2_; have GE560 := n3_; clear n0_ n1_ n2_ n3_; clear hb hbox hg) | (go_at_call 22; (with_reducible refine (madrigallaw6_awake.calls k  true _ A3.out).mono ?_); rintro e w45 ⟨rfl, hb⟩; have n0_ := Aside0.mk (blk_below (g := gb560) (o := .cells #[.int .i64 a1_0, .slice A1_1 l1_1.length c1_1] 42 (0, 0)) (by (with_reducible repeat (first | refine blk_drewN ?_ _ | refine blk_drew ?_ | refine blk_alloc ?_ _)); exact BK560.out) hb); have n1_ := Aside0.mk (below_step (by repeat (first | (with_reducible first | exact HB.out | apply below_alloc | apply pw_below_drewN | apply below_drew1 | refine below_set ?_ GE560.out) | exact HB.out)) hb); clear BK560; clear HB; have BK560 := n0_; have HB := n1_; clear n0_ n1_; (try clear hb); (try clear hb2); (try clear hk); (try clear hi); (try clear hge); have hcz46_0 : w45.cell? ⟨gb560, 0, none⟩ = some (.int .i64 a1_0) := (blk_cell BK560.out 0).trans rfl; have hcz46_1 : w45.cell? ⟨gb560, 1, none⟩ = some (.slice A1_1 l1_1.length c1_1) := (blk_cell BK560.out 1).trans rfl; have hfz46_0 := blk_frozen BK560.out 0; have hfz46_1 := blk_frozen BK560.out 1) | (go_at_call 28; (with_reducible refine (madrigalref6_GoodIndex.calls k a0 a1_0 _ _ l1_1 false _ ?side1 ?side2 A5.out).mono ?_); (case side1 => repeat (first | exact (Kd.C_below HR1_1.out HB.out) | (with_reducible refine Kd.C_alloc ?_ _) | (with_reducible refine Kd.C_drewN ?_ _) | (with_reducible refine Kd.C_drew ?_))); (case side2 => exact HC1_1.out); rintro e w' ⟨rfl, ⟨nd, rfl⟩⟩; (try first | exact ⟨rfl, _, World.drewN_drewN _ _ _⟩ | exact ⟨rfl, _, Eq.trans (World.drewN_drewN _ _ _) (congrArg (World.drewN _) (Nat.add_assoc _ _ _))⟩))); try go_wp2_with (first | ((with_reducible refine gate_dst (N := 3) rfl ?_); refine box_event ?hg (N := 3) ?hd (cs := #[.int .i64 a1_0, .slice A1_1 l1_1.length c1_1]) (t := 42) ?hr ?_; (case hd => rfl); (case hg => rfl); (case hr => first | (go_simp; done) | (go_simp; rfl)); intro gb560 hg w44 hbox hb; have n0_ := Aside0.mk (below_step (by repeat (first | (with_reducible first | exact HB.out | apply below_alloc | apply pw_below_drewN | apply below_drew1) | exact HB.out)) hb); have n1_ := Aside0.mk (hbox); have n2_ := Aside0.mk ((by rw [hg]; exact (below_size (by repeat (first | (with_reducible first | exact HB.out | apply below_alloc | apply pw_below_drewN | apply below_drew1) | exact HB.out))) : w.heap.size ≤ gb560)); have n3_ := Aside0.mk ((by rw [hg]; exact (below_size (by repeat (first | (with_reducible first | exact HB.out | apply below_alloc | apply pw_below_drewN | apply below_drew1) | exact HB.out))) : w.heap.size ≤ gb560)); clear HB; have HB := n0_; have BK560 := n1_; have GW560 := n2_; have GE560 := n3_; clear n0_ n1_ n2_ n3_; clear hb hbox hg) | (go_at_call 22; (with_reducible refine (madrigallaw6_awake.calls k  true _ A3.out).mono ?_); rintro e w45 ⟨rfl, hb⟩; have n0_ := Aside0.mk (blk_below (g := gb560) (o := .cells #[.int .i64 a1_0, .slice A1_1 l1_1.length c1_1] 42 (0, 0)) (by (with_reducible repeat (first | refine blk_drewN ?_ _ | refine blk_drew ?_ | refine blk_alloc ?_ _)); exact BK560.out) hb); have n1_ := Aside0.mk (below_step (by repeat (first | (with_reducible first | exact HB.out | apply below_alloc | apply pw_below_drewN | apply below_drew1 | refine below_set ?_ GE560.out) | exact HB.out)) hb); clear BK560; clear HB; have BK560 := n0_; have HB := n1_; clear n0_ n1_; (try clear hb); (try clear hb2); (try clear hk); (try clear hi); (try clear hge); have hcz46_0 : w45.cell? ⟨gb560, 0, none⟩ = some (.int .i64 a1_0) := (blk_cell BK560.out 0).trans rfl; have hcz46_1 : w45.cell? ⟨gb560, 1, none⟩ = some (.slice A1_1 l1_1.length c1_1) := (blk_cell BK560.out 1).trans rfl; have hfz46_0 := blk_frozen BK560.out 0; have hfz46_1 := blk_frozen BK560.out 1) | (go_at_call 28; (with_reducible refine (madrigalref6_GoodIndex.calls k a0 a1_0 _ _ l1_1 false _ ?side1 ?side2 A5.out).mono ?_); (case side1 => repeat (first | exact (Kd.C_below HR1_1.out HB.out) | (with_reducible refine Kd.C_alloc ?_ _) | (with_reducible refine Kd.C_drewN ?_ _) | (with_reducible refine Kd.C_drew ?_))); (case side2 => exact HC1_1.out); rintro e w' ⟨rfl, ⟨nd, rfl⟩⟩; (try first | exact ⟨rfl, _, World.drewN_drewN _ _ _⟩ | exact ⟨rfl, _, Eq.trans (World.drewN_drewN _ _ _) (congrArg (World.drewN _) (Nat.add_assoc _ _ _))⟩))))
      go_ret
      exact ⟨by first | rfl | (simp [errW_none, errW_some] <;> rfl) | (simp [*, errW_none, errW_some] <;> rfl), by repeat (first | (with_reducible first | exact HB.out | apply below_alloc | apply pw_below_drewN | apply below_drew1 | refine below_set ?_ GE560.out) | exact HB.out)⟩
  · replace c4 := Bool.eq_false_iff.mpr c4
    subst c4
    have H1 : (none) = some r := by rw [if_neg (show ¬ (false = true) by decide)] at H; exact H
    clear H
    have H := H1
    clear H1
    exact absurd H (by simp)

/-- THE ONE PURE STATEMENT of madrigallaw6_LsfNear. -/
def madrigallaw6_LsfNear.Pure : Prop := ∀ (a0 : Int) (a1_0 : Int) (l1_1 : List Int), (Lit.int .i64 a0).wf = true → (Lit.int .i64 a1_0).wf = true → l1_1.length ≤ maxLen → (∀ x ∈ l1_1, (Lit.int .i64 x).wf = true) → ∃ k, madrigallaw6_LsfNear.f k a0 a1_0 l1_1 = some true
theorem madrigallaw6_LsfNear.walk (P : madrigallaw6_LsfNear.Pure) (a0 : Int) (a1_0 : Int) (a1 : Option Addr) (len1 cap1 : Nat) (z1 : List Int) (w : World) (w0 : (Lit.int .i64 a0).wf = true) (v1 : (Lit.int .i64 a1_0).wf = true) (w1 : (a1 = none ∧ len1 = 0 ∧ cap1 = 0 ∧ z1 = []) ∨ ∃ x, a1 = some x ∧ len1 ≤ cap1 ∧ cap1 ≤ maxLen ∧ z1.length = cap1 ∧ (∀ i, i < z1.length → w.cell? (x.add i) = some (.int .i64 (z1.getD i 0))) ∧ ∀ n ∈ z1, (Lit.int .i64 n).wf = true) :
    Calls Try.prog 10 #[.int .i64 a0, .agg #[.int .i64 a1_0, .slice a1 len1 cap1]] w fun e w' => e = .returned (.bool true) ∧ Below w.heap.size w w' := by
  obtain ⟨l1, rfl, hr1, hm1, hw1, hc1⟩ := ReadsInt.ofRowC w1
  obtain ⟨k, h⟩ := P a0 a1_0 l1 w0 v1 hm1 hw1
  refine (madrigallaw6_LsfNear.calls k a0 a1_0 _ _ l1 true w (Kd.C_of_reads (d := (0 : Int)) (h1 := fun _ => rfl) hr1) hc1 h).mono ?_
  rintro e w' ⟨rfl, hd⟩
  exact ⟨rfl, hd⟩

end Go.Proofs.Ytdchabinakboeaa.P
