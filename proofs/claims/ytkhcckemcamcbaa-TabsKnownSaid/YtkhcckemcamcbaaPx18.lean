/- The machine side of the laws of one chapter, without conditions: each call of a Go function comes to what the Lean function of its name answers. Written for this claim by a program of the prover. -/
import Derived.Test.YtkhcckemcamcbaaPx0
import Derived.Test.YtkhcckemcamcbaaPx1
import Derived.Test.YtkhcckemcamcbaaPx2
import Derived.Test.YtkhcckemcamcbaaPx3
import Derived.Test.YtkhcckemcamcbaaPx4
import Derived.Test.YtkhcckemcamcbaaPx5
import Derived.Test.YtkhcckemcamcbaaPx6
import Derived.Test.YtkhcckemcamcbaaPx7
import Derived.Test.YtkhcckemcamcbaaPx17
namespace Go.Proofs.Ytkhcckemcamcbaa.P
open Go.RowKit Go.Proofs.YtkhcckemcamcbaaW.PrintWords Go.Proofs.YtkhcckemcamcbaaW.PrintLast Go.Proofs.YtkhcckemcamcbaaW.PrintMore
attribute [local go_sem] max2_int min2_int max_two min_two max_three min_three max_four min_four   -- for this text's walks alone
set_option linter.unusedVariables false
set_option linter.unusedSimpArgs false

attribute [local go_sem high] eqA28
/-! ### madrigallaw2_TabsKnown: function 3 -/
def madrigallaw2_TabsKnown.l0 : Nat → Int → Option (Bool)
  | 0, _ => none
  | k + 1, x1 => if x1 < 9 then ((tabs_Icdf.f x1).bind fun t212 => ((tabs_Good.f k t212).bind fun t215 => (if t215 = true then (madrigallaw2_TabsKnown.l0 k (wrap64 (x1 + 1))) else (none)))) else ((tabs_Icdf.f 9).bind fun t216 => (if (t216.length : Int) = 0 then ((tabs_Good.f k ([] : List Int)).bind fun t219 => (if t219 = true then (none) else ((tabs_Good.f k (([256, 0] : List Int))).bind fun t223 => (if t223 = true then (none) else ((tabs_Good.f k (([0] : List Int))).bind fun t227 => (if t227 = true then ((tabs_Edges.f 1).bind fun t228 => (if (t228.length : Int) = 0 then ((tabs_Lsf.f k 11 0).bind fun t231 => (if (t231.length : Int) = 0 then ((tabs_Taps.f 8).bind fun bt234 => (if (bt234.1 == 0 && (bt234.2.1 == 0 && (bt234.2.2.1 == 0 && (bt234.2.2.2.1 == 0 && (bt234.2.2.2.2 == 0))))) = true then ((tabs_Rate.f 12000).bind fun t239 => (some (!t239))) else (none))) else (none))) else (none))) else (none))))))) else (none)))
def madrigallaw2_TabsKnown.f (k : Nat)  : Option (Bool) := (madrigallaw2_awake.f k).bind fun t211 => (if t211 = true then (madrigallaw2_TabsKnown.l0 k 0) else (none))
theorem madrigallaw2_TabsKnown.mono_l : ∀ k, (∀ y0, LeO (madrigallaw2_TabsKnown.l0 k y0) (madrigallaw2_TabsKnown.l0 (k + 1) y0))
  | 0 => fun _ r h => by simp [madrigallaw2_TabsKnown.l0] at h
  | k + 1 => by
    have ih0 := madrigallaw2_TabsKnown.mono_l k
    · intro y0
      unfold madrigallaw2_TabsKnown.l0
      repeat' first
      | (with_reducible exact ih0 _)
      | (with_reducible exact madrigallaw2_awake.mono _)
      | (with_reducible exact tabs_Good.mono _ _)
      | (with_reducible exact tabs_Lsf.mono _ _ _)
      | (with_reducible exact LeO.refl _)
      | (with_reducible exact LeO.none _)
      | (with_reducible refine LeO.ite ?_ ?_)
      | (with_reducible refine LeO.bind ?_ (fun _ => ?_))
      | exact ih0 _
      | exact madrigallaw2_awake.mono _
      | exact tabs_Good.mono _ _
      | exact tabs_Lsf.mono _ _ _
      | exact LeO.none _
      | refine LeO.ite ?_ ?_
      | refine LeO.bind ?_ (fun _ => ?_)
theorem madrigallaw2_TabsKnown.mono : ∀ k, LeO (madrigallaw2_TabsKnown.f k ) (madrigallaw2_TabsKnown.f (k + 1) ) := by
  intro  k
  have ih0 := madrigallaw2_TabsKnown.mono_l k
  unfold madrigallaw2_TabsKnown.f
  repeat' first
      | (with_reducible exact ih0 _)
      | (with_reducible exact madrigallaw2_awake.mono _)
      | (with_reducible exact tabs_Good.mono _ _)
      | (with_reducible exact tabs_Lsf.mono _ _ _)
      | (with_reducible exact LeO.refl _)
      | (with_reducible exact LeO.none _)
      | (with_reducible refine LeO.ite ?_ ?_)
      | (with_reducible refine LeO.bind ?_ (fun _ => ?_))
      | exact ih0 _
      | exact madrigallaw2_awake.mono _
      | exact tabs_Good.mono _ _
      | exact tabs_Lsf.mono _ _ _
      | exact LeO.none _
      | refine LeO.ite ?_ ?_
      | refine LeO.bind ?_ (fun _ => ?_)
set_option maxHeartbeats 8000000 in
set_option maxRecDepth 100000 in
theorem madrigallaw2_TabsKnown.calls (k : Nat)  (r : Bool) (w : World) (h : madrigallaw2_TabsKnown.f k  = some r) :
    Calls Try.prog 3 #[] w fun e w' => e = .returned (.bool r) ∧ Below w.heap.size w w' := by
  have hu28 := Try.underlying28
  have HB := Aside0.mk (Below.refl w.heap.size w)
  have H : ((madrigallaw2_awake.f k).bind fun t211 => (if t211 = true then (madrigallaw2_TabsKnown.l0 k 0) else (none))) = some r := h
  clear h
  replace H := Option.bind_eq_some_iff.mp H
  obtain ⟨t211, A10, H⟩ := H
  replace H : (if t211 = true then (madrigallaw2_TabsKnown.l0 k 0) else (none)) = some r := H
  have A1 := Aside0.mk A10
  clear A10
  by_cases c2 : t211 = true
  · subst c2
    have H1 : (madrigallaw2_TabsKnown.l0 k 0) = some r := by rw [if_pos rfl] at H; exact H
    clear H
    have H := H1
    clear H1
    have H' := Aside0.mk H
    clear H
    go_enter Try.func3, Try.ntmps3
    go_wp2_with (first | ((with_reducible refine gate_callee (f := 10) rfl ?_); refine goesL_ (some 2) rfl rfl Try.func10 (by kernel_rfl) rfl #[] rfl (by (try simp only [List.map_toArray, List.map_cons, List.map_nil]); first | done | rfl | (simp only [List.length_drop, List.length_take]; rfl)) ?_; (with_reducible refine (madrigallaw2_awake.calls k  true _ A1.out).mono ?_); rintro e w3 ⟨rfl, hb⟩; refine ⟨_, rfl, ?_⟩; have n0_ := Aside0.mk (below_step (by repeat (first | (with_reducible first | exact HB.out | apply below_alloc | apply pw_below_drewN | apply below_drew1) | exact HB.out)) hb); clear HB; have HB := n0_; clear n0_; (try clear hb); (try clear hb2); (try clear hk); (try clear hi); (try clear hge)))
    go_loopg [1] k (fun kq v1 w' => ∃ (x1_1 : Int), v1 = .int .i64 x1_1 ∧ Aside0 (madrigallaw2_TabsKnown.l0 kq x1_1 = some r) ∧ Aside0 (kq ≤ k) ∧ Aside0 (Below w.heap.size w w'))
    case atStart => exact ⟨(0), (by first | rfl | (simp; done) | (simp [*]; done)), H', ⟨Nat.le_refl _⟩, ⟨by repeat (first | (with_reducible first | exact HB.out | apply below_alloc | apply pw_below_drewN | apply below_drew1) | exact HB.out)⟩⟩
    case round =>
      clear H'
      try clear c1
      try clear c2
      try clear p2
      try clear c3
      obtain ⟨x1_1, rfl, HA, HK1, HB⟩ := hrel
      (try simp only [i64_w, i32_w])
      cases gk with
      | zero => exact absurd HA.out (by simp [madrigallaw2_TabsKnown.l0])
      | succ k1 =>
        have H := HA.out
        clear HA
        simp only [madrigallaw2_TabsKnown.l0] at H
        by_cases c4 : x1_1 < 9
        · rw [if_pos c4] at H
          have c4b0 : decide (x1_1 < 9) = true := decide_eq_true c4
          clear c4
          replace H := Option.bind_eq_some_iff.mp H
          obtain ⟨t212, A50, H⟩ := H
          replace H : ((tabs_Good.f k1 t212).bind fun t215 => (if t215 = true then (madrigallaw2_TabsKnown.l0 k1 (wrap64 (x1_1 + 1))) else (none))) = some r := H
          have A5 := Aside0.mk A50
          clear A50
          replace H := Option.bind_eq_some_iff.mp H
          obtain ⟨t215, A60, H⟩ := H
          replace H : (if t215 = true then (madrigallaw2_TabsKnown.l0 k1 (wrap64 (x1_1 + 1))) else (none)) = some r := H
          have A6 := Aside0.mk A60
          clear A60
          by_cases c7 : t215 = true
          · subst c7
            have H1 : (madrigallaw2_TabsKnown.l0 k1 (wrap64 (x1_1 + 1))) = some r := by rw [if_pos rfl] at H; exact H
            clear H
            have H := H1
            clear H1
            have H' := Aside0.mk H
            clear H
            go_wp2_with (first | ((with_reducible refine gate_callee (f := 12) rfl ?_); refine goesL_ (some 9) rfl rfl Try.func12 (by kernel_rfl) rfl #[.int .i64 x1_1] rfl (by (try simp only [List.map_toArray, List.map_cons, List.map_nil]); first | done | rfl | (simp only [List.length_drop, List.length_take]; rfl)) ?_; (with_reducible refine (tabs_Icdf.calls x1_1 t212 _ A5.out).mono ?_); rintro e w8 ⟨v213, rfl, ho0, hb⟩; refine ⟨_, rfl, ?_⟩; have n0_ := Aside0.mk (Kd.R_lower ho0 (below_size (by repeat (first | (with_reducible first | exact HB.out | apply below_alloc | apply pw_below_drewN | apply below_drew1) | exact HB.out)))); have n1_ := Aside0.mk (below_step (by repeat (first | (with_reducible first | exact HB.out | apply below_alloc | apply pw_below_drewN | apply below_drew1) | exact HB.out)) hb); clear HB; have HO214 := n0_; have HB := n1_; clear n0_ n1_; (try clear hb); (try clear hb2); (try clear hk); (try clear hi); (try clear hge); (try clear ho0); obtain ⟨Ao9, co9, eo9⟩ := Kd.R_slice HO214.out; subst eo9) | ((with_reducible refine gate_callee (f := 11) rfl ?_); refine goesL_ (some 10) rfl rfl Try.func11 (by kernel_rfl) rfl #[.slice Ao9 t212.length co9] rfl (by (try simp only [List.map_toArray, List.map_cons, List.map_nil]); first | done | rfl | (simp only [List.length_drop, List.length_take]; rfl)) ?_; (with_reducible refine (tabs_Good.calls k1 _ _ t212 true _ ?side1 ?side2 A6.out).mono ?_); (case side1 => repeat (first | exact (Kd.R_reads' HO214.out).2.2 | (with_reducible refine Kd.C_alloc ?_ _) | (with_reducible refine Kd.C_drewN ?_ _) | (with_reducible refine Kd.C_drew ?_))); (case side2 => exact (Kd.R_reads' HO214.out).2.1); rintro e w' ⟨rfl, ⟨nd, rfl⟩⟩; refine ⟨_, rfl, ?_⟩))
            go_roundg k1
            case measure => have := HK1.out; omega
            case rel => exact ⟨(wrap64 (x1_1 + 1)), (by first | rfl | (simp; done) | (simp [*]; done)), H', ⟨by have := HK1.out; omega⟩, ⟨by repeat (first | (with_reducible first | exact HB.out | apply below_alloc | apply pw_below_drewN | apply below_drew1) | exact HB.out)⟩⟩
          · replace c7 := Bool.eq_false_iff.mpr c7
            subst c7
            have H1 : (none) = some r := by rw [if_neg (show ¬ (false = true) by decide)] at H; exact H
            clear H
            have H := H1
            clear H1
            exact absurd H (by simp)
        · rw [if_neg c4] at H
          have c4b0 : decide (x1_1 < 9) = false := decide_eq_false c4
          clear c4
          replace H := Option.bind_eq_some_iff.mp H
          obtain ⟨t216, A100, H⟩ := H
          replace H : (if (t216.length : Int) = 0 then ((tabs_Good.f k1 ([] : List Int)).bind fun t219 => (if t219 = true then (none) else ((tabs_Good.f k1 (([256, 0] : List Int))).bind fun t223 => (if t223 = true then (none) else ((tabs_Good.f k1 (([0] : List Int))).bind fun t227 => (if t227 = true then ((tabs_Edges.f 1).bind fun t228 => (if (t228.length : Int) = 0 then ((tabs_Lsf.f k1 11 0).bind fun t231 => (if (t231.length : Int) = 0 then ((tabs_Taps.f 8).bind fun bt234 => (if (bt234.1 == 0 && (bt234.2.1 == 0 && (bt234.2.2.1 == 0 && (bt234.2.2.2.1 == 0 && (bt234.2.2.2.2 == 0))))) = true then ((tabs_Rate.f 12000).bind fun t239 => (some (!t239))) else (none))) else (none))) else (none))) else (none))))))) else (none)) = some r := H
          have A10 := Aside0.mk A100
          clear A100
          by_cases c11 : (t216.length : Int) = 0
          · rw [if_pos c11] at H
            have c11b0 : ((t216.length : Int) == 0) = true := beq_iff_eq.mpr c11
            have c11b1 : ((t216.length : Int) != 0) = false := bne_eq_false_iff_eq.mpr c11
            clear c11
            replace H := Option.bind_eq_some_iff.mp H
            obtain ⟨t219, A120, H⟩ := H
            replace H : (if t219 = true then (none) else ((tabs_Good.f k1 (([256, 0] : List Int))).bind fun t223 => (if t223 = true then (none) else ((tabs_Good.f k1 (([0] : List Int))).bind fun t227 => (if t227 = true then ((tabs_Edges.f 1).bind fun t228 => (if (t228.length : Int) = 0 then ((tabs_Lsf.f k1 11 0).bind fun t231 => (if (t231.length : Int) = 0 then ((tabs_Taps.f 8).bind fun bt234 => (if (bt234.1 == 0 && (bt234.2.1 == 0 && (bt234.2.2.1 == 0 && (bt234.2.2.2.1 == 0 && (bt234.2.2.2.2 == 0))))) = true then ((tabs_Rate.f 12000).bind fun t239 => (some (!t239))) else (none))) else (none))) else (none))) else (none)))))) = some r := H
            have A12 := Aside0.mk A120
            clear A120
            by_cases c13 : t219 = true
            · subst c13
              have H1 : (none) = some r := by rw [if_pos rfl] at H; exact H
              clear H
              have H := H1
              clear H1
              exact absurd H (by simp)
            · replace c13 := Bool.eq_false_iff.mpr c13
              subst c13
              have H1 : ((tabs_Good.f k1 (([256, 0] : List Int))).bind fun t223 => (if t223 = true then (none) else ((tabs_Good.f k1 (([0] : List Int))).bind fun t227 => (if t227 = true then ((tabs_Edges.f 1).bind fun t228 => (if (t228.length : Int) = 0 then ((tabs_Lsf.f k1 11 0).bind fun t231 => (if (t231.length : Int) = 0 then ((tabs_Taps.f 8).bind fun bt234 => (if (bt234.1 == 0 && (bt234.2.1 == 0 && (bt234.2.2.1 == 0 && (bt234.2.2.2.1 == 0 && (bt234.2.2.2.2 == 0))))) = true then ((tabs_Rate.f 12000).bind fun t239 => (some (!t239))) else (none))) else (none))) else (none))) else (none))))) = some r := by rw [if_neg (show ¬ (false = true) by decide)] at H; exact H
              clear H
              have H := H1
              clear H1
              obtain ⟨y220, hy220⟩ : ∃ y_ : List Int, y_ = (([256, 0] : List Int)) := ⟨_, rfl⟩
              replace H : ((tabs_Good.f k1 y220).bind fun t223 => (if t223 = true then (none) else ((tabs_Good.f k1 (([0] : List Int))).bind fun t227 => (if t227 = true then ((tabs_Edges.f 1).bind fun t228 => (if (t228.length : Int) = 0 then ((tabs_Lsf.f k1 11 0).bind fun t231 => (if (t231.length : Int) = 0 then ((tabs_Taps.f 8).bind fun bt234 => (if (bt234.1 == 0 && (bt234.2.1 == 0 && (bt234.2.2.1 == 0 && (bt234.2.2.2.1 == 0 && (bt234.2.2.2.2 == 0))))) = true then ((tabs_Rate.f 12000).bind fun t239 => (some (!t239))) else (none))) else (none))) else (none))) else (none))))) = some r := by first | (rw [hy220]; with_reducible exact H) | (have H2_ := (Option.bind_some _ _).symm.trans H; rw [hy220]; with_reducible exact H2_) | (have H2_ := (Option.bind_some _ _).symm.trans H; with_reducible exact H2_) | with_reducible exact H | (rw [hy220]; exact H) | exact H
              have Ny220 := Aside0.mk hy220
              clear hy220
              replace H := Option.bind_eq_some_iff.mp H
              obtain ⟨t223, A140, H⟩ := H
              replace H : (if t223 = true then (none) else ((tabs_Good.f k1 (([0] : List Int))).bind fun t227 => (if t227 = true then ((tabs_Edges.f 1).bind fun t228 => (if (t228.length : Int) = 0 then ((tabs_Lsf.f k1 11 0).bind fun t231 => (if (t231.length : Int) = 0 then ((tabs_Taps.f 8).bind fun bt234 => (if (bt234.1 == 0 && (bt234.2.1 == 0 && (bt234.2.2.1 == 0 && (bt234.2.2.2.1 == 0 && (bt234.2.2.2.2 == 0))))) = true then ((tabs_Rate.f 12000).bind fun t239 => (some (!t239))) else (none))) else (none))) else (none))) else (none)))) = some r := H
              have A14 := Aside0.mk A140
              clear A140
              by_cases c15 : t223 = true
              · subst c15
                have H1 : (none) = some r := by rw [if_pos rfl] at H; exact H
                clear H
                have H := H1
                clear H1
                exact absurd H (by simp)
              · replace c15 := Bool.eq_false_iff.mpr c15
                subst c15
                have H1 : ((tabs_Good.f k1 (([0] : List Int))).bind fun t227 => (if t227 = true then ((tabs_Edges.f 1).bind fun t228 => (if (t228.length : Int) = 0 then ((tabs_Lsf.f k1 11 0).bind fun t231 => (if (t231.length : Int) = 0 then ((tabs_Taps.f 8).bind fun bt234 => (if (bt234.1 == 0 && (bt234.2.1 == 0 && (bt234.2.2.1 == 0 && (bt234.2.2.2.1 == 0 && (bt234.2.2.2.2 == 0))))) = true then ((tabs_Rate.f 12000).bind fun t239 => (some (!t239))) else (none))) else (none))) else (none))) else (none))) = some r := by rw [if_neg (show ¬ (false = true) by decide)] at H; exact H
                clear H
                have H := H1
                clear H1
                obtain ⟨y224, hy224⟩ : ∃ y_ : List Int, y_ = (([0] : List Int)) := ⟨_, rfl⟩
                replace H : ((tabs_Good.f k1 y224).bind fun t227 => (if t227 = true then ((tabs_Edges.f 1).bind fun t228 => (if (t228.length : Int) = 0 then ((tabs_Lsf.f k1 11 0).bind fun t231 => (if (t231.length : Int) = 0 then ((tabs_Taps.f 8).bind fun bt234 => (if (bt234.1 == 0 && (bt234.2.1 == 0 && (bt234.2.2.1 == 0 && (bt234.2.2.2.1 == 0 && (bt234.2.2.2.2 == 0))))) = true then ((tabs_Rate.f 12000).bind fun t239 => (some (!t239))) else (none))) else (none))) else (none))) else (none))) = some r := by first | (rw [hy224]; with_reducible exact H) | (have H2_ := (Option.bind_some _ _).symm.trans H; rw [hy224]; with_reducible exact H2_) | (have H2_ := (Option.bind_some _ _).symm.trans H; with_reducible exact H2_) | with_reducible exact H | (rw [hy224]; exact H) | exact H
                have Ny224 := Aside0.mk hy224
                clear hy224
                replace H := Option.bind_eq_some_iff.mp H
                obtain ⟨t227, A160, H⟩ := H
                replace H : (if t227 = true then ((tabs_Edges.f 1).bind fun t228 => (if (t228.length : Int) = 0 then ((tabs_Lsf.f k1 11 0).bind fun t231 => (if (t231.length : Int) = 0 then ((tabs_Taps.f 8).bind fun bt234 => (if (bt234.1 == 0 && (bt234.2.1 == 0 && (bt234.2.2.1 == 0 && (bt234.2.2.2.1 == 0 && (bt234.2.2.2.2 == 0))))) = true then ((tabs_Rate.f 12000).bind fun t239 => (some (!t239))) else (none))) else (none))) else (none))) else (none)) = some r := H
                have A16 := Aside0.mk A160
                clear A160
                by_cases c17 : t227 = true
                · subst c17
                  have H1 : ((tabs_Edges.f 1).bind fun t228 => (if (t228.length : Int) = 0 then ((tabs_Lsf.f k1 11 0).bind fun t231 => (if (t231.length : Int) = 0 then ((tabs_Taps.f 8).bind fun bt234 => (if (bt234.1 == 0 && (bt234.2.1 == 0 && (bt234.2.2.1 == 0 && (bt234.2.2.2.1 == 0 && (bt234.2.2.2.2 == 0))))) = true then ((tabs_Rate.f 12000).bind fun t239 => (some (!t239))) else (none))) else (none))) else (none))) = some r := by rw [if_pos rfl] at H; exact H
                  clear H
                  have H := H1
                  clear H1
                  replace H := Option.bind_eq_some_iff.mp H
                  obtain ⟨t228, A180, H⟩ := H
                  replace H : (if (t228.length : Int) = 0 then ((tabs_Lsf.f k1 11 0).bind fun t231 => (if (t231.length : Int) = 0 then ((tabs_Taps.f 8).bind fun bt234 => (if (bt234.1 == 0 && (bt234.2.1 == 0 && (bt234.2.2.1 == 0 && (bt234.2.2.2.1 == 0 && (bt234.2.2.2.2 == 0))))) = true then ((tabs_Rate.f 12000).bind fun t239 => (some (!t239))) else (none))) else (none))) else (none)) = some r := H
                  have A18 := Aside0.mk A180
                  clear A180
                  by_cases c19 : (t228.length : Int) = 0
                  · rw [if_pos c19] at H
                    have c19b0 : ((t228.length : Int) == 0) = true := beq_iff_eq.mpr c19
                    have c19b1 : ((t228.length : Int) != 0) = false := bne_eq_false_iff_eq.mpr c19
                    clear c19
                    replace H := Option.bind_eq_some_iff.mp H
                    obtain ⟨t231, A200, H⟩ := H
                    replace H : (if (t231.length : Int) = 0 then ((tabs_Taps.f 8).bind fun bt234 => (if (bt234.1 == 0 && (bt234.2.1 == 0 && (bt234.2.2.1 == 0 && (bt234.2.2.2.1 == 0 && (bt234.2.2.2.2 == 0))))) = true then ((tabs_Rate.f 12000).bind fun t239 => (some (!t239))) else (none))) else (none)) = some r := H
                    have A20 := Aside0.mk A200
                    clear A200
                    by_cases c21 : (t231.length : Int) = 0
                    · rw [if_pos c21] at H
                      have c21b0 : ((t231.length : Int) == 0) = true := beq_iff_eq.mpr c21
                      have c21b1 : ((t231.length : Int) != 0) = false := bne_eq_false_iff_eq.mpr c21
                      clear c21
                      replace H := Option.bind_eq_some_iff.mp H
                      obtain ⟨⟨t234, t235, t236, t237, t238⟩, A220, H⟩ := H
                      replace H : (if (t234 == 0 && (t235 == 0 && (t236 == 0 && (t237 == 0 && (t238 == 0))))) = true then ((tabs_Rate.f 12000).bind fun t239 => (some (!t239))) else (none)) = some r := H
                      have A22 := Aside0.mk A220
                      clear A220
                      by_cases c23 : (t234 == 0 && (t235 == 0 && (t236 == 0 && (t237 == 0 && (t238 == 0))))) = true
                      · rw [if_pos c23] at H
                        have c23b0 : (t234 == 0 && (t235 == 0 && (t236 == 0 && (t237 == 0 && (t238 == 0))))) = true := c23
                        (try (have c23b1 : decide (t234 = 0 && (t235 == 0 && (t236 == 0 && (t237 == 0 && (t238 == 0))))) = true := by simpa using c23))
                        (try (have c23b2 : (t234 == 0 && (t235 == 0 && (t236 == 0 && (t237 == 0 && (t238 == 0))))) = true := by simpa using c23))
                        clear c23
                        replace H := Option.bind_eq_some_iff.mp H
                        obtain ⟨t239, A240, H⟩ := H
                        replace H : (some (!t239)) = some r := H
                        have A24 := Aside0.mk A240
                        clear A240
                        obtain rfl := Option.some.inj H
                        go_wp2_with (first | ((with_reducible refine gate_callee (f := 12) rfl ?_); refine goesL_ (some 12) rfl rfl Try.func12 (by kernel_rfl) rfl #[.int .i64 9] rfl (by (try simp only [List.map_toArray, List.map_cons, List.map_nil]); first | done | rfl | (simp only [List.length_drop, List.length_take]; rfl)) ?_; (with_reducible refine (tabs_Icdf.calls 9 t216 _ A10.out).mono ?_); rintro e w25 ⟨v217, rfl, ho0, hb⟩; refine ⟨_, rfl, ?_⟩; have n0_ := Aside0.mk (Kd.R_lower ho0 (below_size (by repeat (first | (with_reducible first | exact HB.out | apply below_alloc | apply pw_below_drewN | apply below_drew1) | exact HB.out)))); have n1_ := Aside0.mk (below_step (by repeat (first | (with_reducible first | exact HB.out | apply below_alloc | apply pw_below_drewN | apply below_drew1) | exact HB.out)) hb); clear HB; have HO218 := n0_; have HB := n1_; clear n0_ n1_; (try clear hb); (try clear hb2); (try clear hk); (try clear hi); (try clear hge); (try clear ho0); obtain ⟨Ao26, co26, eo26⟩ := Kd.R_slice HO218.out; subst eo26) | (go_at_call 11; (refine calls_of_args (args' := #[.slice none ([] : List Int).length 0]) (by rfl) ?_); (with_reducible refine (tabs_Good.calls k1 none 0 ([] : List Int) false _ ?side1 ?side2 A12.out).mono ?_); (case side1 => exact Kd.C_nil _ _); (case side2 => exact Nat.le_refl _); rintro e w' ⟨rfl, ⟨nd, rfl⟩⟩) | ((with_reducible refine gate_dst (N := 20) rfl ?_); (try (refine gate_guard (by rfl) ?_; dsimp only)); refine Kd.R_lit (Kd.int .i64) _ 3 ?hg (N := 20) ?hd (xs := ([256, 0] : List Int)) (inner := [.int .i64 256, .int .i64 0]) (ok := fun _ => True) (okp := fun _ => True) ?hr ?hp (fun _ hk => hk) trivial (Below.refl _ _) (Nat.le_refl _) (by simp) ?_; (case hd => rfl); (case hg => rfl); (case hr => first | (go_simp; done) | (go_simp; rfl)); (case hp => exact (Reps.one (show Kd.M (Kd.int .i64) _ _ _ 256 [.int .i64 256] from rfl) (Reps.one (show Kd.M (Kd.int .i64) _ _ _ 0 [.int .i64 0] from rfl) (Reps.none _ _)))); intro v221 w27 ho28 hb hg_ hnew_; clear hg_ hnew_; (first | rw [← Ny220.out] at ho28 | (simp only [Int.reduceToNat] at ho28; rw [← Ny220.out] at ho28)); have n0_ := Aside0.mk (Kd.R_elder' (by (with_reducible repeat (first | apply Kd.R_alloc | apply Kd.R_drewN | apply Kd.R_drew)); exact HO218.out) (Kd.R_base ho28) hb); have n1_ := Aside0.mk (Kd.R_lower (Kd.R_new' ho28 (Kd.R_lt (by (with_reducible repeat (first | apply Kd.R_alloc | apply Kd.R_drewN | apply Kd.R_drew)); exact HO218.out))) (below_size (by repeat (first | (with_reducible first | exact HB.out | apply below_alloc | apply pw_below_drewN | apply below_drew1) | exact HB.out)))); have n2_ := Aside0.mk (below_step (by repeat (first | (with_reducible first | exact HB.out | apply below_alloc | apply pw_below_drewN | apply below_drew1) | exact HB.out)) hb); clear HO218; clear HB; have HO218 := n0_; have HO222 := n1_; have HB := n2_; clear n0_ n1_ n2_; clear hb ho28; obtain ⟨Ao29, co29, eo29⟩ := Kd.R_slice HO222.out; subst eo29) | (go_at_call 11; (with_reducible refine (tabs_Good.calls k1 _ _ y220 false _ ?side1 ?side2 A14.out).mono ?_); (case side1 => repeat (first | exact (Kd.R_reads' HO222.out).2.2 | (with_reducible refine Kd.C_alloc ?_ _) | (with_reducible refine Kd.C_drewN ?_ _) | (with_reducible refine Kd.C_drew ?_))); (case side2 => exact (Kd.R_reads' HO222.out).2.1); rintro e w' ⟨rfl, ⟨nd, rfl⟩⟩) | ((with_reducible refine gate_dst (N := 25) rfl ?_); (try (refine gate_guard (by rfl) ?_; dsimp only)); refine Kd.R_lit (Kd.int .i64) _ 3 ?hg (N := 25) ?hd (xs := ([0] : List Int)) (inner := [.int .i64 0]) (ok := fun _ => True) (okp := fun _ => True) ?hr ?hp (fun _ hk => hk) trivial (Below.refl _ _) (Nat.le_refl _) (by simp) ?_; (case hd => rfl); (case hg => rfl); (case hr => first | (go_simp; done) | (go_simp; rfl)); (case hp => exact (Reps.one (show Kd.M (Kd.int .i64) _ _ _ 0 [.int .i64 0] from rfl) (Reps.none _ _))); intro v225 w30 ho31 hb hg_ hnew_; clear hg_ hnew_; (first | rw [← Ny224.out] at ho31 | (simp only [Int.reduceToNat] at ho31; rw [← Ny224.out] at ho31)); have n0_ := Aside0.mk (Kd.R_elder' (by (with_reducible repeat (first | apply Kd.R_alloc | apply Kd.R_drewN | apply Kd.R_drew)); exact HO218.out) (Kd.R_base ho31) hb); have n1_ := Aside0.mk (Kd.R_elder' (by (with_reducible repeat (first | apply Kd.R_alloc | apply Kd.R_drewN | apply Kd.R_drew)); exact HO222.out) (Kd.R_base ho31) hb); have n2_ := Aside0.mk (Kd.R_lower (Kd.R_new' (Kd.R_new' ho31 (Kd.R_lt (by (with_reducible repeat (first | apply Kd.R_alloc | apply Kd.R_drewN | apply Kd.R_drew)); exact HO218.out))) (Kd.R_lt (by (with_reducible repeat (first | apply Kd.R_alloc | apply Kd.R_drewN | apply Kd.R_drew)); exact HO222.out))) (below_size (by repeat (first | (with_reducible first | exact HB.out | apply below_alloc | apply pw_below_drewN | apply below_drew1) | exact HB.out)))); have n3_ := Aside0.mk (below_step (by repeat (first | (with_reducible first | exact HB.out | apply below_alloc | apply pw_below_drewN | apply below_drew1) | exact HB.out)) hb); clear HO218; clear HO222; clear HB; have HO218 := n0_; have HO222 := n1_; have HO226 := n2_; have HB := n3_; clear n0_ n1_ n2_ n3_; clear hb ho31; obtain ⟨Ao32, co32, eo32⟩ := Kd.R_slice HO226.out; subst eo32) | (go_at_call 11; (with_reducible refine (tabs_Good.calls k1 _ _ y224 true _ ?side1 ?side2 A16.out).mono ?_); (case side1 => repeat (first | exact (Kd.R_reads' HO226.out).2.2 | (with_reducible refine Kd.C_alloc ?_ _) | (with_reducible refine Kd.C_drewN ?_ _) | (with_reducible refine Kd.C_drew ?_))); (case side2 => exact (Kd.R_reads' HO226.out).2.1); rintro e w' ⟨rfl, ⟨nd, rfl⟩⟩) | (go_at_call 13; (with_reducible refine (tabs_Edges.calls 1 t228 _ A18.out).mono ?_); rintro e w33 ⟨v229, rfl, ho0, hb⟩; have n0_ := Aside0.mk (Kd.R_elder' (by (with_reducible repeat (first | apply Kd.R_alloc | apply Kd.R_drewN | apply Kd.R_drew)); exact HO218.out) (Kd.R_base ho0) hb); have n1_ := Aside0.mk (Kd.R_elder' (by (with_reducible repeat (first | apply Kd.R_alloc | apply Kd.R_drewN | apply Kd.R_drew)); exact HO222.out) (Kd.R_base ho0) hb); have n2_ := Aside0.mk (Kd.R_elder' (by (with_reducible repeat (first | apply Kd.R_alloc | apply Kd.R_drewN | apply Kd.R_drew)); exact HO226.out) (Kd.R_base ho0) hb); have n3_ := Aside0.mk (Kd.R_lower (Kd.R_new' (Kd.R_new' (Kd.R_new' ho0 (Kd.R_lt (by (with_reducible repeat (first | apply Kd.R_alloc | apply Kd.R_drewN | apply Kd.R_drew)); exact HO218.out))) (Kd.R_lt (by (with_reducible repeat (first | apply Kd.R_alloc | apply Kd.R_drewN | apply Kd.R_drew)); exact HO222.out))) (Kd.R_lt (by (with_reducible repeat (first | apply Kd.R_alloc | apply Kd.R_drewN | apply Kd.R_drew)); exact HO226.out))) (below_size (by repeat (first | (with_reducible first | exact HB.out | apply below_alloc | apply pw_below_drewN | apply below_drew1) | exact HB.out)))); have n4_ := Aside0.mk (below_step (by repeat (first | (with_reducible first | exact HB.out | apply below_alloc | apply pw_below_drewN | apply below_drew1) | exact HB.out)) hb); clear HO218; clear HO222; clear HO226; clear HB; have HO218 := n0_; have HO222 := n1_; have HO226 := n2_; have HO230 := n3_; have HB := n4_; clear n0_ n1_ n2_ n3_ n4_; (try clear hb); (try clear hb2); (try clear hk); (try clear hi); (try clear hge); (try clear ho0); obtain ⟨Ao34, co34, eo34⟩ := Kd.R_slice HO230.out; subst eo34) | (go_at_call 14; (with_reducible refine (tabs_Lsf.calls k1 11 0 t231 _ A20.out).mono ?_); rintro e w35 ⟨v232, rfl, ho0, hb⟩; have n0_ := Aside0.mk (Kd.R_below (by (with_reducible repeat (first | apply Kd.R_alloc | apply Kd.R_drewN | apply Kd.R_drew)); exact HO218.out) hb); have n1_ := Aside0.mk (Kd.R_below (by (with_reducible repeat (first | apply Kd.R_alloc | apply Kd.R_drewN | apply Kd.R_drew)); exact HO222.out) hb); have n2_ := Aside0.mk (Kd.R_below (by (with_reducible repeat (first | apply Kd.R_alloc | apply Kd.R_drewN | apply Kd.R_drew)); exact HO226.out) hb); have n3_ := Aside0.mk (Kd.R_below (by (with_reducible repeat (first | apply Kd.R_alloc | apply Kd.R_drewN | apply Kd.R_drew)); exact HO230.out) hb); have n4_ := Aside0.mk (Kd.R_lower ho0 (below_size (by repeat (first | (with_reducible first | exact HB.out | apply below_alloc | apply pw_below_drewN | apply below_drew1) | exact HB.out)))); have n5_ := Aside0.mk (below_step (by repeat (first | (with_reducible first | exact HB.out | apply below_alloc | apply pw_below_drewN | apply below_drew1) | exact HB.out)) hb); clear HO218; clear HO222; clear HO226; clear HO230; clear HB; have HO218 := n0_; have HO222 := n1_; have HO226 := n2_; have HO230 := n3_; have HO233 := n4_; have HB := n5_; clear n0_ n1_ n2_ n3_ n4_ n5_; (try clear hb); (try clear hb2); (try clear hk); (try clear hi); (try clear hge); (try clear ho0); obtain ⟨Ao36, co36, eo36⟩ := Kd.R_slice HO233.out; subst eo36) | (go_at_call 15; (with_reducible refine (tabs_Taps.calls 8 t234 t235 t236 t237 t238 _ A22.out).mono ?_); rintro e w37 ⟨rfl, hb⟩; have n0_ := Aside0.mk (Kd.R_below (by (with_reducible repeat (first | apply Kd.R_alloc | apply Kd.R_drewN | apply Kd.R_drew)); exact HO218.out) hb); have n1_ := Aside0.mk (Kd.R_below (by (with_reducible repeat (first | apply Kd.R_alloc | apply Kd.R_drewN | apply Kd.R_drew)); exact HO222.out) hb); have n2_ := Aside0.mk (Kd.R_below (by (with_reducible repeat (first | apply Kd.R_alloc | apply Kd.R_drewN | apply Kd.R_drew)); exact HO226.out) hb); have n3_ := Aside0.mk (Kd.R_below (by (with_reducible repeat (first | apply Kd.R_alloc | apply Kd.R_drewN | apply Kd.R_drew)); exact HO230.out) hb); have n4_ := Aside0.mk (Kd.R_below (by (with_reducible repeat (first | apply Kd.R_alloc | apply Kd.R_drewN | apply Kd.R_drew)); exact HO233.out) hb); have n5_ := Aside0.mk (below_step (by repeat (first | (with_reducible first | exact HB.out | apply below_alloc | apply pw_below_drewN | apply below_drew1) | exact HB.out)) hb); clear HO218; clear HO222; clear HO226; clear HO230; clear HO233; clear HB; have HO218 := n0_; have HO222 := n1_; have HO226 := n2_; have HO230 := n3_; have HO233 := n4_; have HB := n5_; clear n0_ n1_ n2_ n3_ n4_ n5_; (try clear hb); (try clear hb2); (try clear hk); (try clear hi); (try clear hge)) | (go_at_call 16; (with_reducible refine (tabs_Rate.calls 12000 t239 _ A24.out).mono ?_); rintro e w' ⟨rfl, ⟨nd, rfl⟩⟩))
                        go_ret
                        exact ⟨by first | rfl | (simp [errW_none, errW_some] <;> rfl) | (simp [*, errW_none, errW_some] <;> rfl), by repeat (first | (with_reducible first | exact HB.out | apply below_alloc | apply pw_below_drewN | apply below_drew1) | exact HB.out)⟩
                      · rw [if_neg c23] at H
                        exact absurd H (by simp)
                    · rw [if_neg c21] at H
                      exact absurd H (by simp)
                  · rw [if_neg c19] at H
                    exact absurd H (by simp)
                · replace c17 := Bool.eq_false_iff.mpr c17
                  subst c17
                  have H1 : (none) = some r := by rw [if_neg (show ¬ (false = true) by decide)] at H; exact H
                  clear H
                  have H := H1
                  clear H1
                  exact absurd H (by simp)
          · rw [if_neg c11] at H
            exact absurd H (by simp)
  · replace c2 := Bool.eq_false_iff.mpr c2
    subst c2
    have H1 : (none) = some r := by rw [if_neg (show ¬ (false = true) by decide)] at H; exact H
    clear H
    have H := H1
    clear H1
    exact absurd H (by simp)

/-- THE ONE PURE STATEMENT of madrigallaw2_TabsKnown. -/
def madrigallaw2_TabsKnown.Pure : Prop := ∃ k, madrigallaw2_TabsKnown.f k  = some true
theorem madrigallaw2_TabsKnown.walk (P : madrigallaw2_TabsKnown.Pure)  (w : World)  :
    Calls Try.prog 3 #[] w fun e w' => e = .returned (.bool true) ∧ Below w.heap.size w w' := by
  obtain ⟨k, h⟩ := P  
  refine (madrigallaw2_TabsKnown.calls k  true w h).mono ?_
  rintro e w' ⟨rfl, hd⟩
  exact ⟨rfl, hd⟩

end Go.Proofs.Ytkhcckemcamcbaa.P
