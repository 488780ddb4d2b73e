/- The machine side of the laws of one chapter, without conditions: each call of a Go function comes to what the Lean function of its name answers. Written for this claim by a program of the prover. -/
import Derived.Test.YtlhdoopmlpnhlaaPx0
import Derived.Test.YtlhdoopmlpnhlaaPx2
import Derived.Test.YtlhdoopmlpnhlaaPx7
import Derived.Test.YtlhdoopmlpnhlaaPx8
import Derived.Test.YtlhdoopmlpnhlaaPx9
import Derived.Test.YtlhdoopmlpnhlaaPx11
import Derived.Test.YtlhdoopmlpnhlaaPx12
import Derived.Test.YtlhdoopmlpnhlaaPx13
namespace Go.Proofs.Ytlhdoopmlpnhlaa.P
open Go.RowKit Go.Proofs.YtlhdoopmlpnhlaaW.PrintWords Go.Proofs.YtlhdoopmlpnhlaaW.PrintLast Go.Proofs.YtlhdoopmlpnhlaaW.PrintMore
attribute [local go_sem] max2_int min2_int max_two min_two max_three min_three max_four min_four   -- for this text's walks alone
set_option linter.unusedVariables false
set_option linter.unusedSimpArgs false

/-! ### madrigallaw1_FixRises: function 7 -/
def madrigallaw1_FixRises.f (k : Nat) (a0 : Int) (a1 : Int) (a2 : Int) (a3 : Int) : Option (Bool) := (madrigallaw1_awake.f k).bind fun t249 => (if t249 = true then (if a0 > a1 then (some true) else ((fix_Sqrt.f k a0).bind fun t250 => ((fix_Sqrt.f k a1).bind fun t251 => (if t250 ≤ t251 then ((fix_Log2.f k a0).bind fun t252 => ((fix_Log2.f k a1).bind fun t253 => (if t252 ≤ t253 then ((fix_Exp2.f k a0).bind fun t254 => ((fix_Exp2.f k a1).bind fun t255 => (if t254 ≤ t255 then ((fix_Sat16.f k a0).bind fun t256 => ((fix_Sat16.f k a1).bind fun t257 => (if t256 ≤ t257 then (if a2 < 0 then ((fix_Len.f k a0).bind fun t258 => ((fix_Len.f k a1).bind fun t259 => (some (decide (t258 ≤ t259))))) else (if a3 < 0 then ((fix_Len.f k a0).bind fun t260 => ((fix_Len.f k a1).bind fun t261 => (some (decide (t260 ≤ t261))))) else (if a3 > 62 then ((fix_Len.f k a0).bind fun t262 => ((fix_Len.f k a1).bind fun t263 => (some (decide (t262 ≤ t263))))) else ((fix_Mul.f k a0 a2 a3).bind fun t264 => ((fix_Mul.f k a1 a2 a3).bind fun t265 => (if t264 ≤ t265 then ((fix_Len.f k a0).bind fun t266 => ((fix_Len.f k a1).bind fun t267 => (some (decide (t266 ≤ t267))))) else (none))))))) else (none)))) else (none)))) else (none)))) else (none))))) else (none))
theorem madrigallaw1_FixRises.mono : ∀ a0 a1 a2 a3 k, LeO (madrigallaw1_FixRises.f k a0 a1 a2 a3) (madrigallaw1_FixRises.f (k + 1) a0 a1 a2 a3) := by
  intro a0 a1 a2 a3 k
  unfold madrigallaw1_FixRises.f
  repeat' first
      | (with_reducible exact fix_Exp2.mono _ _)
      | (with_reducible exact fix_Len.mono _ _)
      | (with_reducible exact fix_Log2.mono _ _)
      | (with_reducible exact fix_Mul.mono _ _ _ _)
      | (with_reducible exact fix_Sat16.mono _ _)
      | (with_reducible exact fix_Sqrt.mono _ _)
      | (with_reducible exact madrigallaw1_awake.mono _)
      | (with_reducible exact LeO.refl _)
      | (with_reducible exact LeO.none _)
      | (with_reducible refine LeO.ite ?_ ?_)
      | (with_reducible refine LeO.bind ?_ (fun _ => ?_))
      | exact fix_Exp2.mono _ _
      | exact fix_Len.mono _ _
      | exact fix_Log2.mono _ _
      | exact fix_Mul.mono _ _ _ _
      | exact fix_Sat16.mono _ _
      | exact fix_Sqrt.mono _ _
      | exact madrigallaw1_awake.mono _
      | exact LeO.none _
      | refine LeO.ite ?_ ?_
      | refine LeO.bind ?_ (fun _ => ?_)
set_option maxHeartbeats 8000000 in
set_option maxRecDepth 100000 in
theorem madrigallaw1_FixRises.calls (k : Nat) (a0 : Int) (a1 : Int) (a2 : Int) (a3 : Int) (r : Bool) (w : World) (h : madrigallaw1_FixRises.f k a0 a1 a2 a3 = some r) :
    Calls Try.prog 7 #[.int .i64 a0, .int .i64 a1, .int .i64 a2, .int .i64 a3] w fun e w' => e = .returned (.bool r) ∧ Below w.heap.size w w' := by
  have HB := Aside0.mk (Below.refl w.heap.size w)
  have H : ((madrigallaw1_awake.f k).bind fun t249 => (if t249 = true then (if a0 > a1 then (some true) else ((fix_Sqrt.f k a0).bind fun t250 => ((fix_Sqrt.f k a1).bind fun t251 => (if t250 ≤ t251 then ((fix_Log2.f k a0).bind fun t252 => ((fix_Log2.f k a1).bind fun t253 => (if t252 ≤ t253 then ((fix_Exp2.f k a0).bind fun t254 => ((fix_Exp2.f k a1).bind fun t255 => (if t254 ≤ t255 then ((fix_Sat16.f k a0).bind fun t256 => ((fix_Sat16.f k a1).bind fun t257 => (if t256 ≤ t257 then (if a2 < 0 then ((fix_Len.f k a0).bind fun t258 => ((fix_Len.f k a1).bind fun t259 => (some (decide (t258 ≤ t259))))) else (if a3 < 0 then ((fix_Len.f k a0).bind fun t260 => ((fix_Len.f k a1).bind fun t261 => (some (decide (t260 ≤ t261))))) else (if a3 > 62 then ((fix_Len.f k a0).bind fun t262 => ((fix_Len.f k a1).bind fun t263 => (some (decide (t262 ≤ t263))))) else ((fix_Mul.f k a0 a2 a3).bind fun t264 => ((fix_Mul.f k a1 a2 a3).bind fun t265 => (if t264 ≤ t265 then ((fix_Len.f k a0).bind fun t266 => ((fix_Len.f k a1).bind fun t267 => (some (decide (t266 ≤ t267))))) else (none))))))) else (none)))) else (none)))) else (none)))) else (none))))) else (none))) = some r := h
  clear h
  replace H := Option.bind_eq_some_iff.mp H
  obtain ⟨t249, A50, H⟩ := H
  replace H : (if t249 = true then (if a0 > a1 then (some true) else ((fix_Sqrt.f k a0).bind fun t250 => ((fix_Sqrt.f k a1).bind fun t251 => (if t250 ≤ t251 then ((fix_Log2.f k a0).bind fun t252 => ((fix_Log2.f k a1).bind fun t253 => (if t252 ≤ t253 then ((fix_Exp2.f k a0).bind fun t254 => ((fix_Exp2.f k a1).bind fun t255 => (if t254 ≤ t255 then ((fix_Sat16.f k a0).bind fun t256 => ((fix_Sat16.f k a1).bind fun t257 => (if t256 ≤ t257 then (if a2 < 0 then ((fix_Len.f k a0).bind fun t258 => ((fix_Len.f k a1).bind fun t259 => (some (decide (t258 ≤ t259))))) else (if a3 < 0 then ((fix_Len.f k a0).bind fun t260 => ((fix_Len.f k a1).bind fun t261 => (some (decide (t260 ≤ t261))))) else (if a3 > 62 then ((fix_Len.f k a0).bind fun t262 => ((fix_Len.f k a1).bind fun t263 => (some (decide (t262 ≤ t263))))) else ((fix_Mul.f k a0 a2 a3).bind fun t264 => ((fix_Mul.f k a1 a2 a3).bind fun t265 => (if t264 ≤ t265 then ((fix_Len.f k a0).bind fun t266 => ((fix_Len.f k a1).bind fun t267 => (some (decide (t266 ≤ t267))))) else (none))))))) else (none)))) else (none)))) else (none)))) else (none))))) else (none)) = some r := H
  have A5 := Aside0.mk A50
  clear A50
  by_cases c6 : t249 = true
  · subst c6
    have H1 : (if a0 > a1 then (some true) else ((fix_Sqrt.f k a0).bind fun t250 => ((fix_Sqrt.f k a1).bind fun t251 => (if t250 ≤ t251 then ((fix_Log2.f k a0).bind fun t252 => ((fix_Log2.f k a1).bind fun t253 => (if t252 ≤ t253 then ((fix_Exp2.f k a0).bind fun t254 => ((fix_Exp2.f k a1).bind fun t255 => (if t254 ≤ t255 then ((fix_Sat16.f k a0).bind fun t256 => ((fix_Sat16.f k a1).bind fun t257 => (if t256 ≤ t257 then (if a2 < 0 then ((fix_Len.f k a0).bind fun t258 => ((fix_Len.f k a1).bind fun t259 => (some (decide (t258 ≤ t259))))) else (if a3 < 0 then ((fix_Len.f k a0).bind fun t260 => ((fix_Len.f k a1).bind fun t261 => (some (decide (t260 ≤ t261))))) else (if a3 > 62 then ((fix_Len.f k a0).bind fun t262 => ((fix_Len.f k a1).bind fun t263 => (some (decide (t262 ≤ t263))))) else ((fix_Mul.f k a0 a2 a3).bind fun t264 => ((fix_Mul.f k a1 a2 a3).bind fun t265 => (if t264 ≤ t265 then ((fix_Len.f k a0).bind fun t266 => ((fix_Len.f k a1).bind fun t267 => (some (decide (t266 ≤ t267))))) else (none))))))) else (none)))) else (none)))) else (none)))) else (none))))) = some r := by rw [if_pos rfl] at H; exact H
    clear H
    have H := H1
    clear H1
    by_cases c7 : a0 > a1
    · rw [if_pos c7] at H
      have c7b0 : decide (a1 < a0) = true := decide_eq_true c7
      clear c7
      obtain rfl := Option.some.inj H
      go_enter Try.func7, Try.ntmps7
      go_wp2_with (first | ((with_reducible refine gate_callee (f := 11) rfl ?_); refine goesL_ (some 9) rfl rfl Try.func11 (by kernel_rfl) rfl #[] rfl (by (try simp only [List.map_toArray, List.map_cons, List.map_nil]); first | done | rfl | (simp only [List.length_drop, List.length_take]; rfl)) ?_; (with_reducible refine (madrigallaw1_awake.calls k  true _ A5.out).mono ?_); rintro e w8 ⟨rfl, hb⟩; refine ⟨_, rfl, ?_⟩; have n0_ := Aside0.mk (below_step (by repeat (first | (with_reducible first | exact HB.out | apply below_alloc | apply pw_below_drewN | apply below_drew1) | exact HB.out)) hb); clear HB; have HB := n0_; clear n0_; (try clear hb); (try clear hb2); (try clear hk); (try clear hi); (try clear hge)))
      go_ret
      exact ⟨by first | rfl | (simp [errW_none, errW_some] <;> rfl) | (simp [*, errW_none, errW_some] <;> rfl), by repeat (first | (with_reducible first | exact HB.out | apply below_alloc | apply pw_below_drewN | apply below_drew1) | exact HB.out)⟩
    · rw [if_neg c7] at H
      have c7b0 : decide (a1 < a0) = false := decide_eq_false c7
      clear c7
      replace H := Option.bind_eq_some_iff.mp H
      obtain ⟨t250, A90, H⟩ := H
      replace H : ((fix_Sqrt.f k a1).bind fun t251 => (if t250 ≤ t251 then ((fix_Log2.f k a0).bind fun t252 => ((fix_Log2.f k a1).bind fun t253 => (if t252 ≤ t253 then ((fix_Exp2.f k a0).bind fun t254 => ((fix_Exp2.f k a1).bind fun t255 => (if t254 ≤ t255 then ((fix_Sat16.f k a0).bind fun t256 => ((fix_Sat16.f k a1).bind fun t257 => (if t256 ≤ t257 then (if a2 < 0 then ((fix_Len.f k a0).bind fun t258 => ((fix_Len.f k a1).bind fun t259 => (some (decide (t258 ≤ t259))))) else (if a3 < 0 then ((fix_Len.f k a0).bind fun t260 => ((fix_Len.f k a1).bind fun t261 => (some (decide (t260 ≤ t261))))) else (if a3 > 62 then ((fix_Len.f k a0).bind fun t262 => ((fix_Len.f k a1).bind fun t263 => (some (decide (t262 ≤ t263))))) else ((fix_Mul.f k a0 a2 a3).bind fun t264 => ((fix_Mul.f k a1 a2 a3).bind fun t265 => (if t264 ≤ t265 then ((fix_Len.f k a0).bind fun t266 => ((fix_Len.f k a1).bind fun t267 => (some (decide (t266 ≤ t267))))) else (none))))))) else (none)))) else (none)))) else (none)))) else (none))) = some r := H
      have A9 := Aside0.mk A90
      clear A90
      replace H := Option.bind_eq_some_iff.mp H
      obtain ⟨t251, A100, H⟩ := H
      replace H : (if t250 ≤ t251 then ((fix_Log2.f k a0).bind fun t252 => ((fix_Log2.f k a1).bind fun t253 => (if t252 ≤ t253 then ((fix_Exp2.f k a0).bind fun t254 => ((fix_Exp2.f k a1).bind fun t255 => (if t254 ≤ t255 then ((fix_Sat16.f k a0).bind fun t256 => ((fix_Sat16.f k a1).bind fun t257 => (if t256 ≤ t257 then (if a2 < 0 then ((fix_Len.f k a0).bind fun t258 => ((fix_Len.f k a1).bind fun t259 => (some (decide (t258 ≤ t259))))) else (if a3 < 0 then ((fix_Len.f k a0).bind fun t260 => ((fix_Len.f k a1).bind fun t261 => (some (decide (t260 ≤ t261))))) else (if a3 > 62 then ((fix_Len.f k a0).bind fun t262 => ((fix_Len.f k a1).bind fun t263 => (some (decide (t262 ≤ t263))))) else ((fix_Mul.f k a0 a2 a3).bind fun t264 => ((fix_Mul.f k a1 a2 a3).bind fun t265 => (if t264 ≤ t265 then ((fix_Len.f k a0).bind fun t266 => ((fix_Len.f k a1).bind fun t267 => (some (decide (t266 ≤ t267))))) else (none))))))) else (none)))) else (none)))) else (none)))) else (none)) = some r := H
      have A10 := Aside0.mk A100
      clear A100
      by_cases c11 : t250 ≤ t251
      · rw [if_pos c11] at H
        have c11b0 : decide (t250 ≤ t251) = true := decide_eq_true c11
        clear c11
        replace H := Option.bind_eq_some_iff.mp H
        obtain ⟨t252, A120, H⟩ := H
        replace H : ((fix_Log2.f k a1).bind fun t253 => (if t252 ≤ t253 then ((fix_Exp2.f k a0).bind fun t254 => ((fix_Exp2.f k a1).bind fun t255 => (if t254 ≤ t255 then ((fix_Sat16.f k a0).bind fun t256 => ((fix_Sat16.f k a1).bind fun t257 => (if t256 ≤ t257 then (if a2 < 0 then ((fix_Len.f k a0).bind fun t258 => ((fix_Len.f k a1).bind fun t259 => (some (decide (t258 ≤ t259))))) else (if a3 < 0 then ((fix_Len.f k a0).bind fun t260 => ((fix_Len.f k a1).bind fun t261 => (some (decide (t260 ≤ t261))))) else (if a3 > 62 then ((fix_Len.f k a0).bind fun t262 => ((fix_Len.f k a1).bind fun t263 => (some (decide (t262 ≤ t263))))) else ((fix_Mul.f k a0 a2 a3).bind fun t264 => ((fix_Mul.f k a1 a2 a3).bind fun t265 => (if t264 ≤ t265 then ((fix_Len.f k a0).bind fun t266 => ((fix_Len.f k a1).bind fun t267 => (some (decide (t266 ≤ t267))))) else (none))))))) else (none)))) else (none)))) else (none))) = some r := H
        have A12 := Aside0.mk A120
        clear A120
        replace H := Option.bind_eq_some_iff.mp H
        obtain ⟨t253, A130, H⟩ := H
        replace H : (if t252 ≤ t253 then ((fix_Exp2.f k a0).bind fun t254 => ((fix_Exp2.f k a1).bind fun t255 => (if t254 ≤ t255 then ((fix_Sat16.f k a0).bind fun t256 => ((fix_Sat16.f k a1).bind fun t257 => (if t256 ≤ t257 then (if a2 < 0 then ((fix_Len.f k a0).bind fun t258 => ((fix_Len.f k a1).bind fun t259 => (some (decide (t258 ≤ t259))))) else (if a3 < 0 then ((fix_Len.f k a0).bind fun t260 => ((fix_Len.f k a1).bind fun t261 => (some (decide (t260 ≤ t261))))) else (if a3 > 62 then ((fix_Len.f k a0).bind fun t262 => ((fix_Len.f k a1).bind fun t263 => (some (decide (t262 ≤ t263))))) else ((fix_Mul.f k a0 a2 a3).bind fun t264 => ((fix_Mul.f k a1 a2 a3).bind fun t265 => (if t264 ≤ t265 then ((fix_Len.f k a0).bind fun t266 => ((fix_Len.f k a1).bind fun t267 => (some (decide (t266 ≤ t267))))) else (none))))))) else (none)))) else (none)))) else (none)) = some r := H
        have A13 := Aside0.mk A130
        clear A130
        by_cases c14 : t252 ≤ t253
        · rw [if_pos c14] at H
          have c14b0 : decide (t252 ≤ t253) = true := decide_eq_true c14
          clear c14
          replace H := Option.bind_eq_some_iff.mp H
          obtain ⟨t254, A150, H⟩ := H
          replace H : ((fix_Exp2.f k a1).bind fun t255 => (if t254 ≤ t255 then ((fix_Sat16.f k a0).bind fun t256 => ((fix_Sat16.f k a1).bind fun t257 => (if t256 ≤ t257 then (if a2 < 0 then ((fix_Len.f k a0).bind fun t258 => ((fix_Len.f k a1).bind fun t259 => (some (decide (t258 ≤ t259))))) else (if a3 < 0 then ((fix_Len.f k a0).bind fun t260 => ((fix_Len.f k a1).bind fun t261 => (some (decide (t260 ≤ t261))))) else (if a3 > 62 then ((fix_Len.f k a0).bind fun t262 => ((fix_Len.f k a1).bind fun t263 => (some (decide (t262 ≤ t263))))) else ((fix_Mul.f k a0 a2 a3).bind fun t264 => ((fix_Mul.f k a1 a2 a3).bind fun t265 => (if t264 ≤ t265 then ((fix_Len.f k a0).bind fun t266 => ((fix_Len.f k a1).bind fun t267 => (some (decide (t266 ≤ t267))))) else (none))))))) else (none)))) else (none))) = some r := H
          have A15 := Aside0.mk A150
          clear A150
          replace H := Option.bind_eq_some_iff.mp H
          obtain ⟨t255, A160, H⟩ := H
          replace H : (if t254 ≤ t255 then ((fix_Sat16.f k a0).bind fun t256 => ((fix_Sat16.f k a1).bind fun t257 => (if t256 ≤ t257 then (if a2 < 0 then ((fix_Len.f k a0).bind fun t258 => ((fix_Len.f k a1).bind fun t259 => (some (decide (t258 ≤ t259))))) else (if a3 < 0 then ((fix_Len.f k a0).bind fun t260 => ((fix_Len.f k a1).bind fun t261 => (some (decide (t260 ≤ t261))))) else (if a3 > 62 then ((fix_Len.f k a0).bind fun t262 => ((fix_Len.f k a1).bind fun t263 => (some (decide (t262 ≤ t263))))) else ((fix_Mul.f k a0 a2 a3).bind fun t264 => ((fix_Mul.f k a1 a2 a3).bind fun t265 => (if t264 ≤ t265 then ((fix_Len.f k a0).bind fun t266 => ((fix_Len.f k a1).bind fun t267 => (some (decide (t266 ≤ t267))))) else (none))))))) else (none)))) else (none)) = some r := H
          have A16 := Aside0.mk A160
          clear A160
          by_cases c17 : t254 ≤ t255
          · rw [if_pos c17] at H
            have c17b0 : decide (t254 ≤ t255) = true := decide_eq_true c17
            clear c17
            replace H := Option.bind_eq_some_iff.mp H
            obtain ⟨t256, A180, H⟩ := H
            replace H : ((fix_Sat16.f k a1).bind fun t257 => (if t256 ≤ t257 then (if a2 < 0 then ((fix_Len.f k a0).bind fun t258 => ((fix_Len.f k a1).bind fun t259 => (some (decide (t258 ≤ t259))))) else (if a3 < 0 then ((fix_Len.f k a0).bind fun t260 => ((fix_Len.f k a1).bind fun t261 => (some (decide (t260 ≤ t261))))) else (if a3 > 62 then ((fix_Len.f k a0).bind fun t262 => ((fix_Len.f k a1).bind fun t263 => (some (decide (t262 ≤ t263))))) else ((fix_Mul.f k a0 a2 a3).bind fun t264 => ((fix_Mul.f k a1 a2 a3).bind fun t265 => (if t264 ≤ t265 then ((fix_Len.f k a0).bind fun t266 => ((fix_Len.f k a1).bind fun t267 => (some (decide (t266 ≤ t267))))) else (none))))))) else (none))) = some r := H
            have A18 := Aside0.mk A180
            clear A180
            replace H := Option.bind_eq_some_iff.mp H
            obtain ⟨t257, A190, H⟩ := H
            replace H : (if t256 ≤ t257 then (if a2 < 0 then ((fix_Len.f k a0).bind fun t258 => ((fix_Len.f k a1).bind fun t259 => (some (decide (t258 ≤ t259))))) else (if a3 < 0 then ((fix_Len.f k a0).bind fun t260 => ((fix_Len.f k a1).bind fun t261 => (some (decide (t260 ≤ t261))))) else (if a3 > 62 then ((fix_Len.f k a0).bind fun t262 => ((fix_Len.f k a1).bind fun t263 => (some (decide (t262 ≤ t263))))) else ((fix_Mul.f k a0 a2 a3).bind fun t264 => ((fix_Mul.f k a1 a2 a3).bind fun t265 => (if t264 ≤ t265 then ((fix_Len.f k a0).bind fun t266 => ((fix_Len.f k a1).bind fun t267 => (some (decide (t266 ≤ t267))))) else (none))))))) else (none)) = some r := H
            have A19 := Aside0.mk A190
            clear A190
            by_cases c20 : t256 ≤ t257
            · rw [if_pos c20] at H
              have c20b0 : decide (t256 ≤ t257) = true := decide_eq_true c20
              clear c20
              by_cases c21 : a2 < 0
              · rw [if_pos c21] at H
                have c21b0 : decide (a2 < 0) = true := decide_eq_true c21
                clear c21
                replace H := Option.bind_eq_some_iff.mp H
                obtain ⟨t258, A220, H⟩ := H
                replace H : ((fix_Len.f k a1).bind fun t259 => (some (decide (t258 ≤ t259)))) = some r := H
                have A22 := Aside0.mk A220
                clear A220
                replace H := Option.bind_eq_some_iff.mp H
                obtain ⟨t259, A230, H⟩ := H
                replace H : (some (decide (t258 ≤ t259))) = some r := H
                have A23 := Aside0.mk A230
                clear A230
                obtain rfl := Option.some.inj H
                go_enter Try.func7, Try.ntmps7
                go_wp2_with (first | ((with_reducible refine gate_callee (f := 11) rfl ?_); refine goesL_ (some 9) rfl rfl Try.func11 (by kernel_rfl) rfl #[] rfl (by (try simp only [List.map_toArray, List.map_cons, List.map_nil]); first | done | rfl | (simp only [List.length_drop, List.length_take]; rfl)) ?_; (with_reducible refine (madrigallaw1_awake.calls k  true _ A5.out).mono ?_); rintro e w24 ⟨rfl, hb⟩; refine ⟨_, rfl, ?_⟩; have n0_ := Aside0.mk (below_step (by repeat (first | (with_reducible first | exact HB.out | apply below_alloc | apply pw_below_drewN | apply below_drew1) | exact HB.out)) hb); clear HB; have HB := n0_; clear n0_; (try clear hb); (try clear hb2); (try clear hk); (try clear hi); (try clear hge)) | ((with_reducible refine gate_callee (f := 16) rfl ?_); refine goesL_ (some 15) rfl rfl Try.func16 (by kernel_rfl) rfl #[.int .i64 a0] rfl (by (try simp only [List.map_toArray, List.map_cons, List.map_nil]); first | done | rfl | (simp only [List.length_drop, List.length_take]; rfl)) ?_; (with_reducible refine (fix_Sqrt.calls k a0 t250 _ A9.out).mono ?_); rintro e w' ⟨rfl, ⟨nd, rfl⟩⟩; refine ⟨_, rfl, ?_⟩) | ((with_reducible refine gate_callee (f := 16) rfl ?_); refine goesL_ (some 17) rfl rfl Try.func16 (by kernel_rfl) rfl #[.int .i64 a1] rfl (by (try simp only [List.map_toArray, List.map_cons, List.map_nil]); first | done | rfl | (simp only [List.length_drop, List.length_take]; rfl)) ?_; (with_reducible refine (fix_Sqrt.calls k a1 t251 _ A10.out).mono ?_); rintro e w' ⟨rfl, ⟨nd, rfl⟩⟩; refine ⟨_, rfl, ?_⟩) | (go_at_call 15; (with_reducible refine (fix_Log2.calls k a0 t252 _ A12.out).mono ?_); rintro e w' ⟨rfl, ⟨nd, rfl⟩⟩) | (go_at_call 15; (with_reducible refine (fix_Log2.calls k a1 t253 _ A13.out).mono ?_); rintro e w' ⟨rfl, ⟨nd, rfl⟩⟩) | (go_at_call 19; (with_reducible refine (fix_Exp2.calls k a0 t254 _ A15.out).mono ?_); rintro e w' ⟨rfl, ⟨nd, rfl⟩⟩) | (go_at_call 19; (with_reducible refine (fix_Exp2.calls k a1 t255 _ A16.out).mono ?_); rintro e w' ⟨rfl, ⟨nd, rfl⟩⟩) | (go_at_call 22; (with_reducible refine (fix_Sat16.calls k a0 t256 _ A18.out).mono ?_); rintro e w' ⟨rfl, ⟨nd, rfl⟩⟩) | (go_at_call 22; (with_reducible refine (fix_Sat16.calls k a1 t257 _ A19.out).mono ?_); rintro e w' ⟨rfl, ⟨nd, rfl⟩⟩) | (go_at_call 17; (with_reducible refine (fix_Len.calls k a0 t258 _ A22.out).mono ?_); rintro e w' ⟨rfl, ⟨nd, rfl⟩⟩) | (go_at_call 17; (with_reducible refine (fix_Len.calls k a1 t259 _ A23.out).mono ?_); rintro e w' ⟨rfl, ⟨nd, rfl⟩⟩))
                go_ret
                exact ⟨by first | rfl | (simp [errW_none, errW_some] <;> rfl) | (simp [*, errW_none, errW_some] <;> rfl), by repeat (first | (with_reducible first | exact HB.out | apply below_alloc | apply pw_below_drewN | apply below_drew1) | exact HB.out)⟩
              · rw [if_neg c21] at H
                have c21b0 : decide (a2 < 0) = false := decide_eq_false c21
                clear c21
                by_cases c25 : a3 < 0
                · rw [if_pos c25] at H
                  have c25b0 : decide (a3 < 0) = true := decide_eq_true c25
                  clear c25
                  replace H := Option.bind_eq_some_iff.mp H
                  obtain ⟨t260, A260, H⟩ := H
                  replace H : ((fix_Len.f k a1).bind fun t261 => (some (decide (t260 ≤ t261)))) = some r := H
                  have A26 := Aside0.mk A260
                  clear A260
                  replace H := Option.bind_eq_some_iff.mp H
                  obtain ⟨t261, A270, H⟩ := H
                  replace H : (some (decide (t260 ≤ t261))) = some r := H
                  have A27 := Aside0.mk A270
                  clear A270
                  obtain rfl := Option.some.inj H
                  go_enter Try.func7, Try.ntmps7
                  go_wp2_with (first | ((with_reducible refine gate_callee (f := 11) rfl ?_); refine goesL_ (some 9) rfl rfl Try.func11 (by kernel_rfl) rfl #[] rfl (by (try simp only [List.map_toArray, List.map_cons, List.map_nil]); first | done | rfl | (simp only [List.length_drop, List.length_take]; rfl)) ?_; (with_reducible refine (madrigallaw1_awake.calls k  true _ A5.out).mono ?_); rintro e w28 ⟨rfl, hb⟩; refine ⟨_, rfl, ?_⟩; have n0_ := Aside0.mk (below_step (by repeat (first | (with_reducible first | exact HB.out | apply below_alloc | apply pw_below_drewN | apply below_drew1) | exact HB.out)) hb); clear HB; have HB := n0_; clear n0_; (try clear hb); (try clear hb2); (try clear hk); (try clear hi); (try clear hge)) | ((with_reducible refine gate_callee (f := 16) rfl ?_); refine goesL_ (some 15) rfl rfl Try.func16 (by kernel_rfl) rfl #[.int .i64 a0] rfl (by (try simp only [List.map_toArray, List.map_cons, List.map_nil]); first | done | rfl | (simp only [List.length_drop, List.length_take]; rfl)) ?_; (with_reducible refine (fix_Sqrt.calls k a0 t250 _ A9.out).mono ?_); rintro e w' ⟨rfl, ⟨nd, rfl⟩⟩; refine ⟨_, rfl, ?_⟩) | ((with_reducible refine gate_callee (f := 16) rfl ?_); refine goesL_ (some 17) rfl rfl Try.func16 (by kernel_rfl) rfl #[.int .i64 a1] rfl (by (try simp only [List.map_toArray, List.map_cons, List.map_nil]); first | done | rfl | (simp only [List.length_drop, List.length_take]; rfl)) ?_; (with_reducible refine (fix_Sqrt.calls k a1 t251 _ A10.out).mono ?_); rintro e w' ⟨rfl, ⟨nd, rfl⟩⟩; refine ⟨_, rfl, ?_⟩) | (go_at_call 15; (with_reducible refine (fix_Log2.calls k a0 t252 _ A12.out).mono ?_); rintro e w' ⟨rfl, ⟨nd, rfl⟩⟩) | (go_at_call 15; (with_reducible refine (fix_Log2.calls k a1 t253 _ A13.out).mono ?_); rintro e w' ⟨rfl, ⟨nd, rfl⟩⟩) | (go_at_call 19; (with_reducible refine (fix_Exp2.calls k a0 t254 _ A15.out).mono ?_); rintro e w' ⟨rfl, ⟨nd, rfl⟩⟩) | (go_at_call 19; (with_reducible refine (fix_Exp2.calls k a1 t255 _ A16.out).mono ?_); rintro e w' ⟨rfl, ⟨nd, rfl⟩⟩) | (go_at_call 22; (with_reducible refine (fix_Sat16.calls k a0 t256 _ A18.out).mono ?_); rintro e w' ⟨rfl, ⟨nd, rfl⟩⟩) | (go_at_call 22; (with_reducible refine (fix_Sat16.calls k a1 t257 _ A19.out).mono ?_); rintro e w' ⟨rfl, ⟨nd, rfl⟩⟩) | (go_at_call 17; (with_reducible refine (fix_Len.calls k a0 t260 _ A26.out).mono ?_); rintro e w' ⟨rfl, ⟨nd, rfl⟩⟩) | (go_at_call 17; (with_reducible refine (fix_Len.calls k a1 t261 _ A27.out).mono ?_); rintro e w' ⟨rfl, ⟨nd, rfl⟩⟩))
                  go_ret
                  exact ⟨by first | rfl | (simp [errW_none, errW_some] <;> rfl) | (simp [*, errW_none, errW_some] <;> rfl), by repeat (first | (with_reducible first | exact HB.out | apply below_alloc | apply pw_below_drewN | apply below_drew1) | exact HB.out)⟩
                · rw [if_neg c25] at H
                  have c25b0 : decide (a3 < 0) = false := decide_eq_false c25
                  clear c25
                  by_cases c29 : a3 > 62
                  · rw [if_pos c29] at H
                    have c29b0 : decide (62 < a3) = true := decide_eq_true c29
                    clear c29
                    replace H := Option.bind_eq_some_iff.mp H
                    obtain ⟨t262, A300, H⟩ := H
                    replace H : ((fix_Len.f k a1).bind fun t263 => (some (decide (t262 ≤ t263)))) = some r := H
                    have A30 := Aside0.mk A300
                    clear A300
                    replace H := Option.bind_eq_some_iff.mp H
                    obtain ⟨t263, A310, H⟩ := H
                    replace H : (some (decide (t262 ≤ t263))) = some r := H
                    have A31 := Aside0.mk A310
                    clear A310
                    obtain rfl := Option.some.inj H
                    go_enter Try.func7, Try.ntmps7
                    go_wp2_with (first | ((with_reducible refine gate_callee (f := 11) rfl ?_); refine goesL_ (some 9) rfl rfl Try.func11 (by kernel_rfl) rfl #[] rfl (by (try simp only [List.map_toArray, List.map_cons, List.map_nil]); first | done | rfl | (simp only [List.length_drop, List.length_take]; rfl)) ?_; (with_reducible refine (madrigallaw1_awake.calls k  true _ A5.out).mono ?_); rintro e w32 ⟨rfl, hb⟩; refine ⟨_, rfl, ?_⟩; have n0_ := Aside0.mk (below_step (by repeat (first | (with_reducible first | exact HB.out | apply below_alloc | apply pw_below_drewN | apply below_drew1) | exact HB.out)) hb); clear HB; have HB := n0_; clear n0_; (try clear hb); (try clear hb2); (try clear hk); (try clear hi); (try clear hge)) | ((with_reducible refine gate_callee (f := 16) rfl ?_); refine goesL_ (some 15) rfl rfl Try.func16 (by kernel_rfl) rfl #[.int .i64 a0] rfl (by (try simp only [List.map_toArray, List.map_cons, List.map_nil]); first | done | rfl | (simp only [List.length_drop, List.length_take]; rfl)) ?_; (with_reducible refine (fix_Sqrt.calls k a0 t250 _ A9.out).mono ?_); rintro e w' ⟨rfl, ⟨nd, rfl⟩⟩; refine ⟨_, rfl, ?_⟩) | ((with_reducible refine gate_callee (f := 16) rfl ?_); refine goesL_ (some 17) rfl rfl Try.func16 (by kernel_rfl) rfl #[.int .i64 a1] rfl (by (try simp only [List.map_toArray, List.map_cons, List.map_nil]); first | done | rfl | (simp only [List.length_drop, List.length_take]; rfl)) ?_; (with_reducible refine (fix_Sqrt.calls k a1 t251 _ A10.out).mono ?_); rintro e w' ⟨rfl, ⟨nd, rfl⟩⟩; refine ⟨_, rfl, ?_⟩) | (go_at_call 15; (with_reducible refine (fix_Log2.calls k a0 t252 _ A12.out).mono ?_); rintro e w' ⟨rfl, ⟨nd, rfl⟩⟩) | (go_at_call 15; (with_reducible refine (fix_Log2.calls k a1 t253 _ A13.out).mono ?_); rintro e w' ⟨rfl, ⟨nd, rfl⟩⟩) | (go_at_call 19; (with_reducible refine (fix_Exp2.calls k a0 t254 _ A15.out).mono ?_); rintro e w' ⟨rfl, ⟨nd, rfl⟩⟩) | (go_at_call 19; (with_reducible refine (fix_Exp2.calls k a1 t255 _ A16.out).mono ?_); rintro e w' ⟨rfl, ⟨nd, rfl⟩⟩) | (go_at_call 22; (with_reducible refine (fix_Sat16.calls k a0 t256 _ A18.out).mono ?_); rintro e w' ⟨rfl, ⟨nd, rfl⟩⟩) | (go_at_call 22; (with_reducible refine (fix_Sat16.calls k a1 t257 _ A19.out).mono ?_); rintro e w' ⟨rfl, ⟨nd, rfl⟩⟩) | (go_at_call 17; (with_reducible refine (fix_Len.calls k a0 t262 _ A30.out).mono ?_); rintro e w' ⟨rfl, ⟨nd, rfl⟩⟩) | (go_at_call 17; (with_reducible refine (fix_Len.calls k a1 t263 _ A31.out).mono ?_); rintro e w' ⟨rfl, ⟨nd, rfl⟩⟩))
                    go_ret
                    exact ⟨by first | rfl | (simp [errW_none, errW_some] <;> rfl) | (simp [*, errW_none, errW_some] <;> rfl), by repeat (first | (with_reducible first | exact HB.out | apply below_alloc | apply pw_below_drewN | apply below_drew1) | exact HB.out)⟩
                  · rw [if_neg c29] at H
                    have c29b0 : decide (62 < a3) = false := decide_eq_false c29
                    clear c29
                    replace H := Option.bind_eq_some_iff.mp H
                    obtain ⟨t264, A330, H⟩ := H
                    replace H : ((fix_Mul.f k a1 a2 a3).bind fun t265 => (if t264 ≤ t265 then ((fix_Len.f k a0).bind fun t266 => ((fix_Len.f k a1).bind fun t267 => (some (decide (t266 ≤ t267))))) else (none))) = some r := H
                    have A33 := Aside0.mk A330
                    clear A330
                    replace H := Option.bind_eq_some_iff.mp H
                    obtain ⟨t265, A340, H⟩ := H
                    replace H : (if t264 ≤ t265 then ((fix_Len.f k a0).bind fun t266 => ((fix_Len.f k a1).bind fun t267 => (some (decide (t266 ≤ t267))))) else (none)) = some r := H
                    have A34 := Aside0.mk A340
                    clear A340
                    by_cases c35 : t264 ≤ t265
                    · rw [if_pos c35] at H
                      have c35b0 : decide (t264 ≤ t265) = true := decide_eq_true c35
                      clear c35
                      replace H := Option.bind_eq_some_iff.mp H
                      obtain ⟨t266, A360, H⟩ := H
                      replace H : ((fix_Len.f k a1).bind fun t267 => (some (decide (t266 ≤ t267)))) = some r := H
                      have A36 := Aside0.mk A360
                      clear A360
                      replace H := Option.bind_eq_some_iff.mp H
                      obtain ⟨t267, A370, H⟩ := H
                      replace H : (some (decide (t266 ≤ t267))) = some r := H
                      have A37 := Aside0.mk A370
                      clear A370
                      obtain rfl := Option.some.inj H
                      go_enter Try.func7, Try.ntmps7
                      go_wp2_with (first | ((with_reducible refine gate_callee (f := 11) rfl ?_); refine goesL_ (some 9) rfl rfl Try.func11 (by kernel_rfl) rfl #[] rfl (by (try simp only [List.map_toArray, List.map_cons, List.map_nil]); first | done | rfl | (simp only [List.length_drop, List.length_take]; rfl)) ?_; (with_reducible refine (madrigallaw1_awake.calls k  true _ A5.out).mono ?_); rintro e w38 ⟨rfl, hb⟩; refine ⟨_, rfl, ?_⟩; have n0_ := Aside0.mk (below_step (by repeat (first | (with_reducible first | exact HB.out | apply below_alloc | apply pw_below_drewN | apply below_drew1) | exact HB.out)) hb); clear HB; have HB := n0_; clear n0_; (try clear hb); (try clear hb2); (try clear hk); (try clear hi); (try clear hge)) | ((with_reducible refine gate_callee (f := 16) rfl ?_); refine goesL_ (some 15) rfl rfl Try.func16 (by kernel_rfl) rfl #[.int .i64 a0] rfl (by (try simp only [List.map_toArray, List.map_cons, List.map_nil]); first | done | rfl | (simp only [List.length_drop, List.length_take]; rfl)) ?_; (with_reducible refine (fix_Sqrt.calls k a0 t250 _ A9.out).mono ?_); rintro e w' ⟨rfl, ⟨nd, rfl⟩⟩; refine ⟨_, rfl, ?_⟩) | ((with_reducible refine gate_callee (f := 16) rfl ?_); refine goesL_ (some 17) rfl rfl Try.func16 (by kernel_rfl) rfl #[.int .i64 a1] rfl (by (try simp only [List.map_toArray, List.map_cons, List.map_nil]); first | done | rfl | (simp only [List.length_drop, List.length_take]; rfl)) ?_; (with_reducible refine (fix_Sqrt.calls k a1 t251 _ A10.out).mono ?_); rintro e w' ⟨rfl, ⟨nd, rfl⟩⟩; refine ⟨_, rfl, ?_⟩) | (go_at_call 15; (with_reducible refine (fix_Log2.calls k a0 t252 _ A12.out).mono ?_); rintro e w' ⟨rfl, ⟨nd, rfl⟩⟩) | (go_at_call 15; (with_reducible refine (fix_Log2.calls k a1 t253 _ A13.out).mono ?_); rintro e w' ⟨rfl, ⟨nd, rfl⟩⟩) | (go_at_call 19; (with_reducible refine (fix_Exp2.calls k a0 t254 _ A15.out).mono ?_); rintro e w' ⟨rfl, ⟨nd, rfl⟩⟩) | (go_at_call 19; (with_reducible refine (fix_Exp2.calls k a1 t255 _ A16.out).mono ?_); rintro e w' ⟨rfl, ⟨nd, rfl⟩⟩) | (go_at_call 22; (with_reducible refine (fix_Sat16.calls k a0 t256 _ A18.out).mono ?_); rintro e w' ⟨rfl, ⟨nd, rfl⟩⟩) | (go_at_call 22; (with_reducible refine (fix_Sat16.calls k a1 t257 _ A19.out).mono ?_); rintro e w' ⟨rfl, ⟨nd, rfl⟩⟩) | (go_at_call 13; (with_reducible refine (fix_Mul.calls k a0 a2 a3 t264 _ A33.out).mono ?_); rintro e w' ⟨rfl, ⟨nd, rfl⟩⟩) | (go_at_call 13; (with_reducible refine (fix_Mul.calls k a1 a2 a3 t265 _ A34.out).mono ?_); rintro e w' ⟨rfl, ⟨nd, rfl⟩⟩) | (go_at_call 17; (with_reducible refine (fix_Len.calls k a0 t266 _ A36.out).mono ?_); rintro e w' ⟨rfl, ⟨nd, rfl⟩⟩) | (go_at_call 17; (with_reducible refine (fix_Len.calls k a1 t267 _ A37.out).mono ?_); rintro e w' ⟨rfl, ⟨nd, rfl⟩⟩))
                      go_ret
                      exact ⟨by first | rfl | (simp [errW_none, errW_some] <;> rfl) | (simp [*, errW_none, errW_some] <;> rfl), by repeat (first | (with_reducible first | exact HB.out | apply below_alloc | apply pw_below_drewN | apply below_drew1) | exact HB.out)⟩
                    · rw [if_neg c35] at H
                      exact absurd H (by simp)
            · rw [if_neg c20] at H
              exact absurd H (by simp)
          · rw [if_neg c17] at H
            exact absurd H (by simp)
        · rw [if_neg c14] at H
          exact absurd H (by simp)
      · rw [if_neg c11] at H
        exact absurd H (by simp)
  · replace c6 := Bool.eq_false_iff.mpr c6
    subst c6
    have H1 : (none) = some r := by rw [if_neg (show ¬ (false = true) by decide)] at H; exact H
    clear H
    have H := H1
    clear H1
    exact absurd H (by simp)

/-- THE ONE PURE STATEMENT of madrigallaw1_FixRises. -/
def madrigallaw1_FixRises.Pure : Prop := ∀ (a0 : Int) (a1 : Int) (a2 : Int) (a3 : Int), (Lit.int .i64 a0).wf = true → (Lit.int .i64 a1).wf = true → (Lit.int .i64 a2).wf = true → (Lit.int .i64 a3).wf = true → ∃ k, madrigallaw1_FixRises.f k a0 a1 a2 a3 = some true
theorem madrigallaw1_FixRises.walk (P : madrigallaw1_FixRises.Pure) (a0 : Int) (a1 : Int) (a2 : Int) (a3 : Int) (w : World) (w0 : (Lit.int .i64 a0).wf = true) (w1 : (Lit.int .i64 a1).wf = true) (w2 : (Lit.int .i64 a2).wf = true) (w3 : (Lit.int .i64 a3).wf = true) :
    Calls Try.prog 7 #[.int .i64 a0, .int .i64 a1, .int .i64 a2, .int .i64 a3] w fun e w' => e = .returned (.bool true) ∧ Below w.heap.size w w' := by
  obtain ⟨k, h⟩ := P a0 a1 a2 a3 w0 w1 w2 w3
  refine (madrigallaw1_FixRises.calls k a0 a1 a2 a3 true w h).mono ?_
  rintro e w' ⟨rfl, hd⟩
  exact ⟨rfl, hd⟩

end Go.Proofs.Ytlhdoopmlpnhlaa.P
