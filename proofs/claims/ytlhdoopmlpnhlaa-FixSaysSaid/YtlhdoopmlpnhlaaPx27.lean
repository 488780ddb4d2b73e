/- The machine side of the laws of one chapter, without conditions: each call of a Go function comes to what the Lean function of its name answers. Written for this claim by a program of the prover. -/
import Derived.Test.YtlhdoopmlpnhlaaPx0
import Derived.Test.YtlhdoopmlpnhlaaPx1
import Derived.Test.YtlhdoopmlpnhlaaPx2
import Derived.Test.YtlhdoopmlpnhlaaPx4
import Derived.Test.YtlhdoopmlpnhlaaPx5
import Derived.Test.YtlhdoopmlpnhlaaPx7
import Derived.Test.YtlhdoopmlpnhlaaPx8
import Derived.Test.YtlhdoopmlpnhlaaPx9
import Derived.Test.YtlhdoopmlpnhlaaPx10
import Derived.Test.YtlhdoopmlpnhlaaPx11
import Derived.Test.YtlhdoopmlpnhlaaPx12
import Derived.Test.YtlhdoopmlpnhlaaPx13
import Derived.Test.YtlhdoopmlpnhlaaPx15
import Derived.Test.YtlhdoopmlpnhlaaPx16
import Derived.Test.YtlhdoopmlpnhlaaPx18
import Derived.Test.YtlhdoopmlpnhlaaPx19
import Derived.Test.YtlhdoopmlpnhlaaPx20
import Derived.Test.YtlhdoopmlpnhlaaPx21
import Derived.Test.YtlhdoopmlpnhlaaPx22
import Derived.Test.YtlhdoopmlpnhlaaPx23
import Derived.Test.YtlhdoopmlpnhlaaPx26
namespace Go.Proofs.Ytlhdoopmlpnhlaa.P
open Go.RowKit Go.Proofs.YtlhdoopmlpnhlaaW.PrintWords Go.Proofs.YtlhdoopmlpnhlaaW.PrintLast Go.Proofs.YtlhdoopmlpnhlaaW.PrintMore
attribute [local go_sem] max2_int min2_int max_two min_two max_three min_three max_four min_four   -- for this text's walks alone
set_option linter.unusedVariables false
set_option linter.unusedSimpArgs false

/-! ### madrigallaw1_FixSays: function 4 -/
def madrigallaw1_FixSays.f (k : Nat) (a0 : Int) (a1 : Int) (a2 : Int) (a3 : Int) (l4 : List Int) : Option (Bool) := (madrigallaw1_awake.f k).bind fun t204 => (if t204 = true then (if (l4.length : Int) > 200 then (some true) else ((fix_Clamp.f k a0 a1 a2).bind fun t205 => ((madrigalref1_Clamp.f k a0 a1 a2).bind fun t206 => (if t205 = t206 then ((fix_Sat16.f k a0).bind fun t207 => ((madrigalref1_Sat16.f k a0).bind fun t208 => (if t207 = t208 then ((fix_Mul.f k a0 a1 a3).bind fun t209 => ((madrigalref1_Mul.f k a0 a1 a3).bind fun t210 => (if t209 = t210 then ((fix_Div.f k a0 a1 a3).bind fun t211 => ((madrigalref1_Div.f k a0 a1 a3).bind fun t212 => (if t211 = t212 then ((some (([] : List Int) : List Int)).bind fun y213 => (if y213.length + l4.length < 17592186044416 then ((fix_Sum.f k (y213 ++ l4)).bind fun t219 => ((madrigalref1_Sum.f k l4).bind fun t220 => (if t219 = t220 then ((fix_Log2.f k a0).bind fun t221 => ((madrigalref1_Log2.f k a0).bind fun t222 => (if t221 = t222 then ((fix_Exp2.f k a0).bind fun t223 => ((madrigalref1_Exp2.f k a0).bind fun t224 => (if t223 = t224 then ((fix_Exp2.f k (Go.bits .and .i64 a0 8191)).bind fun t225 => ((madrigalref1_Exp2.f k (Go.bits .and .i64 a0 8191)).bind fun t226 => (if t225 = t226 then ((fix_Sqrt.f k a0).bind fun t227 => ((madrigalref1_Sqrt.f k a0).bind fun t228 => (if t227 = t228 then ((fix_Cos.f k a0).bind fun t229 => ((madrigalref1_Cos.f k a0).bind fun t230 => (if t229 = t230 then ((fix_Sin.f k a0).bind fun t231 => ((madrigalref1_Sin.f k a0).bind fun t232 => (if t231 = t232 then ((fix_Len.f k a0).bind fun t233 => ((madrigalref1_Len.f k a0).bind fun t234 => (some (t233 == t234)))) else (none)))) else (none)))) else (none)))) else (none)))) else (none)))) else (none)))) else (none)))) else (none))) else (none)))) else (none)))) else (none)))) else (none))))) else (none))
theorem madrigallaw1_FixSays.mono : ∀ a0 a1 a2 a3 a4 k, LeO (madrigallaw1_FixSays.f k a0 a1 a2 a3 a4) (madrigallaw1_FixSays.f (k + 1) a0 a1 a2 a3 a4) := by
  intro a0 a1 a2 a3 a4 k
  unfold madrigallaw1_FixSays.f
  repeat' first
      | (with_reducible exact fix_Clamp.mono _ _ _ _)
      | (with_reducible exact fix_Cos.mono _ _)
      | (with_reducible exact fix_Div.mono _ _ _ _)
      | (with_reducible exact fix_Exp2.mono _ _)
      | (with_reducible exact fix_Len.mono _ _)
      | (with_reducible exact fix_Log2.mono _ _)
      | (with_reducible exact fix_Mul.mono _ _ _ _)
      | (with_reducible exact fix_Sat16.mono _ _)
      | (with_reducible exact fix_Sin.mono _ _)
      | (with_reducible exact fix_Sqrt.mono _ _)
      | (with_reducible exact fix_Sum.mono _ _)
      | (with_reducible exact madrigallaw1_awake.mono _)
      | (with_reducible exact madrigalref1_Clamp.mono _ _ _ _)
      | (with_reducible exact madrigalref1_Cos.mono _ _)
      | (with_reducible exact madrigalref1_Div.mono _ _ _ _)
      | (with_reducible exact madrigalref1_Exp2.mono _ _)
      | (with_reducible exact madrigalref1_Len.mono _ _)
      | (with_reducible exact madrigalref1_Log2.mono _ _)
      | (with_reducible exact madrigalref1_Mul.mono _ _ _ _)
      | (with_reducible exact madrigalref1_Sat16.mono _ _)
      | (with_reducible exact madrigalref1_Sin.mono _ _)
      | (with_reducible exact madrigalref1_Sqrt.mono _ _)
      | (with_reducible exact madrigalref1_Sum.mono _ _)
      | (with_reducible exact LeO.refl _)
      | (with_reducible exact LeO.none _)
      | (with_reducible refine LeO.ite ?_ ?_)
      | (with_reducible refine LeO.bind ?_ (fun _ => ?_))
      | exact fix_Clamp.mono _ _ _ _
      | exact fix_Cos.mono _ _
      | exact fix_Div.mono _ _ _ _
      | exact fix_Exp2.mono _ _
      | exact fix_Len.mono _ _
      | exact fix_Log2.mono _ _
      | exact fix_Mul.mono _ _ _ _
      | exact fix_Sat16.mono _ _
      | exact fix_Sin.mono _ _
      | exact fix_Sqrt.mono _ _
      | exact fix_Sum.mono _ _
      | exact madrigallaw1_awake.mono _
      | exact madrigalref1_Clamp.mono _ _ _ _
      | exact madrigalref1_Cos.mono _ _
      | exact madrigalref1_Div.mono _ _ _ _
      | exact madrigalref1_Exp2.mono _ _
      | exact madrigalref1_Len.mono _ _
      | exact madrigalref1_Log2.mono _ _
      | exact madrigalref1_Mul.mono _ _ _ _
      | exact madrigalref1_Sat16.mono _ _
      | exact madrigalref1_Sin.mono _ _
      | exact madrigalref1_Sqrt.mono _ _
      | exact madrigalref1_Sum.mono _ _
      | exact LeO.none _
      | refine LeO.ite ?_ ?_
      | refine LeO.bind ?_ (fun _ => ?_)
set_option maxHeartbeats 8000000 in
set_option maxRecDepth 100000 in
theorem madrigallaw1_FixSays.calls (k : Nat) (a0 : Int) (a1 : Int) (a2 : Int) (a3 : Int) (A4 : Option Addr) (c4 : Nat) (l4 : List Int) (r : Bool) (w : World) (hr4 : Kd.C (Kd.int .i64) w A4 l4.length l4) (hc4 : l4.length ≤ c4) (h : madrigallaw1_FixSays.f k a0 a1 a2 a3 l4 = some r) :
    Calls Try.prog 4 #[.int .i64 a0, .int .i64 a1, .int .i64 a2, .int .i64 a3, .slice A4 l4.length c4] w fun e w' => e = .returned (.bool r) ∧ Below w.heap.size w w' := by
  have HR4 := Aside0.mk hr4
  have HC4 := Aside0.mk hc4
  clear hr4 hc4
  have HB := Aside0.mk (Below.refl w.heap.size w)
  have H : ((madrigallaw1_awake.f k).bind fun t204 => (if t204 = true then (if (l4.length : Int) > 200 then (some true) else ((fix_Clamp.f k a0 a1 a2).bind fun t205 => ((madrigalref1_Clamp.f k a0 a1 a2).bind fun t206 => (if t205 = t206 then ((fix_Sat16.f k a0).bind fun t207 => ((madrigalref1_Sat16.f k a0).bind fun t208 => (if t207 = t208 then ((fix_Mul.f k a0 a1 a3).bind fun t209 => ((madrigalref1_Mul.f k a0 a1 a3).bind fun t210 => (if t209 = t210 then ((fix_Div.f k a0 a1 a3).bind fun t211 => ((madrigalref1_Div.f k a0 a1 a3).bind fun t212 => (if t211 = t212 then ((some (([] : List Int) : List Int)).bind fun y213 => (if y213.length + l4.length < 17592186044416 then ((fix_Sum.f k (y213 ++ l4)).bind fun t219 => ((madrigalref1_Sum.f k l4).bind fun t220 => (if t219 = t220 then ((fix_Log2.f k a0).bind fun t221 => ((madrigalref1_Log2.f k a0).bind fun t222 => (if t221 = t222 then ((fix_Exp2.f k a0).bind fun t223 => ((madrigalref1_Exp2.f k a0).bind fun t224 => (if t223 = t224 then ((fix_Exp2.f k (Go.bits .and .i64 a0 8191)).bind fun t225 => ((madrigalref1_Exp2.f k (Go.bits .and .i64 a0 8191)).bind fun t226 => (if t225 = t226 then ((fix_Sqrt.f k a0).bind fun t227 => ((madrigalref1_Sqrt.f k a0).bind fun t228 => (if t227 = t228 then ((fix_Cos.f k a0).bind fun t229 => ((madrigalref1_Cos.f k a0).bind fun t230 => (if t229 = t230 then ((fix_Sin.f k a0).bind fun t231 => ((madrigalref1_Sin.f k a0).bind fun t232 => (if t231 = t232 then ((fix_Len.f k a0).bind fun t233 => ((madrigalref1_Len.f k a0).bind fun t234 => (some (t233 == t234)))) else (none)))) else (none)))) else (none)))) else (none)))) else (none)))) else (none)))) else (none)))) else (none))) else (none)))) else (none)))) else (none)))) else (none))))) else (none))) = some r := h
  clear h
  replace H := Option.bind_eq_some_iff.mp H
  obtain ⟨t204, A60, H⟩ := H
  replace H : (if t204 = true then (if (l4.length : Int) > 200 then (some true) else ((fix_Clamp.f k a0 a1 a2).bind fun t205 => ((madrigalref1_Clamp.f k a0 a1 a2).bind fun t206 => (if t205 = t206 then ((fix_Sat16.f k a0).bind fun t207 => ((madrigalref1_Sat16.f k a0).bind fun t208 => (if t207 = t208 then ((fix_Mul.f k a0 a1 a3).bind fun t209 => ((madrigalref1_Mul.f k a0 a1 a3).bind fun t210 => (if t209 = t210 then ((fix_Div.f k a0 a1 a3).bind fun t211 => ((madrigalref1_Div.f k a0 a1 a3).bind fun t212 => (if t211 = t212 then ((some (([] : List Int) : List Int)).bind fun y213 => (if y213.length + l4.length < 17592186044416 then ((fix_Sum.f k (y213 ++ l4)).bind fun t219 => ((madrigalref1_Sum.f k l4).bind fun t220 => (if t219 = t220 then ((fix_Log2.f k a0).bind fun t221 => ((madrigalref1_Log2.f k a0).bind fun t222 => (if t221 = t222 then ((fix_Exp2.f k a0).bind fun t223 => ((madrigalref1_Exp2.f k a0).bind fun t224 => (if t223 = t224 then ((fix_Exp2.f k (Go.bits .and .i64 a0 8191)).bind fun t225 => ((madrigalref1_Exp2.f k (Go.bits .and .i64 a0 8191)).bind fun t226 => (if t225 = t226 then ((fix_Sqrt.f k a0).bind fun t227 => ((madrigalref1_Sqrt.f k a0).bind fun t228 => (if t227 = t228 then ((fix_Cos.f k a0).bind fun t229 => ((madrigalref1_Cos.f k a0).bind fun t230 => (if t229 = t230 then ((fix_Sin.f k a0).bind fun t231 => ((madrigalref1_Sin.f k a0).bind fun t232 => (if t231 = t232 then ((fix_Len.f k a0).bind fun t233 => ((madrigalref1_Len.f k a0).bind fun t234 => (some (t233 == t234)))) else (none)))) else (none)))) else (none)))) else (none)))) else (none)))) else (none)))) else (none)))) else (none))) else (none)))) else (none)))) else (none)))) else (none))))) else (none)) = some r := H
  have A6 := Aside0.mk A60
  clear A60
  by_cases c7 : t204 = true
  · subst c7
    have H1 : (if (l4.length : Int) > 200 then (some true) else ((fix_Clamp.f k a0 a1 a2).bind fun t205 => ((madrigalref1_Clamp.f k a0 a1 a2).bind fun t206 => (if t205 = t206 then ((fix_Sat16.f k a0).bind fun t207 => ((madrigalref1_Sat16.f k a0).bind fun t208 => (if t207 = t208 then ((fix_Mul.f k a0 a1 a3).bind fun t209 => ((madrigalref1_Mul.f k a0 a1 a3).bind fun t210 => (if t209 = t210 then ((fix_Div.f k a0 a1 a3).bind fun t211 => ((madrigalref1_Div.f k a0 a1 a3).bind fun t212 => (if t211 = t212 then ((some (([] : List Int) : List Int)).bind fun y213 => (if y213.length + l4.length < 17592186044416 then ((fix_Sum.f k (y213 ++ l4)).bind fun t219 => ((madrigalref1_Sum.f k l4).bind fun t220 => (if t219 = t220 then ((fix_Log2.f k a0).bind fun t221 => ((madrigalref1_Log2.f k a0).bind fun t222 => (if t221 = t222 then ((fix_Exp2.f k a0).bind fun t223 => ((madrigalref1_Exp2.f k a0).bind fun t224 => (if t223 = t224 then ((fix_Exp2.f k (Go.bits .and .i64 a0 8191)).bind fun t225 => ((madrigalref1_Exp2.f k (Go.bits .and .i64 a0 8191)).bind fun t226 => (if t225 = t226 then ((fix_Sqrt.f k a0).bind fun t227 => ((madrigalref1_Sqrt.f k a0).bind fun t228 => (if t227 = t228 then ((fix_Cos.f k a0).bind fun t229 => ((madrigalref1_Cos.f k a0).bind fun t230 => (if t229 = t230 then ((fix_Sin.f k a0).bind fun t231 => ((madrigalref1_Sin.f k a0).bind fun t232 => (if t231 = t232 then ((fix_Len.f k a0).bind fun t233 => ((madrigalref1_Len.f k a0).bind fun t234 => (some (t233 == t234)))) else (none)))) else (none)))) else (none)))) else (none)))) else (none)))) else (none)))) else (none)))) else (none))) else (none)))) else (none)))) else (none)))) else (none))))) = some r := by rw [if_pos rfl] at H; exact H
    clear H
    have H := H1
    clear H1
    by_cases c8 : (l4.length : Int) > 200
    · rw [if_pos c8] at H
      have c8b0 : decide (200 < (l4.length : Int)) = true := decide_eq_true c8
      have c8b1 : decide (200 < l4.length) = true := decide_eq_true (by omega)
      clear c8
      obtain rfl := Option.some.inj H
      go_enter Try.func4, Try.ntmps4
      (try simp only [List.append_eq, List.cons_append, List.nil_append])
      go_wp2_with (first | ((with_reducible refine gate_callee (f := 11) rfl ?_); refine goesL_ (some 11) rfl rfl Try.func11 (by kernel_rfl) rfl #[] rfl (by (try simp only [List.map_toArray, List.map_cons, List.map_nil]); first | done | rfl | (simp only [List.length_drop, List.length_take]; rfl)) ?_; (with_reducible refine (madrigallaw1_awake.calls k  true _ A6.out).mono ?_); rintro e w9 ⟨rfl, hb⟩; refine ⟨_, rfl, ?_⟩; have n0_ := Aside0.mk (below_step (by repeat (first | (with_reducible first | exact HB.out | apply below_alloc | apply pw_below_drewN | apply below_drew1) | exact HB.out)) hb); clear HB; have HB := n0_; clear n0_; (try clear hb); (try clear hb2); (try clear hk); (try clear hi); (try clear hge)))
      go_ret
      exact ⟨by first | rfl | (simp [errW_none, errW_some] <;> rfl) | (simp [*, errW_none, errW_some] <;> rfl), by repeat (first | (with_reducible first | exact HB.out | apply below_alloc | apply pw_below_drewN | apply below_drew1) | exact HB.out)⟩
    · rw [if_neg c8] at H
      have c8b0 : decide (200 < (l4.length : Int)) = false := decide_eq_false c8
      have c8b1 : decide (200 < l4.length) = false := decide_eq_false (by omega)
      clear c8
      replace H := Option.bind_eq_some_iff.mp H
      obtain ⟨t205, A100, H⟩ := H
      replace H : ((madrigalref1_Clamp.f k a0 a1 a2).bind fun t206 => (if t205 = t206 then ((fix_Sat16.f k a0).bind fun t207 => ((madrigalref1_Sat16.f k a0).bind fun t208 => (if t207 = t208 then ((fix_Mul.f k a0 a1 a3).bind fun t209 => ((madrigalref1_Mul.f k a0 a1 a3).bind fun t210 => (if t209 = t210 then ((fix_Div.f k a0 a1 a3).bind fun t211 => ((madrigalref1_Div.f k a0 a1 a3).bind fun t212 => (if t211 = t212 then ((some (([] : List Int) : List Int)).bind fun y213 => (if y213.length + l4.length < 17592186044416 then ((fix_Sum.f k (y213 ++ l4)).bind fun t219 => ((madrigalref1_Sum.f k l4).bind fun t220 => (if t219 = t220 then ((fix_Log2.f k a0).bind fun t221 => ((madrigalref1_Log2.f k a0).bind fun t222 => (if t221 = t222 then ((fix_Exp2.f k a0).bind fun t223 => ((madrigalref1_Exp2.f k a0).bind fun t224 => (if t223 = t224 then ((fix_Exp2.f k (Go.bits .and .i64 a0 8191)).bind fun t225 => ((madrigalref1_Exp2.f k (Go.bits .and .i64 a0 8191)).bind fun t226 => (if t225 = t226 then ((fix_Sqrt.f k a0).bind fun t227 => ((madrigalref1_Sqrt.f k a0).bind fun t228 => (if t227 = t228 then ((fix_Cos.f k a0).bind fun t229 => ((madrigalref1_Cos.f k a0).bind fun t230 => (if t229 = t230 then ((fix_Sin.f k a0).bind fun t231 => ((madrigalref1_Sin.f k a0).bind fun t232 => (if t231 = t232 then ((fix_Len.f k a0).bind fun t233 => ((madrigalref1_Len.f k a0).bind fun t234 => (some (t233 == t234)))) else (none)))) else (none)))) else (none)))) else (none)))) else (none)))) else (none)))) else (none)))) else (none))) else (none)))) else (none)))) else (none)))) else (none))) = some r := H
      have A10 := Aside0.mk A100
      clear A100
      replace H := Option.bind_eq_some_iff.mp H
      obtain ⟨t206, A110, H⟩ := H
      replace H : (if t205 = t206 then ((fix_Sat16.f k a0).bind fun t207 => ((madrigalref1_Sat16.f k a0).bind fun t208 => (if t207 = t208 then ((fix_Mul.f k a0 a1 a3).bind fun t209 => ((madrigalref1_Mul.f k a0 a1 a3).bind fun t210 => (if t209 = t210 then ((fix_Div.f k a0 a1 a3).bind fun t211 => ((madrigalref1_Div.f k a0 a1 a3).bind fun t212 => (if t211 = t212 then ((some (([] : List Int) : List Int)).bind fun y213 => (if y213.length + l4.length < 17592186044416 then ((fix_Sum.f k (y213 ++ l4)).bind fun t219 => ((madrigalref1_Sum.f k l4).bind fun t220 => (if t219 = t220 then ((fix_Log2.f k a0).bind fun t221 => ((madrigalref1_Log2.f k a0).bind fun t222 => (if t221 = t222 then ((fix_Exp2.f k a0).bind fun t223 => ((madrigalref1_Exp2.f k a0).bind fun t224 => (if t223 = t224 then ((fix_Exp2.f k (Go.bits .and .i64 a0 8191)).bind fun t225 => ((madrigalref1_Exp2.f k (Go.bits .and .i64 a0 8191)).bind fun t226 => (if t225 = t226 then ((fix_Sqrt.f k a0).bind fun t227 => ((madrigalref1_Sqrt.f k a0).bind fun t228 => (if t227 = t228 then ((fix_Cos.f k a0).bind fun t229 => ((madrigalref1_Cos.f k a0).bind fun t230 => (if t229 = t230 then ((fix_Sin.f k a0).bind fun t231 => ((madrigalref1_Sin.f k a0).bind fun t232 => (if t231 = t232 then ((fix_Len.f k a0).bind fun t233 => ((madrigalref1_Len.f k a0).bind fun t234 => (some (t233 == t234)))) else (none)))) else (none)))) else (none)))) else (none)))) else (none)))) else (none)))) else (none)))) else (none))) else (none)))) else (none)))) else (none)))) else (none)) = some r := H
      have A11 := Aside0.mk A110
      clear A110
      by_cases c12 : t205 = t206
      · rw [if_pos c12] at H
        have c12b0 : (t205 == t206) = true := beq_iff_eq.mpr c12
        have c12b1 : (t205 != t206) = false := bne_eq_false_iff_eq.mpr c12
        clear c12
        replace H := Option.bind_eq_some_iff.mp H
        obtain ⟨t207, A130, H⟩ := H
        replace H : ((madrigalref1_Sat16.f k a0).bind fun t208 => (if t207 = t208 then ((fix_Mul.f k a0 a1 a3).bind fun t209 => ((madrigalref1_Mul.f k a0 a1 a3).bind fun t210 => (if t209 = t210 then ((fix_Div.f k a0 a1 a3).bind fun t211 => ((madrigalref1_Div.f k a0 a1 a3).bind fun t212 => (if t211 = t212 then ((some (([] : List Int) : List Int)).bind fun y213 => (if y213.length + l4.length < 17592186044416 then ((fix_Sum.f k (y213 ++ l4)).bind fun t219 => ((madrigalref1_Sum.f k l4).bind fun t220 => (if t219 = t220 then ((fix_Log2.f k a0).bind fun t221 => ((madrigalref1_Log2.f k a0).bind fun t222 => (if t221 = t222 then ((fix_Exp2.f k a0).bind fun t223 => ((madrigalref1_Exp2.f k a0).bind fun t224 => (if t223 = t224 then ((fix_Exp2.f k (Go.bits .and .i64 a0 8191)).bind fun t225 => ((madrigalref1_Exp2.f k (Go.bits .and .i64 a0 8191)).bind fun t226 => (if t225 = t226 then ((fix_Sqrt.f k a0).bind fun t227 => ((madrigalref1_Sqrt.f k a0).bind fun t228 => (if t227 = t228 then ((fix_Cos.f k a0).bind fun t229 => ((madrigalref1_Cos.f k a0).bind fun t230 => (if t229 = t230 then ((fix_Sin.f k a0).bind fun t231 => ((madrigalref1_Sin.f k a0).bind fun t232 => (if t231 = t232 then ((fix_Len.f k a0).bind fun t233 => ((madrigalref1_Len.f k a0).bind fun t234 => (some (t233 == t234)))) else (none)))) else (none)))) else (none)))) else (none)))) else (none)))) else (none)))) else (none)))) else (none))) else (none)))) else (none)))) else (none))) = some r := H
        have A13 := Aside0.mk A130
        clear A130
        replace H := Option.bind_eq_some_iff.mp H
        obtain ⟨t208, A140, H⟩ := H
        replace H : (if t207 = t208 then ((fix_Mul.f k a0 a1 a3).bind fun t209 => ((madrigalref1_Mul.f k a0 a1 a3).bind fun t210 => (if t209 = t210 then ((fix_Div.f k a0 a1 a3).bind fun t211 => ((madrigalref1_Div.f k a0 a1 a3).bind fun t212 => (if t211 = t212 then ((some (([] : List Int) : List Int)).bind fun y213 => (if y213.length + l4.length < 17592186044416 then ((fix_Sum.f k (y213 ++ l4)).bind fun t219 => ((madrigalref1_Sum.f k l4).bind fun t220 => (if t219 = t220 then ((fix_Log2.f k a0).bind fun t221 => ((madrigalref1_Log2.f k a0).bind fun t222 => (if t221 = t222 then ((fix_Exp2.f k a0).bind fun t223 => ((madrigalref1_Exp2.f k a0).bind fun t224 => (if t223 = t224 then ((fix_Exp2.f k (Go.bits .and .i64 a0 8191)).bind fun t225 => ((madrigalref1_Exp2.f k (Go.bits .and .i64 a0 8191)).bind fun t226 => (if t225 = t226 then ((fix_Sqrt.f k a0).bind fun t227 => ((madrigalref1_Sqrt.f k a0).bind fun t228 => (if t227 = t228 then ((fix_Cos.f k a0).bind fun t229 => ((madrigalref1_Cos.f k a0).bind fun t230 => (if t229 = t230 then ((fix_Sin.f k a0).bind fun t231 => ((madrigalref1_Sin.f k a0).bind fun t232 => (if t231 = t232 then ((fix_Len.f k a0).bind fun t233 => ((madrigalref1_Len.f k a0).bind fun t234 => (some (t233 == t234)))) else (none)))) else (none)))) else (none)))) else (none)))) else (none)))) else (none)))) else (none)))) else (none))) else (none)))) else (none)))) else (none)) = some r := H
        have A14 := Aside0.mk A140
        clear A140
        by_cases c15 : t207 = t208
        · rw [if_pos c15] at H
          have c15b0 : (t207 == t208) = true := beq_iff_eq.mpr c15
          have c15b1 : (t207 != t208) = false := bne_eq_false_iff_eq.mpr c15
          clear c15
          replace H := Option.bind_eq_some_iff.mp H
          obtain ⟨t209, A160, H⟩ := H
          replace H : ((madrigalref1_Mul.f k a0 a1 a3).bind fun t210 => (if t209 = t210 then ((fix_Div.f k a0 a1 a3).bind fun t211 => ((madrigalref1_Div.f k a0 a1 a3).bind fun t212 => (if t211 = t212 then ((some (([] : List Int) : List Int)).bind fun y213 => (if y213.length + l4.length < 17592186044416 then ((fix_Sum.f k (y213 ++ l4)).bind fun t219 => ((madrigalref1_Sum.f k l4).bind fun t220 => (if t219 = t220 then ((fix_Log2.f k a0).bind fun t221 => ((madrigalref1_Log2.f k a0).bind fun t222 => (if t221 = t222 then ((fix_Exp2.f k a0).bind fun t223 => ((madrigalref1_Exp2.f k a0).bind fun t224 => (if t223 = t224 then ((fix_Exp2.f k (Go.bits .and .i64 a0 8191)).bind fun t225 => ((madrigalref1_Exp2.f k (Go.bits .and .i64 a0 8191)).bind fun t226 => (if t225 = t226 then ((fix_Sqrt.f k a0).bind fun t227 => ((madrigalref1_Sqrt.f k a0).bind fun t228 => (if t227 = t228 then ((fix_Cos.f k a0).bind fun t229 => ((madrigalref1_Cos.f k a0).bind fun t230 => (if t229 = t230 then ((fix_Sin.f k a0).bind fun t231 => ((madrigalref1_Sin.f k a0).bind fun t232 => (if t231 = t232 then ((fix_Len.f k a0).bind fun t233 => ((madrigalref1_Len.f k a0).bind fun t234 => (some (t233 == t234)))) else (none)))) else (none)))) else (none)))) else (none)))) else (none)))) else (none)))) else (none)))) else (none))) else (none)))) else (none))) = some r := H
          have A16 := Aside0.mk A160
          clear A160
          replace H := Option.bind_eq_some_iff.mp H
          obtain ⟨t210, A170, H⟩ := H
          replace H : (if t209 = t210 then ((fix_Div.f k a0 a1 a3).bind fun t211 => ((madrigalref1_Div.f k a0 a1 a3).bind fun t212 => (if t211 = t212 then ((some (([] : List Int) : List Int)).bind fun y213 => (if y213.length + l4.length < 17592186044416 then ((fix_Sum.f k (y213 ++ l4)).bind fun t219 => ((madrigalref1_Sum.f k l4).bind fun t220 => (if t219 = t220 then ((fix_Log2.f k a0).bind fun t221 => ((madrigalref1_Log2.f k a0).bind fun t222 => (if t221 = t222 then ((fix_Exp2.f k a0).bind fun t223 => ((madrigalref1_Exp2.f k a0).bind fun t224 => (if t223 = t224 then ((fix_Exp2.f k (Go.bits .and .i64 a0 8191)).bind fun t225 => ((madrigalref1_Exp2.f k (Go.bits .and .i64 a0 8191)).bind fun t226 => (if t225 = t226 then ((fix_Sqrt.f k a0).bind fun t227 => ((madrigalref1_Sqrt.f k a0).bind fun t228 => (if t227 = t228 then ((fix_Cos.f k a0).bind fun t229 => ((madrigalref1_Cos.f k a0).bind fun t230 => (if t229 = t230 then ((fix_Sin.f k a0).bind fun t231 => ((madrigalref1_Sin.f k a0).bind fun t232 => (if t231 = t232 then ((fix_Len.f k a0).bind fun t233 => ((madrigalref1_Len.f k a0).bind fun t234 => (some (t233 == t234)))) else (none)))) else (none)))) else (none)))) else (none)))) else (none)))) else (none)))) else (none)))) else (none))) else (none)))) else (none)) = some r := H
          have A17 := Aside0.mk A170
          clear A170
          by_cases c18 : t209 = t210
          · rw [if_pos c18] at H
            have c18b0 : (t209 == t210) = true := beq_iff_eq.mpr c18
            have c18b1 : (t209 != t210) = false := bne_eq_false_iff_eq.mpr c18
            clear c18
            replace H := Option.bind_eq_some_iff.mp H
            obtain ⟨t211, A190, H⟩ := H
            replace H : ((madrigalref1_Div.f k a0 a1 a3).bind fun t212 => (if t211 = t212 then ((some (([] : List Int) : List Int)).bind fun y213 => (if y213.length + l4.length < 17592186044416 then ((fix_Sum.f k (y213 ++ l4)).bind fun t219 => ((madrigalref1_Sum.f k l4).bind fun t220 => (if t219 = t220 then ((fix_Log2.f k a0).bind fun t221 => ((madrigalref1_Log2.f k a0).bind fun t222 => (if t221 = t222 then ((fix_Exp2.f k a0).bind fun t223 => ((madrigalref1_Exp2.f k a0).bind fun t224 => (if t223 = t224 then ((fix_Exp2.f k (Go.bits .and .i64 a0 8191)).bind fun t225 => ((madrigalref1_Exp2.f k (Go.bits .and .i64 a0 8191)).bind fun t226 => (if t225 = t226 then ((fix_Sqrt.f k a0).bind fun t227 => ((madrigalref1_Sqrt.f k a0).bind fun t228 => (if t227 = t228 then ((fix_Cos.f k a0).bind fun t229 => ((madrigalref1_Cos.f k a0).bind fun t230 => (if t229 = t230 then ((fix_Sin.f k a0).bind fun t231 => ((madrigalref1_Sin.f k a0).bind fun t232 => (if t231 = t232 then ((fix_Len.f k a0).bind fun t233 => ((madrigalref1_Len.f k a0).bind fun t234 => (some (t233 == t234)))) else (none)))) else (none)))) else (none)))) else (none)))) else (none)))) else (none)))) else (none)))) else (none))) else (none))) = some r := H
            have A19 := Aside0.mk A190
            clear A190
            replace H := Option.bind_eq_some_iff.mp H
            obtain ⟨t212, A200, H⟩ := H
            replace H : (if t211 = t212 then ((some (([] : List Int) : List Int)).bind fun y213 => (if y213.length + l4.length < 17592186044416 then ((fix_Sum.f k (y213 ++ l4)).bind fun t219 => ((madrigalref1_Sum.f k l4).bind fun t220 => (if t219 = t220 then ((fix_Log2.f k a0).bind fun t221 => ((madrigalref1_Log2.f k a0).bind fun t222 => (if t221 = t222 then ((fix_Exp2.f k a0).bind fun t223 => ((madrigalref1_Exp2.f k a0).bind fun t224 => (if t223 = t224 then ((fix_Exp2.f k (Go.bits .and .i64 a0 8191)).bind fun t225 => ((madrigalref1_Exp2.f k (Go.bits .and .i64 a0 8191)).bind fun t226 => (if t225 = t226 then ((fix_Sqrt.f k a0).bind fun t227 => ((madrigalref1_Sqrt.f k a0).bind fun t228 => (if t227 = t228 then ((fix_Cos.f k a0).bind fun t229 => ((madrigalref1_Cos.f k a0).bind fun t230 => (if t229 = t230 then ((fix_Sin.f k a0).bind fun t231 => ((madrigalref1_Sin.f k a0).bind fun t232 => (if t231 = t232 then ((fix_Len.f k a0).bind fun t233 => ((madrigalref1_Len.f k a0).bind fun t234 => (some (t233 == t234)))) else (none)))) else (none)))) else (none)))) else (none)))) else (none)))) else (none)))) else (none)))) else (none))) else (none)) = some r := H
            have A20 := Aside0.mk A200
            clear A200
            by_cases c21 : t211 = t212
            · rw [if_pos c21] at H
              have c21b0 : (t211 == t212) = true := beq_iff_eq.mpr c21
              have c21b1 : (t211 != t212) = false := bne_eq_false_iff_eq.mpr c21
              clear c21
              obtain ⟨y213, hy213⟩ : ∃ y_ : List Int, y_ = (([] : List Int)) := ⟨_, rfl⟩
              replace H : (if y213.length + l4.length < 17592186044416 then ((fix_Sum.f k (y213 ++ l4)).bind fun t219 => ((madrigalref1_Sum.f k l4).bind fun t220 => (if t219 = t220 then ((fix_Log2.f k a0).bind fun t221 => ((madrigalref1_Log2.f k a0).bind fun t222 => (if t221 = t222 then ((fix_Exp2.f k a0).bind fun t223 => ((madrigalref1_Exp2.f k a0).bind fun t224 => (if t223 = t224 then ((fix_Exp2.f k (Go.bits .and .i64 a0 8191)).bind fun t225 => ((madrigalref1_Exp2.f k (Go.bits .and .i64 a0 8191)).bind fun t226 => (if t225 = t226 then ((fix_Sqrt.f k a0).bind fun t227 => ((madrigalref1_Sqrt.f k a0).bind fun t228 => (if t227 = t228 then ((fix_Cos.f k a0).bind fun t229 => ((madrigalref1_Cos.f k a0).bind fun t230 => (if t229 = t230 then ((fix_Sin.f k a0).bind fun t231 => ((madrigalref1_Sin.f k a0).bind fun t232 => (if t231 = t232 then ((fix_Len.f k a0).bind fun t233 => ((madrigalref1_Len.f k a0).bind fun t234 => (some (t233 == t234)))) else (none)))) else (none)))) else (none)))) else (none)))) else (none)))) else (none)))) else (none)))) else (none)) = some r := by first | (rw [hy213]; with_reducible exact H) | (have H2_ := (Option.bind_some _ _).symm.trans H; rw [hy213]; with_reducible exact H2_) | (have H2_ := (Option.bind_some _ _).symm.trans H; with_reducible exact H2_) | with_reducible exact H | (rw [hy213]; exact H) | exact H
              have Ny213 := Aside0.mk hy213
              clear hy213
              by_cases c22 : y213.length + l4.length < 17592186044416
              · rw [if_pos c22] at H
                have LMc22 := Aside0.mk c22
                clear c22
                obtain ⟨y216, hy216⟩ : ∃ y_ : List Int, y_ = (y213 ++ l4) := ⟨_, rfl⟩
                replace H : ((fix_Sum.f k y216).bind fun t219 => ((madrigalref1_Sum.f k l4).bind fun t220 => (if t219 = t220 then ((fix_Log2.f k a0).bind fun t221 => ((madrigalref1_Log2.f k a0).bind fun t222 => (if t221 = t222 then ((fix_Exp2.f k a0).bind fun t223 => ((madrigalref1_Exp2.f k a0).bind fun t224 => (if t223 = t224 then ((fix_Exp2.f k (Go.bits .and .i64 a0 8191)).bind fun t225 => ((madrigalref1_Exp2.f k (Go.bits .and .i64 a0 8191)).bind fun t226 => (if t225 = t226 then ((fix_Sqrt.f k a0).bind fun t227 => ((madrigalref1_Sqrt.f k a0).bind fun t228 => (if t227 = t228 then ((fix_Cos.f k a0).bind fun t229 => ((madrigalref1_Cos.f k a0).bind fun t230 => (if t229 = t230 then ((fix_Sin.f k a0).bind fun t231 => ((madrigalref1_Sin.f k a0).bind fun t232 => (if t231 = t232 then ((fix_Len.f k a0).bind fun t233 => ((madrigalref1_Len.f k a0).bind fun t234 => (some (t233 == t234)))) else (none)))) else (none)))) else (none)))) else (none)))) else (none)))) else (none)))) else (none)))) = some r := by first | (rw [hy216]; with_reducible exact H) | (have H2_ := (Option.bind_some _ _).symm.trans H; rw [hy216]; with_reducible exact H2_) | (have H2_ := (Option.bind_some _ _).symm.trans H; with_reducible exact H2_) | with_reducible exact H | (rw [hy216]; exact H) | exact H
                have Ny216 := Aside0.mk hy216
                clear hy216
                replace H := Option.bind_eq_some_iff.mp H
                obtain ⟨t219, A230, H⟩ := H
                replace H : ((madrigalref1_Sum.f k l4).bind fun t220 => (if t219 = t220 then ((fix_Log2.f k a0).bind fun t221 => ((madrigalref1_Log2.f k a0).bind fun t222 => (if t221 = t222 then ((fix_Exp2.f k a0).bind fun t223 => ((madrigalref1_Exp2.f k a0).bind fun t224 => (if t223 = t224 then ((fix_Exp2.f k (Go.bits .and .i64 a0 8191)).bind fun t225 => ((madrigalref1_Exp2.f k (Go.bits .and .i64 a0 8191)).bind fun t226 => (if t225 = t226 then ((fix_Sqrt.f k a0).bind fun t227 => ((madrigalref1_Sqrt.f k a0).bind fun t228 => (if t227 = t228 then ((fix_Cos.f k a0).bind fun t229 => ((madrigalref1_Cos.f k a0).bind fun t230 => (if t229 = t230 then ((fix_Sin.f k a0).bind fun t231 => ((madrigalref1_Sin.f k a0).bind fun t232 => (if t231 = t232 then ((fix_Len.f k a0).bind fun t233 => ((madrigalref1_Len.f k a0).bind fun t234 => (some (t233 == t234)))) else (none)))) else (none)))) else (none)))) else (none)))) else (none)))) else (none)))) else (none))) = some r := H
                have A23 := Aside0.mk A230
                clear A230
                replace H := Option.bind_eq_some_iff.mp H
                obtain ⟨t220, A240, H⟩ := H
                replace H : (if t219 = t220 then ((fix_Log2.f k a0).bind fun t221 => ((madrigalref1_Log2.f k a0).bind fun t222 => (if t221 = t222 then ((fix_Exp2.f k a0).bind fun t223 => ((madrigalref1_Exp2.f k a0).bind fun t224 => (if t223 = t224 then ((fix_Exp2.f k (Go.bits .and .i64 a0 8191)).bind fun t225 => ((madrigalref1_Exp2.f k (Go.bits .and .i64 a0 8191)).bind fun t226 => (if t225 = t226 then ((fix_Sqrt.f k a0).bind fun t227 => ((madrigalref1_Sqrt.f k a0).bind fun t228 => (if t227 = t228 then ((fix_Cos.f k a0).bind fun t229 => ((madrigalref1_Cos.f k a0).bind fun t230 => (if t229 = t230 then ((fix_Sin.f k a0).bind fun t231 => ((madrigalref1_Sin.f k a0).bind fun t232 => (if t231 = t232 then ((fix_Len.f k a0).bind fun t233 => ((madrigalref1_Len.f k a0).bind fun t234 => (some (t233 == t234)))) else (none)))) else (none)))) else (none)))) else (none)))) else (none)))) else (none)))) else (none)) = some r := H
                have A24 := Aside0.mk A240
                clear A240
                by_cases c25 : t219 = t220
                · rw [if_pos c25] at H
                  have c25b0 : (t219 == t220) = true := beq_iff_eq.mpr c25
                  have c25b1 : (t219 != t220) = false := bne_eq_false_iff_eq.mpr c25
                  clear c25
                  replace H := Option.bind_eq_some_iff.mp H
                  obtain ⟨t221, A260, H⟩ := H
                  replace H : ((madrigalref1_Log2.f k a0).bind fun t222 => (if t221 = t222 then ((fix_Exp2.f k a0).bind fun t223 => ((madrigalref1_Exp2.f k a0).bind fun t224 => (if t223 = t224 then ((fix_Exp2.f k (Go.bits .and .i64 a0 8191)).bind fun t225 => ((madrigalref1_Exp2.f k (Go.bits .and .i64 a0 8191)).bind fun t226 => (if t225 = t226 then ((fix_Sqrt.f k a0).bind fun t227 => ((madrigalref1_Sqrt.f k a0).bind fun t228 => (if t227 = t228 then ((fix_Cos.f k a0).bind fun t229 => ((madrigalref1_Cos.f k a0).bind fun t230 => (if t229 = t230 then ((fix_Sin.f k a0).bind fun t231 => ((madrigalref1_Sin.f k a0).bind fun t232 => (if t231 = t232 then ((fix_Len.f k a0).bind fun t233 => ((madrigalref1_Len.f k a0).bind fun t234 => (some (t233 == t234)))) else (none)))) else (none)))) else (none)))) else (none)))) else (none)))) else (none))) = some r := H
                  have A26 := Aside0.mk A260
                  clear A260
                  replace H := Option.bind_eq_some_iff.mp H
                  obtain ⟨t222, A270, H⟩ := H
                  replace H : (if t221 = t222 then ((fix_Exp2.f k a0).bind fun t223 => ((madrigalref1_Exp2.f k a0).bind fun t224 => (if t223 = t224 then ((fix_Exp2.f k (Go.bits .and .i64 a0 8191)).bind fun t225 => ((madrigalref1_Exp2.f k (Go.bits .and .i64 a0 8191)).bind fun t226 => (if t225 = t226 then ((fix_Sqrt.f k a0).bind fun t227 => ((madrigalref1_Sqrt.f k a0).bind fun t228 => (if t227 = t228 then ((fix_Cos.f k a0).bind fun t229 => ((madrigalref1_Cos.f k a0).bind fun t230 => (if t229 = t230 then ((fix_Sin.f k a0).bind fun t231 => ((madrigalref1_Sin.f k a0).bind fun t232 => (if t231 = t232 then ((fix_Len.f k a0).bind fun t233 => ((madrigalref1_Len.f k a0).bind fun t234 => (some (t233 == t234)))) else (none)))) else (none)))) else (none)))) else (none)))) else (none)))) else (none)) = some r := H
                  have A27 := Aside0.mk A270
                  clear A270
                  by_cases c28 : t221 = t222
                  · rw [if_pos c28] at H
                    have c28b0 : (t221 == t222) = true := beq_iff_eq.mpr c28
                    have c28b1 : (t221 != t222) = false := bne_eq_false_iff_eq.mpr c28
                    clear c28
                    replace H := Option.bind_eq_some_iff.mp H
                    obtain ⟨t223, A290, H⟩ := H
                    replace H : ((madrigalref1_Exp2.f k a0).bind fun t224 => (if t223 = t224 then ((fix_Exp2.f k (Go.bits .and .i64 a0 8191)).bind fun t225 => ((madrigalref1_Exp2.f k (Go.bits .and .i64 a0 8191)).bind fun t226 => (if t225 = t226 then ((fix_Sqrt.f k a0).bind fun t227 => ((madrigalref1_Sqrt.f k a0).bind fun t228 => (if t227 = t228 then ((fix_Cos.f k a0).bind fun t229 => ((madrigalref1_Cos.f k a0).bind fun t230 => (if t229 = t230 then ((fix_Sin.f k a0).bind fun t231 => ((madrigalref1_Sin.f k a0).bind fun t232 => (if t231 = t232 then ((fix_Len.f k a0).bind fun t233 => ((madrigalref1_Len.f k a0).bind fun t234 => (some (t233 == t234)))) else (none)))) else (none)))) else (none)))) else (none)))) else (none))) = some r := H
                    have A29 := Aside0.mk A290
                    clear A290
                    replace H := Option.bind_eq_some_iff.mp H
                    obtain ⟨t224, A300, H⟩ := H
                    replace H : (if t223 = t224 then ((fix_Exp2.f k (Go.bits .and .i64 a0 8191)).bind fun t225 => ((madrigalref1_Exp2.f k (Go.bits .and .i64 a0 8191)).bind fun t226 => (if t225 = t226 then ((fix_Sqrt.f k a0).bind fun t227 => ((madrigalref1_Sqrt.f k a0).bind fun t228 => (if t227 = t228 then ((fix_Cos.f k a0).bind fun t229 => ((madrigalref1_Cos.f k a0).bind fun t230 => (if t229 = t230 then ((fix_Sin.f k a0).bind fun t231 => ((madrigalref1_Sin.f k a0).bind fun t232 => (if t231 = t232 then ((fix_Len.f k a0).bind fun t233 => ((madrigalref1_Len.f k a0).bind fun t234 => (some (t233 == t234)))) else (none)))) else (none)))) else (none)))) else (none)))) else (none)) = some r := H
                    have A30 := Aside0.mk A300
                    clear A300
                    by_cases c31 : t223 = t224
                    · rw [if_pos c31] at H
                      have c31b0 : (t223 == t224) = true := beq_iff_eq.mpr c31
                      have c31b1 : (t223 != t224) = false := bne_eq_false_iff_eq.mpr c31
                      clear c31
                      replace H := Option.bind_eq_some_iff.mp H
                      obtain ⟨t225, A320, H⟩ := H
                      replace H : ((madrigalref1_Exp2.f k (Go.bits .and .i64 a0 8191)).bind fun t226 => (if t225 = t226 then ((fix_Sqrt.f k a0).bind fun t227 => ((madrigalref1_Sqrt.f k a0).bind fun t228 => (if t227 = t228 then ((fix_Cos.f k a0).bind fun t229 => ((madrigalref1_Cos.f k a0).bind fun t230 => (if t229 = t230 then ((fix_Sin.f k a0).bind fun t231 => ((madrigalref1_Sin.f k a0).bind fun t232 => (if t231 = t232 then ((fix_Len.f k a0).bind fun t233 => ((madrigalref1_Len.f k a0).bind fun t234 => (some (t233 == t234)))) else (none)))) else (none)))) else (none)))) else (none))) = some r := H
                      have A32 := Aside0.mk A320
                      clear A320
                      replace H := Option.bind_eq_some_iff.mp H
                      obtain ⟨t226, A330, H⟩ := H
                      replace H : (if t225 = t226 then ((fix_Sqrt.f k a0).bind fun t227 => ((madrigalref1_Sqrt.f k a0).bind fun t228 => (if t227 = t228 then ((fix_Cos.f k a0).bind fun t229 => ((madrigalref1_Cos.f k a0).bind fun t230 => (if t229 = t230 then ((fix_Sin.f k a0).bind fun t231 => ((madrigalref1_Sin.f k a0).bind fun t232 => (if t231 = t232 then ((fix_Len.f k a0).bind fun t233 => ((madrigalref1_Len.f k a0).bind fun t234 => (some (t233 == t234)))) else (none)))) else (none)))) else (none)))) else (none)) = some r := H
                      have A33 := Aside0.mk A330
                      clear A330
                      by_cases c34 : t225 = t226
                      · rw [if_pos c34] at H
                        have c34b0 : (t225 == t226) = true := beq_iff_eq.mpr c34
                        have c34b1 : (t225 != t226) = false := bne_eq_false_iff_eq.mpr c34
                        clear c34
                        replace H := Option.bind_eq_some_iff.mp H
                        obtain ⟨t227, A350, H⟩ := H
                        replace H : ((madrigalref1_Sqrt.f k a0).bind fun t228 => (if t227 = t228 then ((fix_Cos.f k a0).bind fun t229 => ((madrigalref1_Cos.f k a0).bind fun t230 => (if t229 = t230 then ((fix_Sin.f k a0).bind fun t231 => ((madrigalref1_Sin.f k a0).bind fun t232 => (if t231 = t232 then ((fix_Len.f k a0).bind fun t233 => ((madrigalref1_Len.f k a0).bind fun t234 => (some (t233 == t234)))) else (none)))) else (none)))) else (none))) = some r := H
                        have A35 := Aside0.mk A350
                        clear A350
                        replace H := Option.bind_eq_some_iff.mp H
                        obtain ⟨t228, A360, H⟩ := H
                        replace H : (if t227 = t228 then ((fix_Cos.f k a0).bind fun t229 => ((madrigalref1_Cos.f k a0).bind fun t230 => (if t229 = t230 then ((fix_Sin.f k a0).bind fun t231 => ((madrigalref1_Sin.f k a0).bind fun t232 => (if t231 = t232 then ((fix_Len.f k a0).bind fun t233 => ((madrigalref1_Len.f k a0).bind fun t234 => (some (t233 == t234)))) else (none)))) else (none)))) else (none)) = some r := H
                        have A36 := Aside0.mk A360
                        clear A360
                        by_cases c37 : t227 = t228
                        · rw [if_pos c37] at H
                          have c37b0 : (t227 == t228) = true := beq_iff_eq.mpr c37
                          have c37b1 : (t227 != t228) = false := bne_eq_false_iff_eq.mpr c37
                          clear c37
                          replace H := Option.bind_eq_some_iff.mp H
                          obtain ⟨t229, A380, H⟩ := H
                          replace H : ((madrigalref1_Cos.f k a0).bind fun t230 => (if t229 = t230 then ((fix_Sin.f k a0).bind fun t231 => ((madrigalref1_Sin.f k a0).bind fun t232 => (if t231 = t232 then ((fix_Len.f k a0).bind fun t233 => ((madrigalref1_Len.f k a0).bind fun t234 => (some (t233 == t234)))) else (none)))) else (none))) = some r := H
                          have A38 := Aside0.mk A380
                          clear A380
                          replace H := Option.bind_eq_some_iff.mp H
                          obtain ⟨t230, A390, H⟩ := H
                          replace H : (if t229 = t230 then ((fix_Sin.f k a0).bind fun t231 => ((madrigalref1_Sin.f k a0).bind fun t232 => (if t231 = t232 then ((fix_Len.f k a0).bind fun t233 => ((madrigalref1_Len.f k a0).bind fun t234 => (some (t233 == t234)))) else (none)))) else (none)) = some r := H
                          have A39 := Aside0.mk A390
                          clear A390
                          by_cases c40 : t229 = t230
                          · rw [if_pos c40] at H
                            have c40b0 : (t229 == t230) = true := beq_iff_eq.mpr c40
                            have c40b1 : (t229 != t230) = false := bne_eq_false_iff_eq.mpr c40
                            clear c40
                            replace H := Option.bind_eq_some_iff.mp H
                            obtain ⟨t231, A410, H⟩ := H
                            replace H : ((madrigalref1_Sin.f k a0).bind fun t232 => (if t231 = t232 then ((fix_Len.f k a0).bind fun t233 => ((madrigalref1_Len.f k a0).bind fun t234 => (some (t233 == t234)))) else (none))) = some r := H
                            have A41 := Aside0.mk A410
                            clear A410
                            replace H := Option.bind_eq_some_iff.mp H
                            obtain ⟨t232, A420, H⟩ := H
                            replace H : (if t231 = t232 then ((fix_Len.f k a0).bind fun t233 => ((madrigalref1_Len.f k a0).bind fun t234 => (some (t233 == t234)))) else (none)) = some r := H
                            have A42 := Aside0.mk A420
                            clear A420
                            by_cases c43 : t231 = t232
                            · rw [if_pos c43] at H
                              have c43b0 : (t231 == t232) = true := beq_iff_eq.mpr c43
                              have c43b1 : (t231 != t232) = false := bne_eq_false_iff_eq.mpr c43
                              clear c43
                              replace H := Option.bind_eq_some_iff.mp H
                              obtain ⟨t233, A440, H⟩ := H
                              replace H : ((madrigalref1_Len.f k a0).bind fun t234 => (some (t233 == t234))) = some r := H
                              have A44 := Aside0.mk A440
                              clear A440
                              replace H := Option.bind_eq_some_iff.mp H
                              obtain ⟨t234, A450, H⟩ := H
                              replace H : (some (t233 == t234)) = some r := H
                              have A45 := Aside0.mk A450
                              clear A450
                              obtain rfl := Option.some.inj H
                              go_enter Try.func4, Try.ntmps4
                              (try simp only [List.append_eq, List.cons_append, List.nil_append])
                              go_wp2_with (first | ((with_reducible refine gate_callee (f := 11) rfl ?_); refine goesL_ (some 11) rfl rfl Try.func11 (by kernel_rfl) rfl #[] rfl (by (try simp only [List.map_toArray, List.map_cons, List.map_nil]); first | done | rfl | (simp only [List.length_drop, List.length_take]; rfl)) ?_; (with_reducible refine (madrigallaw1_awake.calls k  true _ A6.out).mono ?_); rintro e w46 ⟨rfl, hb⟩; refine ⟨_, rfl, ?_⟩; have n0_ := Aside0.mk (below_step (by repeat (first | (with_reducible first | exact HB.out | apply below_alloc | apply pw_below_drewN | apply below_drew1) | exact HB.out)) hb); clear HB; have HB := n0_; clear n0_; (try clear hb); (try clear hb2); (try clear hk); (try clear hi); (try clear hge)) | ((with_reducible refine gate_callee (f := 20) rfl ?_); refine goesL_ (some 19) rfl rfl Try.func20 (by kernel_rfl) rfl #[.int .i64 a0, .int .i64 a1, .int .i64 a2] rfl (by (try simp only [List.map_toArray, List.map_cons, List.map_nil]); first | done | rfl | (simp only [List.length_drop, List.length_take]; rfl)) ?_; (with_reducible refine (fix_Clamp.calls k a0 a1 a2 t205 _ A10.out).mono ?_); rintro e w' ⟨rfl, ⟨nd, rfl⟩⟩; refine ⟨_, rfl, ?_⟩) | ((with_reducible refine gate_callee (f := 21) rfl ?_); refine goesL_ (some 23) rfl rfl Try.func21 (by kernel_rfl) rfl #[.int .i64 a0, .int .i64 a1, .int .i64 a2] rfl (by (try simp only [List.map_toArray, List.map_cons, List.map_nil]); first | done | rfl | (simp only [List.length_drop, List.length_take]; rfl)) ?_; (with_reducible refine (madrigalref1_Clamp.calls k a0 a1 a2 t206 _ A11.out).mono ?_); rintro e w' ⟨rfl, ⟨nd, rfl⟩⟩; refine ⟨_, rfl, ?_⟩) | (go_at_call 22; (with_reducible refine (fix_Sat16.calls k a0 t207 _ A13.out).mono ?_); rintro e w' ⟨rfl, ⟨nd, rfl⟩⟩) | (go_at_call 23; (with_reducible refine (madrigalref1_Sat16.calls k a0 t208 _ A14.out).mono ?_); rintro e w' ⟨rfl, ⟨nd, rfl⟩⟩) | (go_at_call 13; (with_reducible refine (fix_Mul.calls k a0 a1 a3 t209 _ A16.out).mono ?_); rintro e w' ⟨rfl, ⟨nd, rfl⟩⟩) | (go_at_call 24; (with_reducible refine (madrigalref1_Mul.calls k a0 a1 a3 t210 _ A17.out).mono ?_); rintro e w' ⟨rfl, ⟨nd, rfl⟩⟩) | (go_at_call 14; (with_reducible refine (fix_Div.calls k a0 a1 a3 t211 _ A19.out).mono ?_); rintro e w' ⟨rfl, ⟨nd, rfl⟩⟩) | (go_at_call 25; (with_reducible refine (madrigalref1_Div.calls k a0 a1 a3 t212 _ A20.out).mono ?_); rintro e w' ⟨rfl, ⟨nd, rfl⟩⟩) | ((with_reducible refine gate_dst (N := 55) rfl ?_); (try (refine gate_guard (by rfl) ?_; dsimp only)); refine Kd.R_lit (Kd.int .i64) _ 2 ?hg (N := 55) ?hd (xs := ([] : List Int)) (inner := []) (ok := fun _ => True) (okp := fun _ => True) ?hr ?hp (fun _ hk => hk) trivial (Below.refl _ _) (Nat.le_refl _) (by simp) ?_; (case hd => rfl); (case hg => rfl); (case hr => first | (go_simp; done) | (go_simp; rfl)); (case hp => exact (Reps.none _ _)); intro v214 w47 ho48 hb hg_ hnew_; clear hg_ hnew_; (first | rw [← Ny213.out] at ho48 | (simp only [Int.reduceToNat] at ho48; rw [← Ny213.out] at ho48)); have n0_ := Aside0.mk (Kd.R_lower ho48 (below_size (by repeat (first | (with_reducible first | exact HB.out | apply below_alloc | apply pw_below_drewN | apply below_drew1) | exact HB.out)))); have n1_ := Aside0.mk (below_step (by repeat (first | (with_reducible first | exact HB.out | apply below_alloc | apply pw_below_drewN | apply below_drew1) | exact HB.out)) hb); clear HB; have HO215 := n0_; have HB := n1_; clear n0_ n1_; clear hb ho48) | ((with_reducible refine gate_builtin (b := .append) (xs := #[.tmp 55, .tmp 56]) rfl ?_); (try (refine gate_guard (by rfl) ?_; dsimp only)); at_builtin; refine Kd.R_append_rows (Kd.int .i64) (w0 := w) w.heap.size rfl (.tmp 55) (.tmp 56) 28 2 (.int .i64 0) 8 rfl Try.underlying28 info2 rfl (by decide) (by omega) v214 y213 l4 _ _ _ (fun _ => True) (fun _ => False) rfl rfl ?aO ?aR (fun _ _ h => h) (fun _ h => h.elim) ?aF ?aB ?aS ?aL ?_; (case aR => repeat (first | exact (Kd.C_below HR4.out HB.out) | (with_reducible refine Kd.C_alloc ?_ _) | (with_reducible refine Kd.C_drewN ?_ _) | (with_reducible refine Kd.C_drew ?_))); (case aB => exact (by repeat (first | (with_reducible first | exact HB.out | apply below_alloc | apply pw_below_drewN | apply below_drew1) | exact HB.out))); (case aF => exact (fun _ _ => trivial)); (case aO => exact (by (with_reducible repeat (first | apply Kd.R_alloc | apply Kd.R_drewN | apply Kd.R_drew)); exact HO215.out)); (case aS => exact (below_size (by repeat (first | (with_reducible first | exact HB.out | apply below_alloc | apply pw_below_drewN | apply below_drew1) | exact HB.out)))); (case aL => have := LMc22.out; omega); intro v217 w49 ho hb hg hat; rw [← Ny216.out] at ho; have n0_ := Aside0.mk (hb); have n1_ := Aside0.mk (ho); clear HB; clear HO215; have HB := n0_; have HO218 := n1_; clear n0_ n1_; clear ho hb hg hat; obtain ⟨Ao50, co50, eo50⟩ := Kd.R_slice HO218.out; subst eo50) | (go_at_call 18; (with_reducible refine (fix_Sum.calls k _ _ y216 t219 _ ?side1 ?side2 A23.out).mono ?_); (case side1 => repeat (first | exact (Kd.R_reads' HO218.out).2.2 | (with_reducible refine Kd.C_alloc ?_ _) | (with_reducible refine Kd.C_drewN ?_ _) | (with_reducible refine Kd.C_drew ?_))); (case side2 => exact (Kd.R_reads' HO218.out).2.1); rintro e w' ⟨rfl, ⟨nd, rfl⟩⟩) | (go_at_call 26; (with_reducible refine (madrigalref1_Sum.calls k _ _ l4 t220 _ ?side1 ?side2 A24.out).mono ?_); (case side1 => repeat (first | exact (Kd.C_below HR4.out (by repeat (first | (with_reducible first | exact HB.out | apply below_alloc | apply pw_below_drewN | apply below_drew1) | exact HB.out))) | (with_reducible refine Kd.C_alloc ?_ _) | (with_reducible refine Kd.C_drewN ?_ _) | (with_reducible refine Kd.C_drew ?_))); (case side2 => exact HC4.out); rintro e w' ⟨rfl, ⟨nd, rfl⟩⟩) | (go_at_call 15; (with_reducible refine (fix_Log2.calls k a0 t221 _ A26.out).mono ?_); rintro e w' ⟨rfl, ⟨nd, rfl⟩⟩) | (go_at_call 27; (with_reducible refine (madrigalref1_Log2.calls k a0 t222 _ A27.out).mono ?_); rintro e w' ⟨rfl, ⟨nd, rfl⟩⟩) | (go_at_call 19; (with_reducible refine (fix_Exp2.calls k a0 t223 _ A29.out).mono ?_); rintro e w' ⟨rfl, ⟨nd, rfl⟩⟩) | (go_at_call 28; (with_reducible refine (madrigalref1_Exp2.calls k a0 t224 _ A30.out).mono ?_); rintro e w51 ⟨rfl, hb⟩; have n0_ := Aside0.mk (Kd.R_below (by (with_reducible repeat (first | apply Kd.R_alloc | apply Kd.R_drewN | apply Kd.R_drew)); exact HO218.out) hb); have n1_ := Aside0.mk (below_step (by repeat (first | (with_reducible first | exact HB.out | apply below_alloc | apply pw_below_drewN | apply below_drew1) | exact HB.out)) hb); clear HO218; clear HB; have HO218 := n0_; have HB := n1_; clear n0_ n1_; (try clear hb); (try clear hb2); (try clear hk); (try clear hi); (try clear hge)) | (go_at_call 19; (with_reducible refine (fix_Exp2.calls k (Go.bits .and .i64 a0 8191) t225 _ A32.out).mono ?_); rintro e w' ⟨rfl, ⟨nd, rfl⟩⟩) | (go_at_call 28; (with_reducible refine (madrigalref1_Exp2.calls k (Go.bits .and .i64 a0 8191) t226 _ A33.out).mono ?_); rintro e w52 ⟨rfl, hb⟩; have n0_ := Aside0.mk (Kd.R_below (by (with_reducible repeat (first | apply Kd.R_alloc | apply Kd.R_drewN | apply Kd.R_drew)); exact HO218.out) hb); have n1_ := Aside0.mk (below_step (by repeat (first | (with_reducible first | exact HB.out | apply below_alloc | apply pw_below_drewN | apply below_drew1) | exact HB.out)) hb); clear HO218; clear HB; have HO218 := n0_; have HB := n1_; clear n0_ n1_; (try clear hb); (try clear hb2); (try clear hk); (try clear hi); (try clear hge)) | (go_at_call 16; (with_reducible refine (fix_Sqrt.calls k a0 t227 _ A35.out).mono ?_); rintro e w' ⟨rfl, ⟨nd, rfl⟩⟩) | (go_at_call 29; (with_reducible refine (madrigalref1_Sqrt.calls k a0 t228 _ A36.out).mono ?_); rintro e w' ⟨rfl, ⟨nd, rfl⟩⟩) | (go_at_call 12; (with_reducible refine (fix_Cos.calls k a0 t229 _ A38.out).mono ?_); rintro e w53 ⟨rfl, hb⟩; have n0_ := Aside0.mk (Kd.R_below (by (with_reducible repeat (first | apply Kd.R_alloc | apply Kd.R_drewN | apply Kd.R_drew)); exact HO218.out) hb); have n1_ := Aside0.mk (below_step (by repeat (first | (with_reducible first | exact HB.out | apply below_alloc | apply pw_below_drewN | apply below_drew1) | exact HB.out)) hb); clear HO218; clear HB; have HO218 := n0_; have HB := n1_; clear n0_ n1_; (try clear hb); (try clear hb2); (try clear hk); (try clear hi); (try clear hge)) | (go_at_call 30; (with_reducible refine (madrigalref1_Cos.calls k a0 t230 _ A39.out).mono ?_); rintro e w54 ⟨rfl, hb⟩; have n0_ := Aside0.mk (Kd.R_below (by (with_reducible repeat (first | apply Kd.R_alloc | apply Kd.R_drewN | apply Kd.R_drew)); exact HO218.out) hb); have n1_ := Aside0.mk (below_step (by repeat (first | (with_reducible first | exact HB.out | apply below_alloc | apply pw_below_drewN | apply below_drew1) | exact HB.out)) hb); clear HO218; clear HB; have HO218 := n0_; have HB := n1_; clear n0_ n1_; (try clear hb); (try clear hb2); (try clear hk); (try clear hi); (try clear hge)) | (go_at_call 31; (with_reducible refine (fix_Sin.calls k a0 t231 _ A41.out).mono ?_); rintro e w55 ⟨rfl, hb⟩; have n0_ := Aside0.mk (Kd.R_below (by (with_reducible repeat (first | apply Kd.R_alloc | apply Kd.R_drewN | apply Kd.R_drew)); exact HO218.out) hb); have n1_ := Aside0.mk (below_step (by repeat (first | (with_reducible first | exact HB.out | apply below_alloc | apply pw_below_drewN | apply below_drew1) | exact HB.out)) hb); clear HO218; clear HB; have HO218 := n0_; have HB := n1_; clear n0_ n1_; (try clear hb); (try clear hb2); (try clear hk); (try clear hi); (try clear hge)) | (go_at_call 32; (with_reducible refine (madrigalref1_Sin.calls k a0 t232 _ A42.out).mono ?_); rintro e w56 ⟨rfl, hb⟩; have n0_ := Aside0.mk (Kd.R_below (by (with_reducible repeat (first | apply Kd.R_alloc | apply Kd.R_drewN | apply Kd.R_drew)); exact HO218.out) hb); have n1_ := Aside0.mk (below_step (by repeat (first | (with_reducible first | exact HB.out | apply below_alloc | apply pw_below_drewN | apply below_drew1) | exact HB.out)) hb); clear HO218; clear HB; have HO218 := n0_; have HB := n1_; clear n0_ n1_; (try clear hb); (try clear hb2); (try clear hk); (try clear hi); (try clear hge)) | (go_at_call 17; (with_reducible refine (fix_Len.calls k a0 t233 _ A44.out).mono ?_); rintro e w' ⟨rfl, ⟨nd, rfl⟩⟩) | (go_at_call 33; (with_reducible refine (madrigalref1_Len.calls k a0 t234 _ A45.out).mono ?_); rintro e w' ⟨rfl, ⟨nd, rfl⟩⟩))
                              go_ret
                              exact ⟨by first | rfl | (simp [errW_none, errW_some] <;> rfl) | (simp [*, errW_none, errW_some] <;> rfl), by repeat (first | (with_reducible first | exact HB.out | apply below_alloc | apply pw_below_drewN | apply below_drew1) | exact HB.out)⟩
                            · rw [if_neg c43] at H
                              exact absurd H (by simp)
                          · rw [if_neg c40] at H
                            exact absurd H (by simp)
                        · rw [if_neg c37] at H
                          exact absurd H (by simp)
                      · rw [if_neg c34] at H
                        exact absurd H (by simp)
                    · rw [if_neg c31] at H
                      exact absurd H (by simp)
                  · rw [if_neg c28] at H
                    exact absurd H (by simp)
                · rw [if_neg c25] at H
                  exact absurd H (by simp)
              · rw [if_neg c22] at H
                exact absurd H (by simp)
            · rw [if_neg c21] at H
              exact absurd H (by simp)
          · rw [if_neg c18] at H
            exact absurd H (by simp)
        · rw [if_neg c15] at H
          exact absurd H (by simp)
      · rw [if_neg c12] at H
        exact absurd H (by simp)
  · replace c7 := Bool.eq_false_iff.mpr c7
    subst c7
    have H1 : (none) = some r := by rw [if_neg (show ¬ (false = true) by decide)] at H; exact H
    clear H
    have H := H1
    clear H1
    exact absurd H (by simp)

/-- THE ONE PURE STATEMENT of madrigallaw1_FixSays. -/
def madrigallaw1_FixSays.Pure : Prop := ∀ (a0 : Int) (a1 : Int) (a2 : Int) (a3 : Int) (l4 : List Int), (Lit.int .i64 a0).wf = true → (Lit.int .i64 a1).wf = true → (Lit.int .i64 a2).wf = true → (Lit.int .i64 a3).wf = true → l4.length ≤ maxLen → l4.length * 8 ≤ 140737488351232 → (∀ x ∈ l4, (Lit.int .i64 x).wf = true) → ∃ k, madrigallaw1_FixSays.f k a0 a1 a2 a3 l4 = some true
theorem madrigallaw1_FixSays.walk (P : madrigallaw1_FixSays.Pure) (a0 : Int) (a1 : Int) (a2 : Int) (a3 : Int) (a4 : Option Addr) (len4 cap4 : Nat) (z4 : List Int) (w : World) (w0 : (Lit.int .i64 a0).wf = true) (w1 : (Lit.int .i64 a1).wf = true) (w2 : (Lit.int .i64 a2).wf = true) (w3 : (Lit.int .i64 a3).wf = true) (w4 : (a4 = none ∧ len4 = 0 ∧ cap4 = 0 ∧ z4 = []) ∨ ∃ x, a4 = some x ∧ len4 ≤ cap4 ∧ cap4 ≤ maxLen ∧ z4.length = cap4 ∧ (∀ i, i < z4.length → w.cell? (x.add i) = some (.int .i64 (z4.getD i 0))) ∧ ∀ n ∈ z4, (Lit.int .i64 n).wf = true) (y4 : len4 * 8 ≤ 140737488351232) :
    Calls Try.prog 4 #[.int .i64 a0, .int .i64 a1, .int .i64 a2, .int .i64 a3, .slice a4 len4 cap4] w fun e w' => e = .returned (.bool true) ∧ Below w.heap.size w w' := by
  obtain ⟨l4, rfl, hr4, hm4, hw4, hc4⟩ := ReadsInt.ofRowC w4
  obtain ⟨k, h⟩ := P a0 a1 a2 a3 l4 w0 w1 w2 w3 hm4 y4 hw4
  refine (madrigallaw1_FixSays.calls k a0 a1 a2 a3 _ _ l4 true w (Kd.C_of_reads (d := (0 : Int)) (h1 := fun _ => rfl) hr4) hc4 h).mono ?_
  rintro e w' ⟨rfl, hd⟩
  exact ⟨rfl, hd⟩

end Go.Proofs.Ytlhdoopmlpnhlaa.P
