/- The machine side of the laws of one chapter, without conditions: each call of a Go function comes to what the Lean function of its name answers. Written for this claim by a program of the prover. -/
import Derived.Test.YtlhdoopmlpnhlaaPx0
import Derived.Test.YtlhdoopmlpnhlaaPx15
import Derived.Test.YtlhdoopmlpnhlaaPx16
namespace Go.Proofs.Ytlhdoopmlpnhlaa.P
open Go.RowKit Go.Proofs.YtlhdoopmlpnhlaaW.PrintWords Go.Proofs.YtlhdoopmlpnhlaaW.PrintLast Go.Proofs.YtlhdoopmlpnhlaaW.PrintMore
attribute [local go_sem] max2_int min2_int max_two min_two max_three min_three max_four min_four   -- for this text's walks alone
set_option linter.unusedVariables false
set_option linter.unusedSimpArgs false

/-! ### madrigalref1_Exp2: function 28 -/
def madrigalref1_Exp2.l0 : Nat → Int → List Int → Int → Int → Option (Int)
  | 0, _, _, _, _ => none
  | k + 1, x0, x3, x4, x5 => if x5 < 8 then (if 0 ≤ (IntKind.u64.wrap (wrap64 (7 - x5))) then (if (Go.bits .and .i64 (shr .i64 x0 (IntKind.u64.wrap (wrap64 (7 - x5)))) 1) = 1 then (if 0 ≤ x5 then (if x5 < (x3.length : Int) then ((madrigalref1_Mul.f k x4 (rd x3 x5) 30).bind fun t182 => (madrigalref1_Exp2.l0 k x0 x3 t182 (wrap64 (x5 + 1)))) else (none)) else (none)) else (madrigalref1_Exp2.l0 k x0 x3 x4 (wrap64 (x5 + 1)))) else (none)) else ((madrigalref1_Mul.f k x4 1 (wrap64 (30 - (wrap64 (Int.tdiv x0 256))))).bind fun t183 => (some t183))
def madrigalref1_Exp2.f (k : Nat) (a0 : Int) : Option (Int) := (madrigalref1_Clamp.f k a0 0 7935).bind fun t177 => (madrigalref1_Exp2.l0 k t177 (([1518500250, 1276901417, 1170923762, 1121280436, 1097253708, 1085434106, 1079572136, 1076653033] : List Int)) 1073741824 0)
theorem madrigalref1_Exp2.mono_l : ∀ k, (∀ y0 y1 y2 y3, LeO (madrigalref1_Exp2.l0 k y0 y1 y2 y3) (madrigalref1_Exp2.l0 (k + 1) y0 y1 y2 y3))
  | 0 => fun _ _ _ _ r h => by simp [madrigalref1_Exp2.l0] at h
  | k + 1 => by
    have ih0 := madrigalref1_Exp2.mono_l k
    · intro y0 y1 y2 y3
      unfold madrigalref1_Exp2.l0
      repeat' first
      | (with_reducible exact ih0 _ _ _ _)
      | (with_reducible exact madrigalref1_Clamp.mono _ _ _ _)
      | (with_reducible exact madrigalref1_Mul.mono _ _ _ _)
      | (with_reducible exact LeO.refl _)
      | (with_reducible exact LeO.none _)
      | (with_reducible refine LeO.ite ?_ ?_)
      | (with_reducible refine LeO.bind ?_ (fun _ => ?_))
      | exact ih0 _ _ _ _
      | exact madrigalref1_Clamp.mono _ _ _ _
      | exact madrigalref1_Mul.mono _ _ _ _
      | exact LeO.none _
      | refine LeO.ite ?_ ?_
      | refine LeO.bind ?_ (fun _ => ?_)
theorem madrigalref1_Exp2.mono : ∀ a0 k, LeO (madrigalref1_Exp2.f k a0) (madrigalref1_Exp2.f (k + 1) a0) := by
  intro a0 k
  have ih0 := madrigalref1_Exp2.mono_l k
  unfold madrigalref1_Exp2.f
  repeat' first
      | (with_reducible exact ih0 _ _ _ _)
      | (with_reducible exact madrigalref1_Clamp.mono _ _ _ _)
      | (with_reducible exact madrigalref1_Mul.mono _ _ _ _)
      | (with_reducible exact LeO.refl _)
      | (with_reducible exact LeO.none _)
      | (with_reducible refine LeO.ite ?_ ?_)
      | (with_reducible refine LeO.bind ?_ (fun _ => ?_))
      | exact ih0 _ _ _ _
      | exact madrigalref1_Clamp.mono _ _ _ _
      | exact madrigalref1_Mul.mono _ _ _ _
      | exact LeO.none _
      | refine LeO.ite ?_ ?_
      | refine LeO.bind ?_ (fun _ => ?_)
set_option maxHeartbeats 8000000 in
set_option maxRecDepth 100000 in
theorem madrigalref1_Exp2.calls (k : Nat) (a0 : Int) (r : Int) (w : World) (h : madrigalref1_Exp2.f k a0 = some r) :
    Calls Try.prog 28 #[.int .i64 a0] w fun e w' => e = .returned (.int .i64 r) ∧ Below w.heap.size w w' := by
  have HB := Aside0.mk (Below.refl w.heap.size w)
  have H : ((madrigalref1_Clamp.f k a0 0 7935).bind fun t177 => (madrigalref1_Exp2.l0 k t177 (([1518500250, 1276901417, 1170923762, 1121280436, 1097253708, 1085434106, 1079572136, 1076653033] : List Int)) 1073741824 0)) = some r := h
  clear h
  replace H := Option.bind_eq_some_iff.mp H
  obtain ⟨t177, A20, H⟩ := H
  replace H : (madrigalref1_Exp2.l0 k t177 (([1518500250, 1276901417, 1170923762, 1121280436, 1097253708, 1085434106, 1079572136, 1076653033] : List Int)) 1073741824 0) = some r := H
  have A2 := Aside0.mk A20
  clear A20
  obtain ⟨y178, hy178⟩ : ∃ y_ : List Int, y_ = (([1518500250, 1276901417, 1170923762, 1121280436, 1097253708, 1085434106, 1079572136, 1076653033] : List Int)) := ⟨_, rfl⟩
  replace H : (madrigalref1_Exp2.l0 k t177 y178 1073741824 0) = some r := by first | (rw [hy178]; with_reducible exact H) | (have H2_ := (Option.bind_some _ _).symm.trans H; rw [hy178]; with_reducible exact H2_) | (have H2_ := (Option.bind_some _ _).symm.trans H; with_reducible exact H2_) | with_reducible exact H | (rw [hy178]; exact H) | exact H
  have Ny178 := Aside0.mk hy178
  clear hy178
  have H' := Aside0.mk H
  clear H
  go_enter Try.func28, Try.ntmps28
  go_wp2_with (first | ((with_reducible refine gate_callee (f := 21) rfl ?_); refine goesL_ (some 7) rfl rfl Try.func21 (by kernel_rfl) rfl #[.int .i64 a0, .int .i64 0, .int .i64 7935] rfl (by (try simp only [List.map_toArray, List.map_cons, List.map_nil]); first | done | rfl | (simp only [List.length_drop, List.length_take]; rfl)) ?_; (with_reducible refine (madrigalref1_Clamp.calls k a0 0 7935 t177 _ A2.out).mono ?_); rintro e w' ⟨rfl, ⟨nd, rfl⟩⟩; refine ⟨_, rfl, ?_⟩) | ((with_reducible refine gate_dst (N := 8) rfl ?_); refine Kd.R_lit (Kd.int .i64) _ 2 ?hg (N := 8) ?hd (xs := ([1518500250, 1276901417, 1170923762, 1121280436, 1097253708, 1085434106, 1079572136, 1076653033] : List Int)) (inner := [.int .i64 1518500250, .int .i64 1276901417, .int .i64 1170923762, .int .i64 1121280436, .int .i64 1097253708, .int .i64 1085434106, .int .i64 1079572136, .int .i64 1076653033]) (ok := fun _ => True) (okp := fun _ => True) ?hr ?hp (fun _ hk => hk) trivial (Below.refl _ _) (Nat.le_refl _) (by simp) ?_; (case hd => rfl); (case hg => rfl); (case hr => first | (go_simp; done) | (go_simp; rfl)); (case hp => exact (Reps.one (show Kd.M (Kd.int .i64) _ _ _ 1518500250 [.int .i64 1518500250] from rfl) (Reps.one (show Kd.M (Kd.int .i64) _ _ _ 1276901417 [.int .i64 1276901417] from rfl) (Reps.one (show Kd.M (Kd.int .i64) _ _ _ 1170923762 [.int .i64 1170923762] from rfl) (Reps.one (show Kd.M (Kd.int .i64) _ _ _ 1121280436 [.int .i64 1121280436] from rfl) (Reps.one (show Kd.M (Kd.int .i64) _ _ _ 1097253708 [.int .i64 1097253708] from rfl) (Reps.one (show Kd.M (Kd.int .i64) _ _ _ 1085434106 [.int .i64 1085434106] from rfl) (Reps.one (show Kd.M (Kd.int .i64) _ _ _ 1079572136 [.int .i64 1079572136] from rfl) (Reps.one (show Kd.M (Kd.int .i64) _ _ _ 1076653033 [.int .i64 1076653033] from rfl) (Reps.none _ _)))))))))); intro v179 w3 ho4 hb hg_ hnew_; clear hg_ hnew_; (first | rw [← Ny178.out] at ho4 | (simp only [Int.reduceToNat] at ho4; rw [← Ny178.out] at ho4)); have n0_ := Aside0.mk (Kd.R_lower ho4 (below_size (by repeat (first | (with_reducible first | exact HB.out | apply below_alloc | apply pw_below_drewN | apply below_drew1) | exact HB.out)))); have n1_ := Aside0.mk (below_step (by repeat (first | (with_reducible first | exact HB.out | apply below_alloc | apply pw_below_drewN | apply below_drew1) | exact HB.out)) hb); clear HB; have HO180 := n0_; have HB := n1_; clear n0_ n1_; clear hb ho4))
  go_loopg [4, 5] k (fun kq v4 v5 w' => ∃ (x4_1 : Int) (x5_1 : Int), v4 = .int .i64 x4_1 ∧ v5 = .int .i64 x5_1 ∧ Aside0 (madrigalref1_Exp2.l0 kq t177 y178 x4_1 x5_1 = some r) ∧ Aside0 (kq ≤ k) ∧ Aside0 (Kd.R (Kd.int .i64) 2 w' w.heap.size (fun _ => True) v179 y178) ∧ Aside0 (Below w.heap.size w w'))
  case atStart => exact ⟨(1073741824), (0), (by first | rfl | (simp; done) | (simp [*]; done)), (by first | rfl | (simp; done) | (simp [*]; done)), H', ⟨Nat.le_refl _⟩, ⟨by (with_reducible repeat (first | apply Kd.R_alloc | apply Kd.R_drewN | apply Kd.R_drew)); exact HO180.out⟩, ⟨by repeat (first | (with_reducible first | exact HB.out | apply below_alloc | apply pw_below_drewN | apply below_drew1) | exact HB.out)⟩⟩
  case round =>
    clear H'
    try clear c2
    try clear p2
    obtain ⟨x4_1, x5_1, rfl, rfl, HA, HK1, HO_3, HB⟩ := hrel
    (try simp only [i64_w, i32_w])
    cases gk with
    | zero => exact absurd HA.out (by simp [madrigalref1_Exp2.l0])
    | succ k1 =>
      have H := HA.out
      clear HA
      simp only [madrigalref1_Exp2.l0] at H
      by_cases c5 : x5_1 < 8
      · rw [if_pos c5] at H
        have c5b0 : decide (x5_1 < 8) = true := decide_eq_true c5
        clear c5
        obtain ⟨ji6, hji6⟩ : ∃ j_ : Int, (IntKind.u64.wrap (wrap64 (7 - x5_1))) = j_ := ⟨_, rfl⟩
        replace H : (if 0 ≤ (ji6) then (if (Go.bits .and .i64 (shr .i64 t177 (ji6)) 1) = 1 then (if 0 ≤ x5_1 then (if x5_1 < (y178.length : Int) then ((madrigalref1_Mul.f k1 x4_1 (rd y178 x5_1) 30).bind fun t182 => (madrigalref1_Exp2.l0 k1 t177 y178 t182 (wrap64 (x5_1 + 1)))) else (none)) else (none)) else (madrigalref1_Exp2.l0 k1 t177 y178 x4_1 (wrap64 (x5_1 + 1)))) else (none)) = some r := by first | (rw [hji6] at H; exact H) | (simp only [hji6] at H ⊢; exact H)
        by_cases c7 : 0 ≤ (ji6)
        · rw [if_pos c7] at H
          have c7b0 := eq_true c7
          have c7b1 : decide (0 ≤ (ji6)) = true := decide_eq_true c7
          clear c7
          obtain ⟨ji8, hji8⟩ : ∃ j_ : Int, (shr .i64 t177 (ji6)) = j_ := ⟨_, rfl⟩
          replace H : (if (Go.bits .and .i64 (ji8) 1) = 1 then (if 0 ≤ x5_1 then (if x5_1 < (y178.length : Int) then ((madrigalref1_Mul.f k1 x4_1 (rd y178 x5_1) 30).bind fun t182 => (madrigalref1_Exp2.l0 k1 t177 y178 t182 (wrap64 (x5_1 + 1)))) else (none)) else (none)) else (madrigalref1_Exp2.l0 k1 t177 y178 x4_1 (wrap64 (x5_1 + 1)))) = some r := by first | (rw [hji8] at H; exact H) | (simp only [hji8] at H ⊢; exact H)
          have hji8_ : (t177 / 2 ^ min (ji6).toNat 64) = ji8 := hji8
          have hji8z : (ji6) ≤ 64 → (t177 / 2 ^ (ji6).toNat) = ji8 := shr_small hji8
          by_cases c9 : (Go.bits .and .i64 (ji8) 1) = 1
          · rw [if_pos c9] at H
            have c9b0 : ((Go.bits .and .i64 (ji8) 1) == 1) = true := beq_iff_eq.mpr c9
            have c9b1 : ((Go.bits .and .i64 (ji8) 1) != 1) = false := bne_eq_false_iff_eq.mpr c9
            clear c9
            by_cases c10 : 0 ≤ x5_1
            · rw [if_pos c10] at H
              have c10b0 : decide (0 ≤ x5_1) = true := decide_eq_true c10
              clear c10
              by_cases c11 : x5_1 < (y178.length : Int)
              · rw [if_pos c11] at H
                have c11b0 : decide (x5_1 < (y178.length : Int)) = true := decide_eq_true c11
                clear c11
                replace H := Option.bind_eq_some_iff.mp H
                obtain ⟨t182, A120, H⟩ := H
                replace H : (madrigalref1_Exp2.l0 k1 t177 y178 t182 (wrap64 (x5_1 + 1))) = some r := H
                have A12 := Aside0.mk A120
                clear A120
                have H' := Aside0.mk H
                clear H
                obtain ⟨Ao13, co13, eo13⟩ := Kd.R_slice HO_3.out
                subst eo13
                have p181 : 0 ≤ (x5_1 : Int) := of_decide_eq_true (by first | (with_reducible assumption) | assumption)
                have q181 : x5_1 < (y178.length : Int) := of_decide_eq_true (by first | (with_reducible assumption) | assumption)
                obtain ⟨ad181, e181, hx181_0⟩ := Kd.at_int (Kd.R_reads' HO_3.out).2.2 x5_1 p181 q181
                cases e181
                replace p181 := eq_true p181
                replace q181 := eq_true q181
                go_wp2_with (first | ((with_reducible refine gate_callee (f := 24) rfl ?_); refine goesL_ (some 25) rfl rfl Try.func24 (by kernel_rfl) rfl #[.int .i64 x4_1, .int .i64 (rd y178 x5_1), .int .i64 30] rfl (by (try simp only [List.map_toArray, List.map_cons, List.map_nil]); first | done | rfl | (simp only [List.length_drop, List.length_take]; rfl)) ?_; (with_reducible refine (madrigalref1_Mul.calls k1 x4_1 (rd y178 x5_1) 30 t182 _ A12.out).mono ?_); rintro e w' ⟨rfl, ⟨nd, rfl⟩⟩; refine ⟨_, rfl, ?_⟩))
                go_roundg k1
                case measure => have := HK1.out; omega
                case rel => exact ⟨(t182), (wrap64 (x5_1 + 1)), (by first | rfl | (simp; done) | (simp [*]; done)), (by first | rfl | (simp; done) | (simp [*]; done)), H', ⟨by have := HK1.out; omega⟩, ⟨by (with_reducible repeat (first | apply Kd.R_alloc | apply Kd.R_drewN | apply Kd.R_drew)); exact HO_3.out⟩, ⟨by repeat (first | (with_reducible first | exact HB.out | apply below_alloc | apply pw_below_drewN | apply below_drew1) | exact HB.out)⟩⟩
              · rw [if_neg c11] at H
                exact absurd H (by simp)
            · rw [if_neg c10] at H
              exact absurd H (by simp)
          · rw [if_neg c9] at H
            have c9b0 : ((Go.bits .and .i64 (ji8) 1) == 1) = false := beq_eq_false_iff_ne.mpr c9
            have c9b1 : ((Go.bits .and .i64 (ji8) 1) != 1) = true := bne_iff_ne.mpr c9
            have H' := Aside0.mk H
            clear H
            go_wp2
            go_roundg k1
            case measure => have := HK1.out; omega
            case rel => exact ⟨(x4_1), (wrap64 (x5_1 + 1)), (by first | rfl | (simp; done) | (simp [*]; done)), (by first | rfl | (simp; done) | (simp [*]; done)), H', ⟨by have := HK1.out; omega⟩, ⟨by (with_reducible repeat (first | apply Kd.R_alloc | apply Kd.R_drewN | apply Kd.R_drew)); exact HO_3.out⟩, ⟨by repeat (first | (with_reducible first | exact HB.out | apply below_alloc | apply pw_below_drewN | apply below_drew1) | exact HB.out)⟩⟩
        · rw [if_neg c7] at H
          exact absurd H (by simp)
      · rw [if_neg c5] at H
        have c5b0 : decide (x5_1 < 8) = false := decide_eq_false c5
        clear c5
        replace H := Option.bind_eq_some_iff.mp H
        obtain ⟨t183, A140, H⟩ := H
        replace H : (some t183) = some r := H
        have A14 := Aside0.mk A140
        clear A140
        obtain rfl := Option.some.inj H
        go_wp2_with (first | ((with_reducible refine gate_callee (f := 24) rfl ?_); refine goesL_ (some 30) rfl rfl Try.func24 (by kernel_rfl) rfl #[.int .i64 x4_1, .int .i64 1, .int .i64 (wrap64 (30 - (wrap64 (Int.tdiv t177 256))))] rfl (by (try simp only [List.map_toArray, List.map_cons, List.map_nil]); first | done | rfl | (simp only [List.length_drop, List.length_take]; rfl)) ?_; (with_reducible refine (madrigalref1_Mul.calls k1 x4_1 1 (wrap64 (30 - (wrap64 (Int.tdiv t177 256)))) t183 _ A14.out).mono ?_); rintro e w' ⟨rfl, ⟨nd, rfl⟩⟩; refine ⟨_, rfl, ?_⟩))
        go_ret
        exact ⟨by first | rfl | (simp [errW_none, errW_some] <;> rfl) | (simp [*, errW_none, errW_some] <;> rfl), by repeat (first | (with_reducible first | exact HB.out | apply below_alloc | apply pw_below_drewN | apply below_drew1) | exact HB.out)⟩

end Go.Proofs.Ytlhdoopmlpnhlaa.P
