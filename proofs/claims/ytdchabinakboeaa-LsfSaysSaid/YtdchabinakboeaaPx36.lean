/- The machine side of the laws of one chapter, without conditions: each call of a Go function comes to what the Lean function of its name answers. Written for this claim by a program of the prover. -/
import Derived.Test.YtdchabinakboeaaPx0
import Derived.Test.YtdchabinakboeaaPx35
namespace Go.Proofs.Ytdchabinakboeaa.P
open Go.RowKit Go.Proofs.YtdchabinakboeaaW.PrintWords Go.Proofs.YtdchabinakboeaaW.PrintLast Go.Proofs.YtdchabinakboeaaW.PrintMore
attribute [local go_sem] max2_int min2_int max_two min_two max_three min_three max_four min_four   -- for this text's walks alone
set_option linter.unusedVariables false
set_option linter.unusedSimpArgs false

/-! ### madrigalref6_Steady: function 31 -/
mutual
def madrigalref6_Steady.l0 : Nat → List Int → Int → Int → Option (List Int)
  | 0, _, _, _ => none
  | k + 1, x3, x4, x5 => if x5 < (x3.length : Int) then (if 0 ≤ x5 then (if (rd x3 x5) < (wrap64 (x4 + 250)) then ((some (x3.set (x5 : Int).toNat (wrap64 (x4 + 250)) : List Int)).bind fun y437 => (madrigalref6_Steady.l0 k y437 (rd y437 x5) (wrap64 (x5 + 1)))) else (madrigalref6_Steady.l0 k x3 (rd x3 x5) (wrap64 (x5 + 1)))) else (none)) else (madrigalref6_Steady.l1 k x3 32768 (wrap64 ((x3.length : Int) - 1)))
def madrigalref6_Steady.l1 : Nat → List Int → Int → Int → Option (List Int)
  | 0, _, _, _ => none
  | k + 1, x3, x4, x6 => if x6 ≥ 0 then (if 0 ≤ x6 then (if x6 < (x3.length : Int) then (if (rd x3 x6) > (wrap64 (x4 - 250)) then ((some (x3.set (x6 : Int).toNat (wrap64 (x4 - 250)) : List Int)).bind fun y441 => (madrigalref6_Steady.l1 k y441 (rd y441 x6) (wrap64 (x6 - 1)))) else (madrigalref6_Steady.l1 k x3 (rd x3 x6) (wrap64 (x6 - 1)))) else (none)) else (none)) else (some x3)
end
def madrigalref6_Steady.f (k : Nat) (l0 : List Int) : Option (List Int) := if (l0.length : Int) > 64 then (some ([] : List Int)) else ((madrigalref6_clamped.f k l0 0 32768).bind fun t433 => (madrigalref6_Steady.l0 k t433 0 0))
theorem madrigalref6_Steady.mono_l : ∀ k, (∀ y0 y1 y2, LeO (madrigalref6_Steady.l0 k y0 y1 y2) (madrigalref6_Steady.l0 (k + 1) y0 y1 y2)) ∧ (∀ y0 y1 y2, LeO (madrigalref6_Steady.l1 k y0 y1 y2) (madrigalref6_Steady.l1 (k + 1) y0 y1 y2))
  | 0 => ⟨fun _ _ _ r h => by simp [madrigalref6_Steady.l0] at h, fun _ _ _ r h => by simp [madrigalref6_Steady.l1] at h⟩
  | k + 1 => by
    obtain ⟨ih0, ih1⟩ := madrigalref6_Steady.mono_l k
    refine ⟨?_, ?_⟩
    · intro y0 y1 y2
      unfold madrigalref6_Steady.l0
      repeat' first
      | (with_reducible exact ih0 _ _ _)
      | (with_reducible exact ih1 _ _ _)
      | (with_reducible exact madrigalref6_clamped.mono _ _ _ _)
      | (with_reducible exact LeO.refl _)
      | (with_reducible exact LeO.none _)
      | (with_reducible refine LeO.ite ?_ ?_)
      | (with_reducible refine LeO.bind ?_ (fun _ => ?_))
      | exact ih0 _ _ _
      | exact ih1 _ _ _
      | exact madrigalref6_clamped.mono _ _ _ _
      | exact LeO.none _
      | refine LeO.ite ?_ ?_
      | refine LeO.bind ?_ (fun _ => ?_)
    · intro y0 y1 y2
      unfold madrigalref6_Steady.l1
      repeat' first
      | (with_reducible exact ih0 _ _ _)
      | (with_reducible exact ih1 _ _ _)
      | (with_reducible exact madrigalref6_clamped.mono _ _ _ _)
      | (with_reducible exact LeO.refl _)
      | (with_reducible exact LeO.none _)
      | (with_reducible refine LeO.ite ?_ ?_)
      | (with_reducible refine LeO.bind ?_ (fun _ => ?_))
      | exact ih0 _ _ _
      | exact ih1 _ _ _
      | exact madrigalref6_clamped.mono _ _ _ _
      | exact LeO.none _
      | refine LeO.ite ?_ ?_
      | refine LeO.bind ?_ (fun _ => ?_)
theorem madrigalref6_Steady.mono : ∀ a0 k, LeO (madrigalref6_Steady.f k a0) (madrigalref6_Steady.f (k + 1) a0) := by
  intro a0 k
  obtain ⟨ih0, ih1⟩ := madrigalref6_Steady.mono_l k
  unfold madrigalref6_Steady.f
  repeat' first
      | (with_reducible exact ih0 _ _ _)
      | (with_reducible exact ih1 _ _ _)
      | (with_reducible exact madrigalref6_clamped.mono _ _ _ _)
      | (with_reducible exact LeO.refl _)
      | (with_reducible exact LeO.none _)
      | (with_reducible refine LeO.ite ?_ ?_)
      | (with_reducible refine LeO.bind ?_ (fun _ => ?_))
      | exact ih0 _ _ _
      | exact ih1 _ _ _
      | exact madrigalref6_clamped.mono _ _ _ _
      | exact LeO.none _
      | refine LeO.ite ?_ ?_
      | refine LeO.bind ?_ (fun _ => ?_)
set_option maxHeartbeats 8000000 in
set_option maxRecDepth 100000 in
theorem madrigalref6_Steady.calls (k : Nat) (A0 : Option Addr) (c0 : Nat) (l0 : List Int) (r : List Int) (w : World) (hr0 : Kd.C (Kd.int .i64) w A0 l0.length l0) (hc0 : l0.length ≤ c0) (h : madrigalref6_Steady.f k l0 = some r) :
    Calls Try.prog 31 #[.slice A0 l0.length c0] w fun e w' => ∃ v0_ : Value, e = .returned (v0_) ∧ Kd.R (Kd.int .i64) 2 w' w.heap.size (fun _ => True) v0_ r ∧ Below w.heap.size w w' := by
  have HR0 := Aside0.mk hr0
  have HC0 := Aside0.mk hc0
  clear hr0 hc0
  have HB := Aside0.mk (Below.refl w.heap.size w)
  have H : (if (l0.length : Int) > 64 then (some ([] : List Int)) else ((madrigalref6_clamped.f k l0 0 32768).bind fun t433 => (madrigalref6_Steady.l0 k t433 0 0))) = some r := h
  clear h
  by_cases c2 : (l0.length : Int) > 64
  · rw [if_pos c2] at H
    have c2b0 : decide (64 < (l0.length : Int)) = true := decide_eq_true c2
    have c2b1 : decide (64 < l0.length) = true := decide_eq_true (by omega)
    clear c2
    obtain rfl := Option.some.inj H
    go_enter Try.func31, Try.ntmps31
    go_wp2
    go_ret
    exact ⟨_, by first | rfl | (simp [errW_none, errW_some] <;> rfl) | (simp [*, errW_none, errW_some] <;> rfl), by first | exact Kd.R_nil _ _ _ _ _ | exact Kd.N_nil _ _ _ _ _ | exact Kd.V_nil _ _ _ _ _ | exact Kd.Q_nil _ _ _ _ _ | exact Kd.S_nil _ _ _ _ _, by repeat (first | (with_reducible first | exact HB.out | apply below_alloc | apply pw_below_drewN | apply below_drew1) | exact HB.out)⟩
  · rw [if_neg c2] at H
    have c2b0 : decide (64 < (l0.length : Int)) = false := decide_eq_false c2
    have c2b1 : decide (64 < l0.length) = false := decide_eq_false (by omega)
    clear c2
    replace H := Option.bind_eq_some_iff.mp H
    obtain ⟨t433, A30, H⟩ := H
    replace H : (madrigalref6_Steady.l0 k t433 0 0) = some r := H
    have A3 := Aside0.mk A30
    clear A30
    have H' := Aside0.mk H
    clear H
    go_enter Try.func31, Try.ntmps31
    go_wp2_with (first | ((with_reducible refine gate_callee (f := 46) rfl ?_); refine goesL_ (some 11) rfl rfl Try.func46 (by kernel_rfl) rfl #[.slice A0 l0.length c0, .int .i64 0, .int .i64 32768] rfl (by (try simp only [List.map_toArray, List.map_cons, List.map_nil]); first | done | rfl | (simp only [List.length_drop, List.length_take]; rfl)) ?_; (with_reducible refine (madrigalref6_clamped.calls k _ _ l0 0 32768 t433 _ ?side1 ?side2 A3.out).mono ?_); (case side1 => repeat (first | exact HR0.out | (with_reducible refine Kd.C_alloc ?_ _) | (with_reducible refine Kd.C_drewN ?_ _) | (with_reducible refine Kd.C_drew ?_))); (case side2 => exact HC0.out); rintro e w4 ⟨v434, rfl, ho0, hb⟩; refine ⟨_, rfl, ?_⟩; have n0_ := Aside0.mk (Kd.R_lower ho0 (below_size (by repeat (first | (with_reducible first | exact HB.out | apply below_alloc | apply pw_below_drewN | apply below_drew1) | exact HB.out)))); have n1_ := Aside0.mk (below_step (by repeat (first | (with_reducible first | exact HB.out | apply below_alloc | apply pw_below_drewN | apply below_drew1) | exact HB.out)) hb); clear HB; have HO435 := n0_; have HB := n1_; clear n0_ n1_; (try clear hb); (try clear hb2); (try clear hk); (try clear hi); (try clear hge); (try clear ho0)))
    go_loopg [4, 5] k (fun kq v4 v5 w' => ∃ (x3_1 : List Int) (x4_1 : Int) (x5_1 : Int), v4 = .int .i64 x4_1 ∧ v5 = .int .i64 x5_1 ∧ Aside0 (madrigalref6_Steady.l0 kq x3_1 x4_1 x5_1 = some r) ∧ Aside0 (kq ≤ k) ∧ Aside0 (Kd.R (Kd.int .i64) 2 w' w.heap.size (fun _ => True) v434 x3_1) ∧ Aside0 (Below w.heap.size w w'))
    case atStart => exact ⟨(t433), (0), (0), (by first | rfl | (simp; done) | (simp [*]; done)), (by first | rfl | (simp; done) | (simp [*]; done)), H', ⟨Nat.le_refl _⟩, ⟨by (with_reducible repeat (first | apply Kd.R_alloc | apply Kd.R_drewN | apply Kd.R_drew)); exact HO435.out⟩, ⟨by repeat (first | (with_reducible first | exact HB.out | apply below_alloc | apply pw_below_drewN | apply below_drew1) | exact HB.out)⟩⟩
    case round =>
      clear H'
      try clear c2
      try clear c2b0
      try clear c2b1
      try clear p2
      try clear c3
      try clear c4
      obtain ⟨x3_1, x4_1, x5_1, rfl, rfl, HA, HK1, HO_3, HB⟩ := hrel
      (try simp only [i64_w, i32_w])
      cases gk with
      | zero => exact absurd HA.out (by simp [madrigalref6_Steady.l0])
      | succ k1 =>
        have H := HA.out
        clear HA
        simp only [madrigalref6_Steady.l0] at H
        by_cases c5 : x5_1 < (x3_1.length : Int)
        · rw [if_pos c5] at H
          have c5b0 : decide (x5_1 < (x3_1.length : Int)) = true := decide_eq_true c5
          clear c5
          by_cases c6 : 0 ≤ x5_1
          · rw [if_pos c6] at H
            have c6b0 : decide (0 ≤ x5_1) = true := decide_eq_true c6
            clear c6
            by_cases c7 : (rd x3_1 x5_1) < (wrap64 (x4_1 + 250))
            · rw [if_pos c7] at H
              have c7b0 : decide ((rd x3_1 x5_1) < (wrap64 (x4_1 + 250))) = true := decide_eq_true c7
              clear c7
              obtain ⟨y437, hy437⟩ : ∃ y_ : List Int, y_ = (x3_1.set (x5_1 : Int).toNat (wrap64 (x4_1 + 250))) := ⟨_, rfl⟩
              replace H : (madrigalref6_Steady.l0 k1 y437 (rd y437 x5_1) (wrap64 (x5_1 + 1))) = some r := by first | (rw [hy437]; with_reducible exact H) | (have H2_ := (Option.bind_some _ _).symm.trans H; rw [hy437]; with_reducible exact H2_) | (have H2_ := (Option.bind_some _ _).symm.trans H; with_reducible exact H2_) | with_reducible exact H | (rw [hy437]; exact H) | exact H
              have Ny437 := Aside0.mk hy437
              clear hy437
              have H' := Aside0.mk H
              clear H
              obtain ⟨Ao9, co9, eo9⟩ := Kd.R_slice HO_3.out
              subst eo9
              have p436 : 0 ≤ (x5_1 : Int) := of_decide_eq_true (by first | (with_reducible assumption) | assumption)
              have q436 : x5_1 < (x3_1.length : Int) := of_decide_eq_true (by first | (with_reducible assumption) | assumption)
              obtain ⟨ad436, e436, hx436_0⟩ := Kd.at_int (Kd.R_reads' HO_3.out).2.2 x5_1 p436 q436
              cases e436
              replace p436 := eq_true p436
              replace q436 := eq_true q436
              have p8 : 0 ≤ (x5_1 : Int) := of_decide_eq_true (by first | (with_reducible assumption) | assumption)
              have q8 : (x5_1 : Int) < ((x3_1.length : Int) : Int) := of_decide_eq_true (by first | (with_reducible assumption) | assumption)
              obtain ⟨go8, co8, eo8, gb8, gl8, cl8, HG8⟩ := Kd.R_form HO_3.out (by omega)
              (first | cases eo8 | (injection eo8 with ea_ en_ ec_; (first | subst ea_ | (injection ea_ with ea_; subst ea_)); subst ec_; clear en_))
              have GB8 := Aside0.mk gb8
              have GG8 := Aside0.mk HG8
              clear gb8 gl8 HG8
              (first | simp only [add_plain] at hx436_0 | skip)
              obtain ⟨hx8_0, hf8_0⟩ := Kd.R_celln 0 HO_3.out (x5_1 : Int) p8 q8
              replace p8 := eq_true p8
              replace q8 := eq_true q8
              have HP10 := Kd.R_putg HO_3.out (x5_1 : Int) (wrap64 (x4_1 + 250))
              go_wp2_with (first | ((with_reducible refine gate_store (t := 2) (p := 29) rfl ?_); refine store_event (t := 2) (p := 29) (v := ?vo_w11) (w1 := (wr.setCell ⟨go8, (x5_1 : Int).toNat, none⟩ (.int .i64 (wrap64 (x4_1 + 250))))) ?hg ?ho ?hn ?hr ?_; (case ho => rfl); (case hg => rfl); (case hn => rfl); (case hr => first | (go_simp; done) | (go_simp; rfl)); intro w11 hw; have hg : wr.grownBy w11 (some go8) := (by rw [hw]; exact HP10.2); have hp_ : Kd.R (Kd.int .i64) 2 w11 w.heap.size (fun _ => True) (.slice (some ⟨go8, 0, none⟩) x3_1.length co9) y437 := (by rw [hw, Ny437.out]; exact HP10.1); clear HP10; have n0_ := Aside0.mk (hp_); have n1_ := Aside0.mk ((by rw [hw]; exact below_set (HB.out) GB8.out : Below w.heap.size w w11)); clear HO_3; clear HB; have HO_3 := n0_; have HB := n1_; clear n0_ n1_; clear hg hw hp_; have p438 : 0 ≤ (x5_1 : Int) := of_decide_eq_true (by first | (with_reducible assumption) | assumption); have q438 : x5_1 < (y437.length : Int) := (by have h_ : (x5_1 : Int) < ((x3_1.length : Int) : Int) := of_decide_eq_true (by first | (with_reducible assumption) | assumption); first | (have e_ := (Kd.R_reads' HO_3.out).1; omega) | simpa only [Ny437.out, List.length_set] using h_); have ql438 : ((x5_1 : Int) < ((x3_1.length : Int) : Int)) = True := eq_true (of_decide_eq_true (by first | (with_reducible assumption) | assumption)); obtain ⟨ad438, e438, hx438_0⟩ := Kd.at_int (Kd.R_reads' HO_3.out).2.2 x5_1 p438 q438; obtain rfl : (⟨go8, 0, none⟩ : Addr) = ad438 := (by injection e438); (first | simp only [add_plain] at hx438_0 | simp only [add_at] at hx438_0 | simp only [Addr.add, Nat.zero_add] at hx438_0 | skip); replace p438 := eq_true p438; replace q438 := eq_true q438))
              go_roundg k1
              case measure => have := HK1.out; omega
              case rel => exact ⟨(y437), (rd y437 x5_1), (wrap64 (x5_1 + 1)), (by first | rfl | (simp; done) | (simp [*]; done)), (by first | rfl | (simp; done) | (simp [*]; done)), H', ⟨by have := HK1.out; omega⟩, ⟨by (with_reducible repeat (first | apply Kd.R_alloc | apply Kd.R_drewN | apply Kd.R_drew)); exact HO_3.out⟩, ⟨by repeat (first | (with_reducible first | exact HB.out | apply below_alloc | apply pw_below_drewN | apply below_drew1) | exact HB.out)⟩⟩
            · rw [if_neg c7] at H
              have c7b0 : decide ((rd x3_1 x5_1) < (wrap64 (x4_1 + 250))) = false := decide_eq_false c7
              clear c7
              have H' := Aside0.mk H
              clear H
              obtain ⟨Ao12, co12, eo12⟩ := Kd.R_slice HO_3.out
              subst eo12
              have p436 : 0 ≤ (x5_1 : Int) := of_decide_eq_true (by first | (with_reducible assumption) | assumption)
              have q436 : x5_1 < (x3_1.length : Int) := of_decide_eq_true (by first | (with_reducible assumption) | assumption)
              obtain ⟨ad436, e436, hx436_0⟩ := Kd.at_int (Kd.R_reads' HO_3.out).2.2 x5_1 p436 q436
              cases e436
              replace p436 := eq_true p436
              replace q436 := eq_true q436
              have p439 : 0 ≤ (x5_1 : Int) := of_decide_eq_true (by first | (with_reducible assumption) | assumption)
              have q439 : x5_1 < (x3_1.length : Int) := of_decide_eq_true (by first | (with_reducible assumption) | assumption)
              obtain ⟨ad439, e439, hx439_0⟩ := Kd.at_int (Kd.R_reads' HO_3.out).2.2 x5_1 p439 q439
              obtain rfl : ad436 = ad439 := (by injection e439)
              replace p439 := eq_true p439
              replace q439 := eq_true q439
              go_wp2
              go_roundg k1
              case measure => have := HK1.out; omega
              case rel => exact ⟨(x3_1), (rd x3_1 x5_1), (wrap64 (x5_1 + 1)), (by first | rfl | (simp; done) | (simp [*]; done)), (by first | rfl | (simp; done) | (simp [*]; done)), H', ⟨by have := HK1.out; omega⟩, ⟨by (with_reducible repeat (first | apply Kd.R_alloc | apply Kd.R_drewN | apply Kd.R_drew)); exact HO_3.out⟩, ⟨by repeat (first | (with_reducible first | exact HB.out | apply below_alloc | apply pw_below_drewN | apply below_drew1) | exact HB.out)⟩⟩
          · rw [if_neg c6] at H
            exact absurd H (by simp)
        · rw [if_neg c5] at H
          have c5b0 : decide (x5_1 < (x3_1.length : Int)) = false := decide_eq_false c5
          clear c5
          have H' := Aside0.mk H
          clear H
          obtain ⟨Ao13, co13, eo13⟩ := Kd.R_slice HO_3.out
          subst eo13
          go_wp2
          go_loopg [4, 6] k1 (fun kq v4 v6 w' => ∃ (x3_2 : List Int) (x4_2 : Int) (x6_2 : Int), v4 = .int .i64 x4_2 ∧ v6 = .int .i64 x6_2 ∧ Aside0 (madrigalref6_Steady.l1 kq x3_2 x4_2 x6_2 = some r) ∧ Aside0 (kq ≤ k1) ∧ Aside0 (Kd.R (Kd.int .i64) 2 w' w.heap.size (fun _ => True) (.slice Ao13 x3_1.length co13) x3_2) ∧ Aside0 (Below w.heap.size w w'))
          case atStart => exact ⟨(x3_1), (32768), (wrap64 ((x3_1.length : Int) - 1)), (by first | rfl | (simp; done) | (simp [*]; done)), (by first | rfl | (simp; done) | (simp [*]; done)), H', ⟨Nat.le_refl _⟩, ⟨by (with_reducible repeat (first | apply Kd.R_alloc | apply Kd.R_drewN | apply Kd.R_drew)); exact HO_3.out⟩, ⟨by repeat (first | (with_reducible first | exact HB.out | apply below_alloc | apply pw_below_drewN | apply below_drew1) | exact HB.out)⟩⟩
          case round =>
            clear H'
            try clear c2
            try clear c2b0
            try clear c2b1
            try clear p2
            try clear c3
            try clear c4
            try clear p4
            try clear q4
            try clear hx4
            try clear c5
            try clear c5b0
            try clear c6
            try clear c6b0
            try clear p6
            try clear c7
            try clear c7b0
            try clear p8
            try clear q8
            try clear hx8
            try clear hf8
            try clear hx436_0
            try clear hx438_0
            try clear hx439_0
            try clear hx8_0
            try clear p2
            try clear p436
            try clear p438
            try clear p439
            try clear p8
            try clear q436
            try clear q438
            try clear q439
            try clear q8
            obtain ⟨x3_2, x4_2, x6_2, rfl, rfl, HA, HK2, HO_3, HB⟩ := hrel
            (try simp only [i64_w, i32_w])
            have hl3_2 := (Kd.R_reads' HO_3.out).1
            rw [hl3_2] at HO_3
            (try simp only [hl3_2])
            cases gk with
            | zero => exact absurd HA.out (by simp [madrigalref6_Steady.l1])
            | succ k2 =>
              have H := HA.out
              clear HA
              simp only [madrigalref6_Steady.l1] at H
              by_cases c14 : x6_2 ≥ 0
              · rw [if_pos c14] at H
                have c14b0 : decide (0 ≤ x6_2) = true := decide_eq_true c14
                (try (have c14h0 := c14b0; simp only [hl3_2] at c14h0))
                clear c14
                by_cases c15 : 0 ≤ x6_2
                · rw [if_pos c15] at H
                  have c15b0 : decide (0 ≤ x6_2) = true := decide_eq_true c15
                  (try (have c15h0 := c15b0; simp only [hl3_2] at c15h0))
                  clear c15
                  by_cases c16 : x6_2 < (x3_2.length : Int)
                  · rw [if_pos c16] at H
                    have c16b0 : decide (x6_2 < (x3_2.length : Int)) = true := decide_eq_true c16
                    (try (have c16h0 := c16b0; simp only [hl3_2] at c16h0))
                    clear c16
                    by_cases c17 : (rd x3_2 x6_2) > (wrap64 (x4_2 - 250))
                    · rw [if_pos c17] at H
                      have c17b0 : decide ((wrap64 (x4_2 - 250)) < (rd x3_2 x6_2)) = true := decide_eq_true c17
                      (try (have c17h0 := c17b0; simp only [hl3_2] at c17h0))
                      clear c17
                      obtain ⟨y441, hy441⟩ : ∃ y_ : List Int, y_ = (x3_2.set (x6_2 : Int).toNat (wrap64 (x4_2 - 250))) := ⟨_, rfl⟩
                      replace H : (madrigalref6_Steady.l1 k2 y441 (rd y441 x6_2) (wrap64 (x6_2 - 1))) = some r := by first | (rw [hy441]; with_reducible exact H) | (have H2_ := (Option.bind_some _ _).symm.trans H; rw [hy441]; with_reducible exact H2_) | (have H2_ := (Option.bind_some _ _).symm.trans H; with_reducible exact H2_) | with_reducible exact H | (rw [hy441]; exact H) | exact H
                      have Ny441 := Aside0.mk hy441
                      clear hy441
                      have H' := Aside0.mk H
                      clear H
                      have p440 : 0 ≤ (x6_2 : Int) := of_decide_eq_true (by first | (with_reducible assumption) | assumption)
                      have q440 : x6_2 < (x3_2.length : Int) := of_decide_eq_true (by first | (with_reducible assumption) | assumption)
                      obtain ⟨ad440, e440, hx440_0⟩ := Kd.at_int (Kd.R_reads' HO_3.out).2.2 x6_2 p440 q440
                      cases e440
                      replace p440 := eq_true p440
                      replace q440 := eq_true q440
                      have p18 : 0 ≤ (x6_2 : Int) := of_decide_eq_true (by first | (with_reducible assumption) | assumption)
                      have q18 : (x6_2 : Int) < ((x3_2.length : Int) : Int) := of_decide_eq_true (by first | (with_reducible assumption) | assumption)
                      obtain ⟨go18, co18, eo18, gb18, gl18, cl18, HG18⟩ := Kd.R_form HO_3.out (by omega)
                      (first | cases eo18 | (injection eo18 with ea_ en_ ec_; (first | subst ea_ | (injection ea_ with ea_; subst ea_)); subst ec_; clear en_))
                      have GB18 := Aside0.mk gb18
                      have GG18 := Aside0.mk HG18
                      clear gb18 gl18 HG18
                      (first | simp only [add_plain] at hx440_0 | skip)
                      obtain ⟨hx18_0, hf18_0⟩ := Kd.R_celln 0 HO_3.out (x6_2 : Int) p18 q18
                      replace p18 := eq_true p18
                      replace q18 := eq_true q18
                      have HP19 := Kd.R_putg HO_3.out (x6_2 : Int) (wrap64 (x4_2 - 250))
                      go_wp2_with (first | ((with_reducible refine gate_store (t := 2) (p := 52) rfl ?_); refine store_event (t := 2) (p := 52) (v := ?vo_w20) (w1 := (wr.setCell ⟨go18, (x6_2 : Int).toNat, none⟩ (.int .i64 (wrap64 (x4_2 - 250))))) ?hg ?ho ?hn ?hr ?_; (case ho => rfl); (case hg => rfl); (case hn => rfl); (case hr => first | (go_simp; done) | (go_simp; rfl)); intro w20 hw; have hg : wr.grownBy w20 (some go18) := (by rw [hw]; exact HP19.2); have hp_ : Kd.R (Kd.int .i64) 2 w20 w.heap.size (fun _ => True) (.slice (some ⟨go18, 0, none⟩) x3_2.length co13) y441 := (by rw [hw, Ny441.out]; exact HP19.1); clear HP19; have n0_ := Aside0.mk (hp_); have n1_ := Aside0.mk ((by rw [hw]; exact below_set (HB.out) GB18.out : Below w.heap.size w w20)); clear HO_3; clear HB; have HO_3 := n0_; have HB := n1_; clear n0_ n1_; clear hg hw hp_; have p442 : 0 ≤ (x6_2 : Int) := of_decide_eq_true (by first | (with_reducible assumption) | assumption); have q442 : x6_2 < (y441.length : Int) := (by have h_ : (x6_2 : Int) < ((x3_2.length : Int) : Int) := of_decide_eq_true (by first | (with_reducible assumption) | assumption); first | (have e_ := (Kd.R_reads' HO_3.out).1; omega) | simpa only [Ny441.out, List.length_set] using h_); have ql442 : ((x6_2 : Int) < ((x3_2.length : Int) : Int)) = True := eq_true (of_decide_eq_true (by first | (with_reducible assumption) | assumption)); obtain ⟨ad442, e442, hx442_0⟩ := Kd.at_int (Kd.R_reads' HO_3.out).2.2 x6_2 p442 q442; obtain rfl : (⟨go18, 0, none⟩ : Addr) = ad442 := (by injection e442); (first | simp only [add_plain] at hx442_0 | simp only [add_at] at hx442_0 | simp only [Addr.add, Nat.zero_add] at hx442_0 | skip); replace p442 := eq_true p442; replace q442 := eq_true q442))
                      (try simp only [← hl3_2])
                      go_roundg k2
                      case measure => have := HK1.out; have := HK2.out; omega
                      case rel => exact ⟨(y441), (rd y441 x6_2), (wrap64 (x6_2 - 1)), (by first | rfl | (simp; done) | (simp [*]; done)), (by first | rfl | (simp; done) | (simp [*]; done)), H', ⟨by have := HK1.out; have := HK2.out; omega⟩, ⟨by (try simp only [hl3_2]); (with_reducible repeat (first | apply Kd.R_alloc | apply Kd.R_drewN | apply Kd.R_drew)); exact HO_3.out⟩, ⟨by repeat (first | (with_reducible first | exact HB.out | apply below_alloc | apply pw_below_drewN | apply below_drew1) | exact HB.out)⟩⟩
                    · rw [if_neg c17] at H
                      have c17b0 : decide ((wrap64 (x4_2 - 250)) < (rd x3_2 x6_2)) = false := decide_eq_false c17
                      (try (have c17h0 := c17b0; simp only [hl3_2] at c17h0))
                      clear c17
                      have H' := Aside0.mk H
                      clear H
                      have p440 : 0 ≤ (x6_2 : Int) := of_decide_eq_true (by first | (with_reducible assumption) | assumption)
                      have q440 : x6_2 < (x3_2.length : Int) := of_decide_eq_true (by first | (with_reducible assumption) | assumption)
                      obtain ⟨ad440, e440, hx440_0⟩ := Kd.at_int (Kd.R_reads' HO_3.out).2.2 x6_2 p440 q440
                      cases e440
                      replace p440 := eq_true p440
                      replace q440 := eq_true q440
                      have p443 : 0 ≤ (x6_2 : Int) := of_decide_eq_true (by first | (with_reducible assumption) | assumption)
                      have q443 : x6_2 < (x3_2.length : Int) := of_decide_eq_true (by first | (with_reducible assumption) | assumption)
                      obtain ⟨ad443, e443, hx443_0⟩ := Kd.at_int (Kd.R_reads' HO_3.out).2.2 x6_2 p443 q443
                      obtain rfl : ad440 = ad443 := (by injection e443)
                      replace p443 := eq_true p443
                      replace q443 := eq_true q443
                      go_wp2
                      (try simp only [← hl3_2])
                      go_roundg k2
                      case measure => have := HK1.out; have := HK2.out; omega
                      case rel => exact ⟨(x3_2), (rd x3_2 x6_2), (wrap64 (x6_2 - 1)), (by first | rfl | (simp; done) | (simp [*]; done)), (by first | rfl | (simp; done) | (simp [*]; done)), H', ⟨by have := HK1.out; have := HK2.out; omega⟩, ⟨by (try simp only [hl3_2]); (with_reducible repeat (first | apply Kd.R_alloc | apply Kd.R_drewN | apply Kd.R_drew)); exact HO_3.out⟩, ⟨by repeat (first | (with_reducible first | exact HB.out | apply below_alloc | apply pw_below_drewN | apply below_drew1) | exact HB.out)⟩⟩
                  · rw [if_neg c16] at H
                    exact absurd H (by simp)
                · rw [if_neg c15] at H
                  exact absurd H (by simp)
              · rw [if_neg c14] at H
                have c14b0 : decide (0 ≤ x6_2) = false := decide_eq_false c14
                (try (have c14h0 := c14b0; simp only [hl3_2] at c14h0))
                clear c14
                obtain rfl := Option.some.inj H
                go_wp2
                go_ret
                exact ⟨_, by first | rfl | (simp [errW_none, errW_some] <;> rfl) | (simp [*, errW_none, errW_some] <;> rfl), by (with_reducible repeat (first | apply Kd.R_alloc | apply Kd.R_drewN | apply Kd.R_drew)); exact HO_3.out, by repeat (first | (with_reducible first | exact HB.out | apply below_alloc | apply pw_below_drewN | apply below_drew1) | exact HB.out)⟩

end Go.Proofs.Ytdchabinakboeaa.P
