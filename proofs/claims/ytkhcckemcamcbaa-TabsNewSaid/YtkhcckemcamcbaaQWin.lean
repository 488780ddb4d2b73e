/- Windows, as the program makes them: lemmas for the laws. -/
import Derived.Test.YtkhcckemcamcbaaQCos
import Derived.Test.YtkhcckemcamcbaaMCos
import Derived.Test.YtkhcckemcamcbaaMWinD
import Derived.Test.YtkhcckemcamcbaaPx15
namespace Go.Proofs.Ytkhcckemcamcbaa.Q
open Go.RowKit Go.Proofs.Ytkhcckemcamcbaa.P Go.Proofs.YtkhcckemcamcbaaW.PrintWords Go.Proofs.YtkhcckemcamcbaaW.PrintLast Go.Proofs.YtkhcckemcamcbaaW.PrintMore
open Go.Proofs.Ytkhcckemcamcbaa.M
set_option linter.unusedVariables false

theorem qr_in {m : Int} (h0 : 0 ≤ m) (h1 : m ≤ 16384) : 0 ≤ qr m ∧ qr m ≤ 32768 := by
  have := circle h0 h1
  omega
theorem half_in {s : Int} (h : 0 ≤ s ∧ s ≤ 32768) : 0 ≤ half s ∧ half s ≤ 16384 ∧ 0 ≤ mul s s 15 ∧ mul s s 15 ≤ 32768 := by
  have e : mul s s 15 = (s * s + 16384) / 32768 := by
    unfold mul; rw [if_neg (by omega), if_neg (by omega), if_neg (by omega), fac_id (by omega) (by omega)]; rfl
  have h1 := prod_le (x := s) (y := s) (a := 32768) (b := 32768) (by omega) (by omega)
  have h2 : 0 ≤ s * s := Int.mul_nonneg h.1 h.1
  unfold half
  rw [e]
  refine ⟨?_, ?_, ?_, ?_⟩ <;> omega
theorem sin_small {a : Int} (h0 : 0 ≤ a) (h1 : a ≤ 16384) : Ev (fun k => fix_Sin.f k a) (qr (16384 - a)) := by
  have e : a % 65536 = a := by omega
  have h := fix_sin a
  rw [e, cos_pos (m := 16384 - a) (by omega) (by omega) (by omega)] at h
  exact h
/-- Where in the quarter a window's number lies. -/
def wat (l i : Int) : Int := ((2 * i + 1) * 16384 / l + 1) / 2
theorem wat_q {l i : Int} (hl : 1 ≤ l) (hi : 0 ≤ i ∧ i < l) : 0 ≤ (2 * i + 1) * 16384 / l ∧ (2 * i + 1) * 16384 / l ≤ 32767 := by
  constructor
  · exact Int.ediv_nonneg (by omega) (by omega)
  · have h : (2 * i + 1) * 16384 / l < 32768 := by
      rw [Int.ediv_lt_iff_lt_mul (by omega)]; omega
    omega
theorem wat_in {l i : Int} (hl : 1 ≤ l) (hi : 0 ≤ i ∧ i < l) : 0 ≤ wat l i ∧ wat l i ≤ 16384 := by
  have h := wat_q hl hi
  unfold wat; omega
theorem gw_in {x : Int} (h0 : 0 ≤ x) (h1 : x ≤ 16384) : 0 ≤ gw x ∧ gw x ≤ 32768 := by
  have h2 := qr_in (m := 16384 - x) (by omega) (by omega)
  have h3 := half_in h2
  exact qr_in (by omega) (by omega)
def win (l : Nat) : List Int := (List.range l).map fun i : Nat => gw (wat l (i : Int))
theorem win_l0 (l : Nat) (hl : 1 ≤ l ∧ l ≤ 480) (n : Nat) : ∀ (i : Nat), i + n = l → Ev (fun k => tabs_Window.l0 k (l : Int) ((List.range i).map (fun i : Nat => gw (wat l (i : Int))) ++ List.replicate n 0) (l : Int) (i : Int)) (win l) := by
  induction n with
  | zero =>
    intro i hi
    have e : i = l := by omega
    subst e
    refine Ev.step (fun k => by rw [tabs_Window.l0]) ?_
    refine evNeg (by omega) ?_
    simpa [win] using Ev.now (win i)
  | succ n ih =>
    intro i hi
    refine Ev.step (fun k => by rw [tabs_Window.l0]) ?_
    refine evPos (by omega) (evNeg (by omega) ?_)
    have hq := wat_q (l := (l : Int)) (i := (i : Int)) (by omega) (by omega)
    have hw := wat_in (l := (l : Int)) (i := (i : Int)) (by omega) (by omega)
    rw [w64 (x := 2 * (i : Int)) (by omega) (by omega), w64 (x := 2 * (i : Int) + 1) (by omega) (by omega), w64 (x := (2 * (i : Int) + 1) * 16384) (by omega) (by omega), Int.tdiv_eq_ediv_of_nonneg (show 0 ≤ (2 * (i : Int) + 1) * 16384 by omega), w64 (x := (2 * (i : Int) + 1) * 16384 / l) (by omega) (by omega), w64 (x := (2 * (i : Int) + 1) * 16384 / l + 1) (by omega) (by omega), Int.tdiv_eq_ediv_of_nonneg (show 0 ≤ (2 * (i : Int) + 1) * 16384 / l + 1 by omega)]
    have ew : ((2 * (i : Int) + 1) * 16384 / l + 1) / 2 = wat l i := rfl
    rw [ew, w64 (x := wat l i) (by omega) (by omega)]
    refine Ev.bind (sin_small hw.1 hw.2) (Ev.bind (fix_mul _ _ 15 (by omega) (by omega)) ?_)
    have h2 := qr_in (m := 16384 - wat l i) (by omega) (by omega)
    have h3 := half_in h2
    have hm : 0 ≤ mul (qr (16384 - wat l i)) (qr (16384 - wat l i)) 15 ∧ mul (qr (16384 - wat l i)) (qr (16384 - wat l i)) 15 ≤ 40000 := by omega
    rw [w64 (x := mul _ _ 15 + 1) (by omega) (by omega), Int.tdiv_eq_ediv_of_nonneg (by omega)]
    have eh : (mul (qr (16384 - wat l i)) (qr (16384 - wat l i)) 15 + 1) / 2 = half (qr (16384 - wat l i)) := rfl
    rw [eh, w64 (x := half _) (by omega) (by omega)]
    refine Ev.bind (sin_small h3.1 h3.2.1) (evPos (by omega) (evPos (by simp; omega) ?_))
    rw [w64 (x := (i : Int) + 1) (by omega) (by omega), List.replicate_succ, set_mid ((List.range i).map (fun i : Nat => gw (wat l (i : Int)))) 0 (List.replicate n 0) _ i (by simp)]
    have h := ih (i + 1) (by omega)
    rw [List.range_succ, List.map_append] at h
    simpa [gw] using h
theorem tabs_window (l : Int) (h : 1 ≤ l ∧ l ≤ 480) : Ev (fun k => tabs_Window.f k l) (win l.toNat) := by
  obtain ⟨n, rfl⟩ : ∃ n : Nat, l = n := ⟨l.toNat, by omega⟩
  rw [Int.toNat_natCast]
  refine Ev.congr (fun k => by rw [tabs_Window.f]) (evNeg (by omega) ?_)
  rw [decide_eq_false (by omega)]
  refine Ev.step (fun k => by rw [tabs_Window.j0]) ?_
  refine evNeg (by simp) (evPos (by omega) (evPos (by omega) (Ev.bind (Ev.now _) ?_)))
  rw [Int.toNat_natCast]
  have h2 := win_l0 n (by omega) n 0 (by omega)
  simpa using h2
theorem tabs_window_none (l : Int) (h : ¬ (1 ≤ l ∧ l ≤ 480)) : Ev (fun k => tabs_Window.f k l) [] := by
  have hj : ∀ b, b = true → Ev (fun k => tabs_Window.j0 k l b) [] := by
    intro b hb
    refine Ev.step (fun k => by rw [tabs_Window.j0]) ?_
    exact evPos hb (Ev.now _)
  refine Ev.congr (fun k => by rw [tabs_Window.f]) ?_
  exact evIte (fun _ => hj _ rfl) (fun h2 => hj _ (decide_eq_true (by omega)))
theorem win_length (l : Nat) : (win l).length = l := by simp [win]
theorem rd_win (l : Nat) (i : Int) (h0 : 0 ≤ i) (h1 : i < l) : rd (win l) i = gw (wat l i) := by
  obtain ⟨n, rfl⟩ : ∃ n : Nat, i = n := ⟨i.toNat, by omega⟩
  rw [rd_at (l := win l) (i := n) (by rw [win_length]; omega)]
  simp [win]
end Go.Proofs.Ytkhcckemcamcbaa.Q
