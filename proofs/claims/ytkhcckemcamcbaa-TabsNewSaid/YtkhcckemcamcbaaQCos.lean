/- Cosines and sines, as the program has them: lemmas for the laws. -/
import Derived.Test.YtkhcckemcamcbaaQMul
import Derived.Test.YtkhcckemcamcbaaQBits
import Derived.Test.YtkhcckemcamcbaaMCosD
import Derived.Test.YtkhcckemcamcbaaPx14
namespace Go.Proofs.Ytkhcckemcamcbaa.Q
open Go.RowKit Go.Proofs.Ytkhcckemcamcbaa.P Go.Proofs.YtkhcckemcamcbaaW.PrintWords Go.Proofs.YtkhcckemcamcbaaW.PrintLast Go.Proofs.YtkhcckemcamcbaaW.PrintMore
open Go.Proofs.Ytkhcckemcamcbaa.M
set_option linter.unusedVariables false

theorem series_l0 (z : Int) (n : Nat) : ∀ (S A : List Int) (s i m : Int), S.length = n → i = A.length → m = ((A.length + S.length : Nat) : Int) → m ≤ 1000 → (∀ c ∈ S, -2147483648 ≤ c ∧ c ≤ 2147483648) →
    Ev (fun k => fix_series.l0 k z s (A ++ S) m i) (ser z s S) := by
  induction n with
  | zero =>
    intro S A s i m hn hi hm hl hS
    have e1 : S = [] := List.eq_nil_of_length_eq_zero hn
    subst e1
    refine Ev.step (fun k => by rw [fix_series.l0]) ?_
    exact evNeg (by simp at hm; omega) (Ev.now _)
  | succ n ih =>
    intro S A s i m hn hi hm hl hS
    cases S with
    | nil => simp at hn
    | cons c S =>
      simp at hn hm
      have hc := hS c (by simp)
      have hb := mul30_bounds z s
      refine Ev.step (fun k => by rw [fix_series.l0]) ?_
      refine evPos (by omega) (evPos (by omega) (evPos (by simp; omega) ?_))
      refine Ev.bind (fix_mul z s 30 (by omega) (by omega)) ?_
      rw [rd_mid _ _ _ _ hi, w64 (x := i + 1) (by omega) (by omega), w64 (x := c + _) (by omega) (by omega)]
      have h := ih S (A ++ [c]) (c + mul z s 30) (i + 1) m (by omega) (by simp; omega) (by simp; omega) hl (fun y hy => hS y (by simp [hy]))
      simpa [ser] using h
theorem fix_ser (z s : Int) (l : List Int) (hl : l.length ≤ 100) (h : ∀ c ∈ l, -2147483648 ≤ c ∧ c ≤ 2147483648) : Ev (fun k => fix_series.f k z (s :: l)) (ser z s l) := by
  refine Ev.congr (fun k => by rw [fix_series.f]) ?_
  refine evPos (by simp only [List.length_cons]; omega) (evPos (by simp only [List.length_cons]; omega) (Ev.bind (Ev.now _) ?_))
  have h2 := series_l0 z l.length l [] s 0 l.length rfl rfl (by simp) (by omega) h
  exact h2
theorem cos_j1 (x : Int) (hx : 0 ≤ x ∧ x ≤ 16384) (b : Bool) : Ev (fun k => fix_Cos.j1 k x b) (if b = true then -qr x else qr x) := by
  have hq := qr_small x
  refine Ev.step (fun k => by rw [fix_Cos.j1]) ?_
  by_cases h : x ≤ 8192
  · refine evPos h (Ev.bind (fix_mul _ _ _ (by omega) (by omega)) (Ev.bind (fix_mul _ _ _ (by omega) (by omega)) (Ev.bind (fix_ser _ _ _ (by decide) (by decide)) (Ev.bind (fix_mul _ _ _ (by omega) (by omega)) ?_))))
    have e : mul (ser (mul (mul x 1686629713 14) (mul x 1686629713 14) 30) (-296) [26631, -1491308, 44739243, -536870912, 1073741824]) 1 15 = qr x := by unfold qr; rw [if_pos h]
    rw [e, w64 (x := -qr x) (by omega) (by omega)]
    refine evIte (fun hb => ?_) (fun hb => ?_)
    · rw [if_pos hb]; exact Ev.now _
    · rw [if_neg hb]; exact Ev.now _
  · refine evNeg h ?_
    rw [w64 (x := 16384 - x) (by omega) (by omega)]
    refine Ev.bind (fix_mul _ _ _ (by omega) (by omega)) (Ev.bind (fix_mul _ _ _ (by omega) (by omega)) (Ev.bind (fix_ser _ _ _ (by decide) (by decide)) (Ev.bind (fix_mul _ _ _ (by omega) (by omega)) (Ev.bind (fix_mul _ _ _ (by omega) (by omega)) ?_))))
    have e : mul (mul (mul (16384 - x) 1686629713 14) (ser (mul (mul (16384 - x) 1686629713 14) (mul (16384 - x) 1686629713 14) 30) 2959 [-213044, 8947849, -178956971, 1073741824]) 30) 1 15 = qr x := by unfold qr; rw [if_neg h]
    rw [e, w64 (x := -qr x) (by omega) (by omega)]
    refine evIte (fun hb => ?_) (fun hb => ?_)
    · rw [if_pos hb]; exact Ev.now _
    · rw [if_neg hb]; exact Ev.now _
theorem fix_cos (a : Int) : Ev (fun k => fix_Cos.f k a) (cosI a) := by
  have hj : ∀ x, 0 ≤ x → x ≤ 32768 → x = fold a → Ev (fun k => fix_Cos.j0 k x) (cosI a) := by
    intro x h0 h1 hx
    refine Ev.step (fun k => by rw [fix_Cos.j0]) ?_
    unfold cosI
    rw [← hx]
    refine evIte (fun h => ?_) (fun h => ?_)
    · rw [w64 (x := 32768 - x) (by omega) (by omega), if_pos h, decide_eq_true h]
      exact evEq (cos_j1 _ (by omega) true) (if_pos rfl)
    · rw [if_neg h, decide_eq_false h]
      exact evEq (cos_j1 _ (by omega) false) (if_neg (by simp))
  refine Ev.congr (fun k => by rw [fix_Cos.f]) ?_
  rw [bits_65535]
  refine evIte (fun h => ?_) (fun h => ?_)
  · rw [w64 (x := 65536 - a % 65536) (by omega) (by omega)]
    exact hj _ (by omega) (by omega) (by unfold fold; rw [if_pos h])
  · exact hj _ (by omega) (by omega) (by unfold fold; rw [if_neg h])
theorem fix_sin (a : Int) : Ev (fun k => fix_Sin.f k a) (cosI (a % 65536 - 16384)) := by
  refine Ev.congr (fun k => by rw [fix_Sin.f]) ?_
  rw [bits_65535, w64 (x := a % 65536 - 16384) (by omega) (by omega)]
  exact Ev.bind (fix_cos _) (Ev.now _)
end Go.Proofs.Ytkhcckemcamcbaa.Q
