/- Frequencies between two others, as the program tells them: lemmas for the laws. -/
import Derived.Test.YtdchabinakboeaaQLsf2
import Derived.Test.YtdchabinakboeaaPx26
namespace Go.Proofs.Ytdchabinakboeaa.Q
open Go.RowKit Go.Proofs.Ytdchabinakboeaa.P Go.Proofs.YtdchabinakboeaaW.PrintWords Go.Proofs.YtdchabinakboeaaW.PrintLast Go.Proofs.YtdchabinakboeaaW.PrintMore
open Go.Proofs.Ytdchabinakboeaa.M
set_option linter.unusedVariables false

/-- What lies between two numbers. -/
def mid (w a b : Int) : Int := a + (b - a) * w / 4
theorem mid_w {w a b : Int} (hw0 : 0 ≤ w) (hw1 : w ≤ 4) (ha : 0 ≤ a ∧ a ≤ 32768) (hb : 0 ≤ b ∧ b ≤ 32768) : -140000 ≤ (b - a) * w ∧ (b - a) * w ≤ 140000 := by
  have h : w = 0 ∨ w = 1 ∨ w = 2 ∨ w = 3 ∨ w = 4 := by omega
  rcases h with rfl | rfl | rfl | rfl | rfl <;> omega
theorem between_l0 (w : Int) (hw0 : 0 ≤ w) (hw1 : w ≤ 4) (n : Nat) : ∀ (S T A B : List Int) (i : Int), S.length = n → T.length = S.length → B.length = A.length → i = A.length → A.length + S.length ≤ 1000 → (∀ x ∈ S, 0 ≤ x ∧ x ≤ 32768) → (∀ x ∈ T, 0 ≤ x ∧ x ≤ 32768) →
    Ev (fun k => lsf_Between.l0 k (A ++ S) (B ++ T) w ((A ++ S).length : Int) i) (A ++ List.zipWith (mid w) S T, 0) := by
  induction n with
  | zero =>
    intro S T A B i hn ht hb hi hl hS hT
    have e1 : S = [] := List.eq_nil_of_length_eq_zero hn
    subst e1
    refine Ev.step (fun k => by rw [lsf_Between.l0]) ?_
    refine evNeg (by simp; omega) ?_
    simpa using Ev.now (A, (0 : Int))
  | succ n ih =>
    intro S T A B i hn ht hb hi hl hS hT
    cases S with
    | nil => simp at hn
    | cons s S =>
      cases T with
      | nil => simp at ht
      | cons t T =>
        simp at hn ht hl
        have hs := hS s (by simp)
        have ht2 := hT t (by simp)
        have hm := mid_w hw0 hw1 hs ht2
        refine Ev.step (fun k => by rw [lsf_Between.l0]) ?_
        refine evPos (by simp; omega) (evPos (by omega) (evPos (by simp; omega) (evPos (by simp; omega) ?_)))
        rw [rd_mid _ _ _ _ hi, rd_mid B t T i (by omega), set_mid _ _ _ _ _ hi, w64 (x := i + 1) (by omega) (by omega), w64 (x := t - s) (by omega) (by omega), w64 (x := (t - s) * w) (by omega) (by omega), w64 (by omega) (by omega)]
        have h := ih S T (A ++ [mid w s t]) (B ++ [t]) (i + 1) (by omega) (by omega) (by simp; omega) (by simp; omega) (by simp; omega) (fun x hx => hS x (by simp [hx])) (fun x hx => hT x (by simp [hx]))
        simpa [mid] using h
theorem between_ok (a b : List Int) (w : Int) (hl : a.length = b.length) (h64 : a.length ≤ 64) (hw0 : 0 ≤ w) (hw1 : w ≤ 4) : Ev (fun k => lsf_Between.f k a b w) (List.zipWith (mid w) (clampL a) (clampL b), 0) := by
  refine Ev.congr (fun k => by rw [lsf_Between.f]) ?_
  refine evPos (by omega) (evNeg (by omega) (evNeg (by omega) ?_))
  refine Ev.step (fun k => by rw [lsf_Between.j0]) ?_
  refine evNeg (by simp; omega) ?_
  refine Ev.bind (lsf_clamped' a (by omega)) (Ev.bind (lsf_clamped' b (by omega)) ?_)
  have h := between_l0 w hw0 hw1 (clampL a).length (clampL a) (clampL b) [] [] 0 rfl (by simp [clampL_length]; omega) rfl rfl (by simp [clampL_length]; omega) clampL_bounds clampL_bounds
  simpa using h
theorem between_not (a b : List Int) (w : Int) (h : a.length ≠ b.length ∨ 64 < a.length ∨ w < 0 ∨ 4 < w) : Ev (fun k => lsf_Between.f k a b w) ([], 1) := by
  have hj : ∀ x y z, Ev (fun k => lsf_Between.j0 k x y z true) ([], 1) := by
    intro x y z
    refine Ev.step (fun k => by rw [lsf_Between.j0]) ?_
    exact evPos rfl (Ev.now _)
  refine Ev.congr (fun k => by rw [lsf_Between.f]) ?_
  refine evIte (fun h1 => ?_) (fun h1 => hj _ _ _)
  refine evIte (fun h2 => hj _ _ _) (fun h2 => ?_)
  refine evIte (fun h3 => hj _ _ _) (fun h3 => ?_)
  have e : decide (w > 4) = true := by apply decide_eq_true; omega
  rw [e]
  exact hj _ _ _
end Go.Proofs.Ytdchabinakboeaa.Q
