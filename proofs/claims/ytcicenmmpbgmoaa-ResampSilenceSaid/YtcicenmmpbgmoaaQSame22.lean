/- Lists held against each other, as the laws of chapter 22 do it: lemmas for the laws. -/
import Derived.Test.YtcicenmmpbgmoaaQ0
import Derived.Test.YtcicenmmpbgmoaaPx18
namespace Go.Proofs.Ytcicenmmpbgmoaa.Q
open Go.RowKit Go.Proofs.Ytcicenmmpbgmoaa.P Go.Proofs.YtcicenmmpbgmoaaW.PrintWords Go.Proofs.YtcicenmmpbgmoaaW.PrintLast Go.Proofs.YtcicenmmpbgmoaaW.PrintMore
set_option linter.unusedVariables false

theorem same22_l0 (n : Nat) : ∀ (S T A B : List Int) (i : Int), S.length = n → T.length = S.length → B.length = A.length → i = A.length → A.length + S.length ≤ 1000000000 →
    Ev (fun k => madrigallaw22_same.l0 k (A ++ S) (B ++ T) i) (decide (S = T)) := by
  induction n with
  | zero =>
    intro S T A B i hn ht hb hi hl
    have e1 : S = [] := List.eq_nil_of_length_eq_zero hn
    subst e1
    have e2 : T = [] := List.eq_nil_of_length_eq_zero (by simpa using ht)
    subst e2
    refine Ev.step (fun k => by rw [madrigallaw22_same.l0]) ?_
    exact evNeg (by simp; omega) (evConst (by simp))
  | succ n ih =>
    intro S T A B i hn ht hb hi hl
    cases S with
    | nil => simp at hn
    | cons s S =>
      cases T with
      | nil => simp at ht
      | cons t T =>
        simp at hn ht hl
        refine Ev.step (fun k => by rw [madrigallaw22_same.l0]) ?_
        refine evPos (by simp; omega) (evPos (by omega) (evPos (by simp; omega) ?_))
        rw [rd_mid _ _ _ _ hi, rd_mid B t T i (by omega), w64 (x := i + 1) (by omega) (by omega)]
        refine evIte (fun h => ?_) (fun h => evConst (by simp [h]))
        have h2 := ih S T (A ++ [s]) (B ++ [t]) (i + 1) (by omega) (by omega) (by simp; omega) (by simp; omega) (by simp; omega)
        have e : decide (s :: S = t :: T) = decide (S = T) := by apply decide_eq_decide.2; simp [h]
        rw [e]
        simpa using h2
theorem same22 (a b : List Int) (h : a.length ≤ 1000000000) : Ev (fun k => madrigallaw22_same.f k a b) (decide (a = b)) := by
  refine Ev.congr (fun k => by rw [madrigallaw22_same.f]) ?_
  refine evIte (fun h2 => ?_) (fun h2 => evConst ?_)
  · have := same22_l0 a.length a b [] [] 0 rfl (by omega) rfl rfl (by simpa using h)
    simpa using this
  · congr 1; symm; apply decide_eq_false; rintro rfl; exact h2 rfl
end Go.Proofs.Ytcicenmmpbgmoaa.Q
