/- Which tables may be: any list, judged alike by the program and by the document; without conditions. -/
import Derived.Test.YtkhcckemcamcbaaPx33
import Derived.Test.YtkhcckemcamcbaaQAwake2
namespace Go.Proofs.Ytkhcckemcamcbaa.Pure
open Go.RowKit Go.Proofs.Ytkhcckemcamcbaa.P Go.Proofs.YtkhcckemcamcbaaW.PrintWords Go.Proofs.YtkhcckemcamcbaaW.PrintLast Go.Proofs.YtkhcckemcamcbaaW.PrintMore
open Go.Proofs.Ytkhcckemcamcbaa.Q
set_option linter.unusedVariables false

/-- Each below the one ahead of it. -/
def falls : Int → List Int → Bool
  | _, [] => true
  | w, x :: l => if x ≥ w then false else falls x l
theorem good_l0 (n : Nat) : ∀ (S A : List Int) (a i : Int), S.length = n → A.length + 1 + S.length ≤ 1000 → i = A.length + 1 → Ev (fun k => tabs_Good.l0 k (A ++ a :: S) i) (falls a S) := by
  induction n with
  | zero =>
    intro S A a i hn hl hi
    have e1 : S = [] := List.eq_nil_of_length_eq_zero hn
    subst e1
    refine Ev.step (fun k => by rw [tabs_Good.l0]) ?_
    exact evNeg (by simp; omega) (Ev.now _)
  | succ n ih =>
    intro S A a i hn hl hi
    cases S with
    | nil => simp at hn
    | cons x S =>
      simp at hn hl
      refine Ev.step (fun k => by rw [tabs_Good.l0]) ?_
      rw [w64 (x := i - 1) (by omega) (by omega), w64 (x := i + 1) (by omega) (by omega)]
      have e1 : rd (A ++ a :: x :: S) (i - 1) = a := rd_mid A a (x :: S) _ (by omega)
      have e2 : rd (A ++ a :: x :: S) i = x := by
        have h := rd_mid (A ++ [a]) x S i (by simp; omega)
        rw [List.append_assoc] at h
        exact h
      refine evPos (by simp; omega) (evPos (by omega) (evPos (by omega) (evPos (by simp; omega) ?_)))
      rw [e1, e2]
      unfold falls
      refine evIte (fun h => ?_) (fun h => ?_)
      · rw [if_pos h]; exact Ev.now _
      · rw [if_neg h]
        have h3 := ih S (A ++ [a]) x (i + 1) (by omega) (by simp; omega) (by simp; omega)
        rw [List.append_assoc] at h3
        exact h3
theorem refgood_l0 (n : Nat) : ∀ (S A : List Int) (w i : Int), S.length = n → A.length + S.length ≤ 1000 → i = A.length → Ev (fun k => madrigalref1_Good.l0 k (A ++ S) w i) (falls w S) := by
  induction n with
  | zero =>
    intro S A w i hn hl hi
    have e1 : S = [] := List.eq_nil_of_length_eq_zero hn
    subst e1
    refine Ev.step (fun k => by rw [madrigalref1_Good.l0]) ?_
    exact evNeg (by simp; omega) (Ev.now _)
  | succ n ih =>
    intro S A w i hn hl hi
    cases S with
    | nil => simp at hn
    | cons x S =>
      simp at hn hl
      refine Ev.step (fun k => by rw [madrigalref1_Good.l0]) ?_
      rw [w64 (x := i + 1) (by omega) (by omega)]
      refine evPos (by simp; omega) (evPos (by omega) ?_)
      rw [rd_mid A x S i hi]
      unfold falls
      refine evIte (fun h => ?_) (fun h => ?_)
      · rw [if_pos h]; exact Ev.now _
      · rw [if_neg h]
        have h3 := ih S (A ++ [x]) x (i + 1) (by omega) (by simp; omega) (by simp; omega)
        rw [List.append_assoc] at h3
        exact h3
def good (l : List Int) : Bool := if (l.length : Int) < 1 then false else if (l.length : Int) > 256 then false else if rd l ((l.length : Int) - 1) = 0 then falls 256 l else false
theorem good_no (l : List Int) (b : Bool) (h : b = true) : Ev (fun k => tabs_Good.j0 k l b) false := by
  refine Ev.step (fun k => by rw [tabs_Good.j0]) ?_
  exact evPos h (Ev.now _)
theorem tabs_good (l : List Int) : Ev (fun k => tabs_Good.f k l) (good l) := by
  refine Ev.congr (fun k => by rw [tabs_Good.f]) ?_
  unfold good
  refine evIte (fun h => ?_) (fun h => ?_)
  · rw [if_pos h]; exact good_no _ _ rfl
  · rw [if_neg h]
    refine evIte (fun h2 => ?_) (fun h2 => ?_)
    · rw [if_pos h2]; exact good_no _ _ rfl
    · rw [if_neg h2, w64 (x := (l.length : Int) - 1) (by omega) (by omega)]
      refine evPos (by omega) (evPos (by omega) ?_)
      refine evIte (fun h3 => ?_) (fun h3 => ?_)
      · rw [if_pos h3]
        refine evPos (by omega) ?_
        cases l with
        | nil => simp at h
        | cons x l =>
          have e : rd (x :: l) 0 = x := rfl
          rw [e]
          unfold falls
          by_cases hx : x ≥ 256
          · rw [if_pos hx]; exact good_no _ _ (decide_eq_true hx)
          · rw [if_neg hx, decide_eq_false hx]
            refine Ev.step (fun k => by rw [tabs_Good.j0]) ?_
            refine evNeg (by simp) ?_
            simp only [List.length_cons] at h2
            exact good_l0 l.length l [] x 1 rfl (by simp; omega) (by simp)
      · rw [if_neg h3]; exact good_no _ _ rfl
theorem refgood_no (l : List Int) (b : Bool) (h : b = true) : Ev (fun k => madrigalref1_Good.j0 k l b) false := by
  refine Ev.step (fun k => by rw [madrigalref1_Good.j0]) ?_
  exact evPos h (Ev.now _)
theorem ref_good (l : List Int) : Ev (fun k => madrigalref1_Good.f k l) (good l) := by
  refine Ev.congr (fun k => by rw [madrigalref1_Good.f]) ?_
  unfold good
  refine evIte (fun h => ?_) (fun h => ?_)
  · rw [if_pos h]; exact refgood_no _ _ rfl
  · rw [if_neg h]
    refine evIte (fun h2 => ?_) (fun h2 => ?_)
    · rw [if_pos h2]; exact refgood_no _ _ rfl
    · rw [if_neg h2, w64 (x := (l.length : Int) - 1) (by omega) (by omega)]
      refine evPos (by omega) (evPos (by omega) ?_)
      by_cases h3 : rd l ((l.length : Int) - 1) = 0
      · rw [if_pos h3, h3]
        refine Ev.step (fun k => by rw [madrigalref1_Good.j0]) ?_
        refine evNeg (by decide) ?_
        exact refgood_l0 l.length l [] 256 0 rfl (by simp; omega) (by simp)
      · rw [if_neg h3]
        exact refgood_no _ _ (by simpa using h3)
theorem TabsGood : madrigallaw2_TabsGood.Pure := by
  intro l hl _ _
  refine Ev.rounds (g := fun k => madrigallaw2_TabsGood.f k l) ?_
  refine Ev.congr (fun k => by rw [madrigallaw2_TabsGood.f]) (Ev.bind awake2 (evPos rfl (Ev.bind (Ev.now _) ?_)))
  have hm : l.length < 17592186044416 := by unfold maxLen at hl; omega
  refine evPos (by simpa using hm) (Ev.bind (tabs_good l) (Ev.bind (ref_good l) (evConst ?_)))
  simp
end Go.Proofs.Ytkhcckemcamcbaa.Pure
