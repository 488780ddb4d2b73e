/- Sums clamped, as the program has them: lemmas for the laws. -/
import Derived.Test.YtlhdoopmlpnhlaaQClamp
import Derived.Test.YtlhdoopmlpnhlaaPx10
namespace Go.Proofs.Ytlhdoopmlpnhlaa.Q
open Go.RowKit Go.Proofs.Ytlhdoopmlpnhlaa.P Go.Proofs.YtlhdoopmlpnhlaaW.PrintWords Go.Proofs.YtlhdoopmlpnhlaaW.PrintLast Go.Proofs.YtlhdoopmlpnhlaaW.PrintMore
open Go.Proofs.Ytlhdoopmlpnhlaa.M
set_option linter.unusedVariables false

/-- One more. -/
def add1 (s x : Int) : Int := clamp (s + clamp x (-1099511627776) 1099511627776) (-72057594037927936) 72057594037927936
def sum (l : List Int) : Int := l.foldl add1 0
theorem add1_bounds (s x : Int) : -72057594037927936 ≤ add1 s x ∧ add1 s x ≤ 72057594037927936 := clamp_bounds (by omega)
theorem foldl_bounds : ∀ (l : List Int) (s : Int), -72057594037927936 ≤ s ∧ s ≤ 72057594037927936 → -72057594037927936 ≤ l.foldl add1 s ∧ l.foldl add1 s ≤ 72057594037927936
  | [], s, h => h
  | x :: l, s, h => foldl_bounds l (add1 s x) (add1_bounds s x)
theorem sum_bounds (l : List Int) : -72057594037927936 ≤ sum l ∧ sum l ≤ 72057594037927936 := foldl_bounds l 0 (by omega)
theorem fix_sum_l0 (n : Nat) : ∀ (S A : List Int) (s i m : Int), S.length = n → i = A.length → m = ((A.length + S.length : Nat) : Int) → m ≤ 1000000 → -72057594037927936 ≤ s ∧ s ≤ 72057594037927936 →
    Ev (fun k => fix_Sum.l0 k s (A ++ S) m i) (S.foldl add1 s) := by
  induction n with
  | zero =>
    intro S A s i m hn hi hm hl hs
    have e1 : S = [] := List.eq_nil_of_length_eq_zero hn
    subst e1
    refine Ev.step (fun k => by rw [fix_Sum.l0]) ?_
    exact evNeg (by simp at hm; omega) (Ev.now _)
  | succ n ih =>
    intro S A s i m hn hi hm hl hs
    cases S with
    | nil => simp at hn
    | cons x S =>
      simp at hn hm
      refine Ev.step (fun k => by rw [fix_Sum.l0]) ?_
      have hc := clamp_bounds (a := x) (lo := -1099511627776) (hi := 1099511627776) (by omega)
      refine evPos (by omega) (evPos (by omega) (evPos (by simp; omega) ?_))
      rw [rd_mid _ _ _ _ hi, w64 (x := i + 1) (by omega) (by omega)]
      refine Ev.bind (fix_clamp _ _ _) ?_
      rw [w64 (x := s + _) (by omega) (by omega)]
      refine Ev.bind (fix_clamp _ _ _) ?_
      have h := ih S (A ++ [x]) (add1 s x) (i + 1) m (by omega) (by simp; omega) (by simp; omega) hl (add1_bounds s x)
      simpa [add1] using h
theorem fix_sum (l : List Int) (h : l.length ≤ 1000000) : Ev (fun k => fix_Sum.f k l) (sum l) := by
  refine Ev.congr (fun k => by rw [fix_Sum.f]) ?_
  have h := fix_sum_l0 l.length l [] 0 0 l.length rfl rfl (by simp) (by omega) (by omega)
  exact h
/-- The sum as it is. -/
def tot (l : List Int) : Int := l.foldr (· + ·) 0
theorem foldl_tot (l : List Int) : ∀ (s : Int), (∀ x ∈ l, -1099511627776 ≤ x ∧ x ≤ 1099511627776) → -1099511627776 * (1000 - (l.length : Int)) ≤ s ∧ s ≤ 1099511627776 * (1000 - (l.length : Int)) → l.length ≤ 1000 → l.foldl add1 s = s + tot l := by
  induction l with
  | nil => intro s _ _ _; simp [tot]
  | cons x l ih =>
    intro s h hs hl
    have hx := h x (by simp)
    simp only [List.length_cons] at hs hl
    have e : add1 s x = s + x := by
      unfold add1
      rw [clamp_id hx.1 hx.2, clamp_id (by omega) (by omega)]
    rw [List.foldl_cons, e, ih (s + x) (fun y hy => h y (by simp [hy])) (by omega) (by omega)]
    show _ = s + (x + tot l)
    omega
theorem tot_bounds (l : List Int) : (∀ x ∈ l, -1099511627776 ≤ x ∧ x ≤ 1099511627776) → -1099511627776 * (l.length : Int) ≤ tot l ∧ tot l ≤ 1099511627776 * (l.length : Int) := by
  induction l with
  | nil => intro _; simp [tot]
  | cons x l ih =>
    intro h
    have hx := h x (by simp)
    have ih := ih (fun y hy => h y (by simp [hy]))
    have e : tot (x :: l) = x + tot l := rfl
    simp only [List.length_cons]
    omega
theorem tot_cat : ∀ (a b : List Int), tot (a ++ b) = tot a + tot b
  | [], b => by simp [tot]
  | x :: a, b => by
    have ih := tot_cat a b
    show x + tot (a ++ b) = x + tot a + tot b
    omega
end Go.Proofs.Ytlhdoopmlpnhlaa.Q
