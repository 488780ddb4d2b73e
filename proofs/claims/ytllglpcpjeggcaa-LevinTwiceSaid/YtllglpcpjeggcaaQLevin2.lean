/- Sums of products: plain lemmas for the laws of chapter 12. -/
import Derived.Test.YtllglpcpjeggcaaQLevin
namespace Go.Proofs.Ytllglpcpjeggcaa.Q
open Go.RowKit Go.Proofs.Ytllglpcpjeggcaa.P Go.Proofs.YtllglpcpjeggcaaW.PrintWords Go.Proofs.YtllglpcpjeggcaaW.PrintLast Go.Proofs.YtllglpcpjeggcaaW.PrintMore
open Go.Proofs.Ytllglpcpjeggcaa.M
set_option linter.unusedVariables false

theorem take_rd {l : List Int} {i : Int} (h0 : 0 ≤ i) (h1 : i < l.length) : l.take (i + 1).toNat = l.take i.toNat ++ [rd l i] := by
  have hl : i.toNat < l.length := by omega
  rw [show (i + 1).toNat = i.toNat + 1 by omega, List.take_succ_eq_append_getElem hl]
  unfold rd
  rw [List.getD_eq_getElem?_getD, List.getElem?_eq_getElem hl]
  rfl
theorem dot_bounds : ∀ (l m : List Int), Within 32768 l → Within 32768 m → -1073741824 * (l.length : Int) ≤ dot l m ∧ dot l m ≤ 1073741824 * l.length
  | [], m, _, _ => by rw [dot_nil]; simp
  | a :: l, [], _, _ => by simp only [dot, List.length_cons]; omega
  | a :: l, b :: m, hl, hm => by
    have ih := dot_bounds l m (fun x hx => hl x (by simp [hx])) (fun x hx => hm x (by simp [hx]))
    have hp := prod30 (hl a (by simp)) (hm b (by simp))
    simp only [dot, List.length_cons]
    omega
theorem sq_nonneg (a : Int) : 0 ≤ a * a := by
  rcases Int.le_total 0 a with h | h
  · exact Int.mul_nonneg h h
  · exact Int.mul_nonneg_of_nonpos_of_nonpos h h
theorem dot_self_nonneg : ∀ l : List Int, 0 ≤ dot l l
  | [] => by rw [dot_nil]; omega
  | a :: l => by
    have := dot_self_nonneg l
    have := sq_nonneg a
    simp only [dot]; omega
theorem dot_drop_le : ∀ (l : List Int) (k : Nat), dot (l.drop k) (l.drop k) ≤ dot l l
  | l, 0 => by simp
  | [], k + 1 => by simp
  | a :: l, k + 1 => by
    have h := dot_drop_le l k
    have := sq_nonneg a
    simp only [List.drop_succ_cons, dot]; omega
theorem two_le (a b : Int) : 2 * (a * b) ≤ a * a + b * b ∧ -(2 * (a * b)) ≤ a * a + b * b := by
  have h1 := sq_nonneg (a - b)
  have h2 := sq_nonneg (a + b)
  rw [Int.sub_mul, Int.mul_sub, Int.mul_sub, Int.mul_comm b a] at h1
  rw [Int.add_mul, Int.mul_add, Int.mul_add, Int.mul_comm b a] at h2
  omega
theorem dot_two : ∀ (l m : List Int), 2 * dot l m ≤ dot l l + dot m m ∧ -(2 * dot l m) ≤ dot l l + dot m m
  | [], m => by rw [dot_nil, dot_nil]; have := dot_self_nonneg m; omega
  | a :: l, [] => by have := dot_self_nonneg (a :: l); simp only [dot] at this ⊢; omega
  | a :: l, b :: m => by
    have h := dot_two l m
    have g := two_le a b
    simp only [dot]; omega
/-- A sound is most like itself now. -/
theorem dot_most (x : List Int) (k : Nat) : dot (x.drop k) x ≤ dot x x ∧ -dot (x.drop k) x ≤ dot x x := by
  have h := dot_two (x.drop k) x
  have g := dot_drop_le x k
  omega
theorem rd_autoL (x : List Int) (m : Nat) (i : Int) (h0 : 0 ≤ i) (h1 : i < m) : rd (autoL x m) i = dot (x.drop i.toNat) x := by
  rw [rd_in h0 (by simp [autoL]; omega)]
  simp [autoL]
theorem autoL_length (x : List Int) (m : Nat) : (autoL x m).length = m := by simp [autoL]
end Go.Proofs.Ytllglpcpjeggcaa.Q
