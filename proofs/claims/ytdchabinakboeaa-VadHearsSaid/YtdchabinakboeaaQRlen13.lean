/- Lengths and logarithms, as the document's own answer has them: lemmas for the laws. -/
import Derived.Test.YtdchabinakboeaaQLog2
import Derived.Test.YtdchabinakboeaaQShift
import Derived.Test.YtdchabinakboeaaPx13
import Derived.Test.YtdchabinakboeaaPx14
namespace Go.Proofs.Ytdchabinakboeaa.Q
open Go.RowKit Go.Proofs.Ytdchabinakboeaa.P Go.Proofs.YtdchabinakboeaaW.PrintWords Go.Proofs.YtdchabinakboeaaW.PrintLast Go.Proofs.YtdchabinakboeaaW.PrintMore
open Go.Proofs.Ytdchabinakboeaa.M
set_option linter.unusedVariables false

theorem bl_half {a : Int} (h : 1 ≤ a) : bl a = bl (a / 2) + 1 := by
  by_cases h1 : a = 1
  · subst h1; decide
  · have lo := bl_lo (a := a / 2) (by omega)
    have hi := bl_hi (a := a / 2) (by omega)
    have g := bl_ge (a := a / 2) (by omega)
    have e : (bl (a / 2)).toNat = (bl (a / 2) - 1).toNat + 1 := by omega
    have h3 := bl_unique (a := a) (n := (bl (a / 2)).toNat) (by rw [e, pow_next']; omega) (by rw [pow_next']; omega)
    omega
where pow_next' {n : Nat} : (2 : Int) ^ (n + 1) = 2 * 2 ^ n := by rw [Int.pow_succ]; omega
theorem ref_len_l0 (n : Nat) : ∀ (a c : Int), a.toNat < n → a ≤ 9223372036854775807 → 0 ≤ c → c + bl a ≤ 1000 → Ev (fun k => madrigalref1_Len.l0 k a c) (c + bl a) := by
  induction n with
  | zero => intro a c h; omega
  | succ n ih =>
    intro a c h h1 h0 hb
    refine Ev.step (fun k => by rw [madrigalref1_Len.l0]) ?_
    by_cases ha : 1 ≤ a
    · have e := bl_half ha
      rw [Int.tdiv_eq_ediv_of_nonneg (by omega), w64 (x := a / 2) (by omega) (by omega)]
      have hb0 : 0 ≤ bl (a / 2) := by unfold bl; split <;> omega
      rw [w64 (x := c + 1) (by omega) (by omega)]
      refine evPos (by omega) (evEq (ih (a / 2) (c + 1) (by omega) (by omega) (by omega) (by omega)) (by omega))
    · have e : bl a = 0 := by unfold bl; rw [if_pos (by omega)]
      exact evNeg (by omega) (evEq (Ev.now c) (by omega))
theorem ref_len (a : Int) (h1 : a ≤ 9223372036854775807) : Ev (fun k => madrigalref1_Len.f k a) (bl a) := by
  have hb := bl_le h1
  refine Ev.congr (fun k => by rw [madrigalref1_Len.f]) ?_
  exact evEq (ref_len_l0 (a.toNat + 1) a 0 (by omega) h1 (by omega) (by omega)) (by omega)
theorem ref_log_l1 (x : Int) (hx : 1 ≤ x ∧ x ≤ 63) (n : Nat) : ∀ (m o i : Int), 1073741824 ≤ m → m < 2147483648 → 0 ≤ o → o * 2 ^ n + 2 ^ n ≤ 1000000 → i + n = 8 → 0 ≤ i →
    Ev (fun k => madrigalref1_Log2.l1 k x m o i) (256 * (x - 1) + l2 n m o) := by
  induction n with
  | zero =>
    intro m o i h0 h1 ho hb hi hi0
    refine Ev.step (fun k => by rw [madrigalref1_Log2.l1]) ?_
    simp at hb
    rw [w64 (x := x - 1) (by omega) (by omega), w64 (x := 256 * (x - 1)) (by omega) (by omega), w64 (x := 256 * (x - 1) + o) (by omega) (by omega)]
    exact evNeg (by omega) (Ev.now _)
  | succ n ih =>
    intro m o i h0 h1 ho hb hi hi0
    refine Ev.step (fun k => by rw [madrigalref1_Log2.l1]) ?_
    refine evPos (by omega) ?_
    have hin := l2_in h0 h1
    have hsq := sq_le (show 0 ≤ m by omega) (show m ≤ 2147483647 by omega)
    have hsq0 : 0 ≤ m * m := Int.mul_nonneg (by omega) (by omega)
    rw [w64 (x := m * m) (by omega) (by omega)]
    have hp : (0 : Int) < 2 ^ n := Int.pow_pos (by omega)
    have ep : (2 : Int) ^ (n + 1) = 2 * 2 ^ n := by rw [Int.pow_succ]; omega
    rw [ep] at hb
    have e0 : o * (2 * 2 ^ n) = o * 2 * 2 ^ n := by rw [Int.mul_assoc]
    have e1 : (o * 2 + 1) * 2 ^ n = o * 2 * 2 ^ n + 2 ^ n := by rw [Int.add_mul]; omega
    have e2 : o * 2 ≤ o * 2 * 2 ^ n := by
      have := Int.mul_le_mul_of_nonneg_left (show (1 : Int) ≤ 2 ^ n by omega) (show 0 ≤ o * 2 by omega)
      omega
    have e3 : 2 * o = o * 2 := by omega
    rw [Int.tdiv_eq_ediv_of_nonneg (by omega), e3]
    unfold l2
    rw [w64 (x := o * 2) (by omega) (by omega), w64 (x := o * 2 + 1) (by omega) (by omega), w64 (x := i + 1) (by omega) (by omega), w64 (x := m * m / 1073741824 / 2) (by omega) (by omega)]
    refine evIte (fun h => ?_) (fun h => ?_)
    · rw [if_pos h]
      exact ih _ _ _ (by omega) (by omega) (by omega) (by omega) (by omega) (by omega)
    · rw [if_neg h]
      exact ih _ _ _ (by omega) (by omega) (by omega) (by omega) (by omega) (by omega)
theorem ref_log_up (x : Int) (hx : 1 ≤ x ∧ x ≤ 63) {r : Int} (n : Nat) : ∀ (m i : Int), i + n = 31 → 1 ≤ i → 0 ≤ m → m * 2 ^ n < 2147483648 → x ≤ 31 → Ev (fun k => madrigalref1_Log2.j1 k x (m * 2 ^ n)) r → Ev (fun k => madrigalref1_Log2.l0 k x m i) r := by
  induction n with
  | zero =>
    intro m i hi h1 hm hb hx2 h
    refine Ev.step (fun k => by rw [madrigalref1_Log2.l0]) ?_
    exact evNeg (by omega) (evNeg (by omega) (by simpa using h))
  | succ n ih =>
    intro m i hi h1 hm hb hx2 h
    have ep : (2 : Int) ^ (n + 1) = 2 * 2 ^ n := by rw [Int.pow_succ]; omega
    have hp : (0 : Int) < 2 ^ n := Int.pow_pos (by omega)
    have e1 : m * 2 ^ (n + 1) = m * 2 * 2 ^ n := by rw [ep, Int.mul_assoc]
    have e2 : m * 2 ≤ m * 2 * 2 ^ n := by
      have := Int.mul_le_mul_of_nonneg_left (show (1 : Int) ≤ 2 ^ n by omega) (show 0 ≤ m * 2 by omega)
      omega
    refine Ev.step (fun k => by rw [madrigalref1_Log2.l0]) ?_
    rw [w64 (x := m * 2) (by omega) (by omega), w64 (x := i + 1) (by omega) (by omega)]
    refine evPos (by omega) (ih (m * 2) (i + 1) (by omega) (by omega) (by omega) (by omega) hx2 ?_)
    rw [← e1]; exact h
theorem ref_log2 (a : Int) (h1 : a ≤ 9223372036854775807) : Ev (fun k => madrigalref1_Log2.f k a) (log2 a) := by
  refine Ev.congr (fun k => by rw [madrigalref1_Log2.f]) ?_
  refine evIte (fun h => ?_) (fun h => ?_)
  · exact evConst (by unfold log2; rw [if_pos h])
  · have ha : 1 ≤ a := by omega
    have g := bl_ge ha
    have g2 := bl_le h1
    have mi := mant_in ha
    refine Ev.bind (ref_len a h1) ?_
    have hj : ∀ m, m = mant a → Ev (fun k => madrigalref1_Log2.j1 k (bl a) m) (log2 a) := by
      intro m hm
      subst hm
      refine Ev.step (fun k => by rw [madrigalref1_Log2.j1]) ?_
      have h := ref_log_l1 (bl a) (by omega) 8 (mant a) 0 0 mi.1 mi.2 (by omega) (by omega) (by omega) (by omega)
      refine evEq h ?_
      have e := l2_add 8 (mant a) 0 (bl a - 1)
      rw [log2_pos ha]
      have e3 : (0 : Int) + (bl a - 1) = bl a - 1 := by omega
      have h256 : (2 : Int) ^ 8 = 256 := by decide
      rw [e3, h256] at e
      omega
    by_cases hb : bl a > 31
    · refine Ev.step (fun k => by rw [madrigalref1_Log2.l0]) ?_
      rw [w64 (x := bl a - 31) (by omega) (by omega), uw64 (x := bl a - 31) (by omega) (by omega), shr_64 (by omega)]
      refine evNeg (by omega) (evPos hb (evPos (by omega) (hj _ ?_)))
      unfold mant; rw [if_pos hb]
    · have em : mant a = a * 2 ^ (31 - bl a).toNat := by unfold mant; rw [if_neg hb]
      refine ref_log_up (bl a) (by omega) (31 - bl a).toNat a (bl a) (by omega) (by omega) (by omega) (by rw [← em]; omega) (by omega) (hj _ em.symm)
end Go.Proofs.Ytdchabinakboeaa.Q
