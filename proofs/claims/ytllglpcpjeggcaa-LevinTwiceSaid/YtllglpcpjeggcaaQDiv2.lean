/- Quotients rounded down, as the program has them, by divisors above nought: lemmas for the laws. -/
import Derived.Test.YtllglpcpjeggcaaQMul
import Derived.Test.YtllglpcpjeggcaaPx6
namespace Go.Proofs.Ytllglpcpjeggcaa.Q
open Go.RowKit Go.Proofs.Ytllglpcpjeggcaa.P Go.Proofs.YtllglpcpjeggcaaW.PrintWords Go.Proofs.YtllglpcpjeggcaaW.PrintLast Go.Proofs.YtllglpcpjeggcaaW.PrintMore
open Go.Proofs.Ytllglpcpjeggcaa.M
set_option linter.unusedVariables false

theorem shl_64 {x s : Int} (h1 : s ≤ 64) (a0 : -9223372036854775808 ≤ x * 2 ^ s.toNat) (a1 : x * 2 ^ s.toNat ≤ 9223372036854775807) : shl .i64 x s = x * 2 ^ s.toNat := by
  unfold shl
  rw [show IntKind.i64.bits = 64 from rfl, Nat.min_eq_left (by omega), i64_w]
  exact w64 a0 a1
theorem up_bounds {a s : Int} (ha : -2147483648 ≤ a ∧ a ≤ 2147483648) (h1 : s ≤ 30) : -2305843009213693952 ≤ a * 2 ^ s.toNat ∧ a * 2 ^ s.toNat ≤ 2305843009213693952 := by
  have hp : (2 : Int) ^ s.toNat ≤ 2 ^ 30 := pow_most (by omega)
  have hp0 : (0 : Int) < 2 ^ s.toNat := Int.pow_pos (by omega)
  have h := prod_le (x := a) (y := 2 ^ s.toNat) (a := 2147483648) (b := 1073741824) (by omega) (by omega)
  omega
/-- The quotient toward nought, put down where it is not whole. -/
theorem tdiv_down {n d : Int} (hd : 1 ≤ d) : (if Int.tmod n d = 0 then Int.tdiv n d else if n < 0 then Int.tdiv n d - 1 else Int.tdiv n d) = n / d := by
  have hm : Int.tmod n d = n - d * Int.tdiv n d := by have := Int.mul_tdiv_add_tmod n d; omega
  have hmod := Int.emod_nonneg n (show d ≠ 0 by omega)
  have hlt := Int.emod_lt_of_pos n (show 0 < d by omega)
  have he := Int.mul_ediv_add_emod n d
  have hbs : d.sign = 1 := Int.sign_eq_one_of_pos (by omega)
  have ht : Int.tdiv n d = if 0 ≤ n ∨ n % d = 0 then n / d else n / d + 1 := by
    rw [Int.tdiv_eq_ediv, hbs]
    by_cases h : 0 ≤ n
    · rw [if_pos (.inl h), if_pos (.inl h)]; omega
    · by_cases h2 : n % d = 0
      · rw [if_pos (.inr (Int.dvd_of_emod_eq_zero h2)), if_pos (.inr h2)]; omega
      · rw [if_neg, if_neg]
        · rintro (h3 | h3)
          · exact h h3
          · exact h2 h3
        · rintro (h3 | h3)
          · exact h h3
          · exact h2 (Int.emod_eq_zero_of_dvd h3)
  by_cases h : 0 ≤ n ∨ n % d = 0
  · rw [if_pos h] at ht
    rw [hm, ht]
    split
    · rfl
    · rw [if_neg (by omega)]
  · rw [if_neg h] at ht
    have hmul : d * (n / d + 1) = d * (n / d) + d := by rw [Int.mul_add]; omega
    rw [hm, ht, if_neg (by omega), if_pos (by omega)]
    omega
theorem fix_div_any (a b s : Int) (hb : 1 ≤ b ∧ b ≤ 2147483648) (hs : 0 ≤ s ∧ s ≤ 30) : Ev (fun k => fix_Div.f k a b s) (fac a * 2 ^ s.toNat / b) := by
  have ha := fac_bounds a
  refine Ev.congr (fun k => by rw [fix_Div.f]) ?_
  refine Ev.bind (fix_factor a) (Ev.bind (evEq (fix_factor b) (fac_id (by omega) hb.2)) ?_)
  refine evNeg (by omega) (evNeg (by omega) ?_)
  refine Ev.step (fun k => by rw [fix_Div.j0]) ?_
  have hu := up_bounds ha hs.2
  rw [shl_64 (by omega) (by omega) (by omega)]
  generalize fac a * 2 ^ s.toNat = n at hu ⊢
  refine evNeg (by simp; omega) (evPos (by omega) (evNeg (by omega) ?_))
  have hq := tdiv_down (n := n) hb.1
  have e := Int.natAbs_tdiv n b
  have hle : n.natAbs / b.natAbs ≤ n.natAbs := Nat.div_le_self _ _
  have e2 : (Int.tdiv n b).natAbs ≤ n.natAbs := by
    rw [e]; exact hle
  rw [w64 (x := Int.tdiv n b) (by omega) (by omega), w64 (x := Int.tdiv n b - 1) (by omega) (by omega)]
  rw [← hq]
  refine evIte (fun h => ?_) (fun h => ?_)
  · rw [if_pos h]; exact Ev.now _
  · rw [if_neg h]
    have hbn : decide (b < 0) = false := by simp; omega
    rw [hbn]
    by_cases hn : n < 0
    · rw [if_pos hn, decide_eq_true hn]; exact evPos (by rfl) (Ev.now _)
    · rw [if_neg hn, decide_eq_false hn]; exact evNeg (by simp) (Ev.now _)
theorem fix_div (a b s : Int) (ha : -2147483648 ≤ a ∧ a ≤ 2147483648) (hb : 1 ≤ b ∧ b ≤ 2147483648) (hs : 0 ≤ s ∧ s ≤ 30) : Ev (fun k => fix_Div.f k a b s) (a * 2 ^ s.toNat / b) := by
  have h := fix_div_any a b s hb hs
  rw [fac_id ha.1 ha.2] at h
  exact h
end Go.Proofs.Ytllglpcpjeggcaa.Q
