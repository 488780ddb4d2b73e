/- Quotients by divisors of either sign, as the program has them: lemmas for the laws. -/
import Derived.Test.YtllglpcpjeggcaaQDiv2
namespace Go.Proofs.Ytllglpcpjeggcaa.Q
open Go.RowKit Go.Proofs.Ytllglpcpjeggcaa.P Go.Proofs.YtllglpcpjeggcaaW.PrintWords Go.Proofs.YtllglpcpjeggcaaW.PrintLast Go.Proofs.YtllglpcpjeggcaaW.PrintMore
open Go.Proofs.Ytllglpcpjeggcaa.M
set_option linter.unusedVariables false

theorem ev_unbind2 {α β : Type} {a : Nat → Option α} {g : Nat → α → Option β} {x : α} {r : β} (h : Ev (fun k => (a k).bind (g k)) r) (ha : Ev a x) : Ev (fun k => g k x) r := by
  obtain ⟨K, h⟩ := h
  obtain ⟨L, ha⟩ := ha
  refine ⟨K + L, fun k hk => ?_⟩
  have h1 : (a k).bind (g k) = some r := h k (by omega)
  rw [ha k (by omega)] at h1
  exact h1
/-- A quotient, down, by a divisor of either sign. -/
def divI (a b s : Int) : Int := if fac b = 0 then 0 else if s < 0 then 0 else if s > 30 then 0 else if fac b < 0 then (-(fac a) * 2 ^ s.toNat) / (-(fac b)) else fac a * 2 ^ s.toNat / fac b
theorem fix_divI (a b s : Int) : Ev (fun k => fix_Div.f k a b s) (divI a b s) := by
  have hb := fac_bounds b
  have ha := fac_bounds a
  have hno : ∀ t, t = true → Ev (fun k => fix_Div.j0 k (fac a) (fac b) s t) 0 := by
    intro t ht
    refine Ev.step (fun k => by rw [fix_Div.j0]) ?_
    exact evPos ht (Ev.now _)
  by_cases h5 : fac b < 0 ∧ 0 ≤ s ∧ s ≤ 30
  · refine Ev.congr (fun k => by rw [fix_Div.f]) (Ev.bind (fix_factor a) (Ev.bind (fix_factor b) (evNeg (show ¬ fac b = 0 by omega) (evNeg (show ¬ s < 0 by omega) ?_))))
    rw [decide_eq_false (show ¬ s > 30 by omega)]
    unfold divI
    rw [if_neg (show ¬ fac b = 0 by omega), if_neg (show ¬ s < 0 by omega), if_neg (show ¬ s > 30 by omega), if_pos h5.1]
    refine Ev.step (fun k => by rw [fix_Div.j0]) ?_
    have hu := up_bounds ha h5.2.2
    have en : -(fac a) * 2 ^ s.toNat = -(fac a * 2 ^ s.toNat) := Int.neg_mul _ _
    rw [shl_64 (x := fac a) (s := s) (by omega) (by omega) (by omega), en]
    generalize fac a * 2 ^ s.toNat = n at hu ⊢
    generalize fac b = d at hb h5 ⊢
    have hq := tdiv_down (n := -n) (d := -d) (by omega)
    have e1 : Int.tdiv (-n) (-d) = Int.tdiv n d := Int.neg_tdiv_neg n d
    have e2 : Int.tmod (-n) (-d) = -Int.tmod n d := by rw [Int.tmod_neg, Int.neg_tmod]
    rw [e1, e2] at hq
    have e3 := Int.natAbs_tdiv n d
    have hle : n.natAbs / d.natAbs ≤ n.natAbs := Nat.div_le_self _ _
    have e4 : (Int.tdiv n d).natAbs ≤ n.natAbs := by rw [e3]; exact hle
    rw [w64 (x := Int.tdiv n d) (by omega) (by omega), w64 (x := Int.tdiv n d - 1) (by omega) (by omega)]
    refine evNeg (by simp) (evPos (by omega) (evNeg (by omega) ?_))
    rw [← hq]
    refine evIte (fun h => ?_) (fun h => ?_)
    · rw [if_pos (show -n.tmod d = 0 by omega)]; exact Ev.now _
    · rw [if_neg (show ¬ -n.tmod d = 0 by omega)]
      have hn0 : n ≠ 0 := fun e => h (by rw [e]; exact Int.zero_tmod d)
      rw [decide_eq_true (show d < 0 by omega)]
      by_cases hn : n < 0
      · rw [decide_eq_true hn, if_neg (show ¬ -n < 0 by omega)]; exact evNeg (by simp) (Ev.now _)
      · rw [decide_eq_false hn, if_pos (show -n < 0 by omega)]; exact evPos (by rfl) (Ev.now _)
  · unfold divI
    by_cases h0 : fac b = 0
    · rw [if_pos h0]
      refine Ev.congr (fun k => by rw [fix_Div.f]) (Ev.bind (fix_factor a) (Ev.bind (fix_factor b) (evPos h0 (hno _ rfl))))
    · rw [if_neg h0]
      by_cases h1 : s < 0
      · rw [if_pos h1]
        refine Ev.congr (fun k => by rw [fix_Div.f]) (Ev.bind (fix_factor a) (Ev.bind (fix_factor b) (evNeg h0 (evPos h1 (hno _ rfl)))))
      · rw [if_neg h1]
        by_cases h2 : s > 30
        · rw [if_pos h2]
          refine Ev.congr (fun k => by rw [fix_Div.f]) (Ev.bind (fix_factor a) (Ev.bind (fix_factor b) (evNeg h0 (evNeg h1 (hno _ (decide_eq_true h2))))))
        · rw [if_neg h2, if_neg (by omega)]
          have ef : fac (fac b) = fac b := fac_id hb.1 hb.2
          have h := fix_div_any a (fac b) s (by omega) (by omega)
          have h1 : Ev (fun k => (fix_factor.f k a).bind fun t126 => ((fix_factor.f k (fac b)).bind fun t127 => (if t127 = 0 then (fix_Div.j0 k t126 t127 s true) else (if s < 0 then (fix_Div.j0 k t126 t127 s true) else (fix_Div.j0 k t126 t127 s (decide (s > 30))))))) (fac a * 2 ^ s.toNat / fac b) := Ev.congr (fun k => by rw [fix_Div.f]) h
          have h2 : Ev (fun k => (fix_factor.f k (fac b)).bind fun t127 => (if t127 = 0 then (fix_Div.j0 k (fac a) t127 s true) else (if s < 0 then (fix_Div.j0 k (fac a) t127 s true) else (fix_Div.j0 k (fac a) t127 s (decide (s > 30)))))) (fac a * 2 ^ s.toNat / fac b) := ev_unbind2 (g := fun k t126 => ((fix_factor.f k (fac b)).bind fun t127 => (if t127 = 0 then (fix_Div.j0 k t126 t127 s true) else (if s < 0 then (fix_Div.j0 k t126 t127 s true) else (fix_Div.j0 k t126 t127 s (decide (s > 30))))))) h1 (fix_factor a)
          have h3 := ev_unbind2 (g := fun k t127 => (if t127 = 0 then (fix_Div.j0 k (fac a) t127 s true) else (if s < 0 then (fix_Div.j0 k (fac a) t127 s true) else (fix_Div.j0 k (fac a) t127 s (decide (s > 30)))))) h2 (evEq (fix_factor (fac b)) ef)
          exact Ev.congr (fun k => by rw [fix_Div.f]) (Ev.bind (fix_factor a) (Ev.bind (fix_factor b) h3))
end Go.Proofs.Ytllglpcpjeggcaa.Q
