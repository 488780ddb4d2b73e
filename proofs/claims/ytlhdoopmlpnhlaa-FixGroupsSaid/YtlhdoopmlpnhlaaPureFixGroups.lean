/- Sums of small numbers may be grouped and turned as one likes; a sum is clamped, never wrapped: without conditions. -/
import Derived.Test.YtlhdoopmlpnhlaaPx33
import Derived.Test.YtlhdoopmlpnhlaaQSum
import Derived.Test.YtlhdoopmlpnhlaaQAwake1
namespace Go.Proofs.Ytlhdoopmlpnhlaa.Pure
open Go.RowKit Go.Proofs.Ytlhdoopmlpnhlaa.P Go.Proofs.YtlhdoopmlpnhlaaW.PrintWords Go.Proofs.YtlhdoopmlpnhlaaW.PrintLast Go.Proofs.YtlhdoopmlpnhlaaW.PrintMore
open Go.Proofs.Ytlhdoopmlpnhlaa.M Go.Proofs.Ytlhdoopmlpnhlaa.Q
set_option linter.unusedVariables false

theorem groups_l0 (more : Int) (n : Nat) : ∀ (S A : List Int) (i s : Int), S.length = n → A.length + S.length ≤ 100 → i = A.length → (∀ x ∈ A, -1099511627776 ≤ x ∧ x ≤ 1099511627776) → s = tot A →
    Ev (fun k => madrigallaw1_FixGroups.l0 k (A ++ S) more (sum (A ++ S)) s i) true := by
  induction n with
  | zero =>
    intro S A i s hn hl hi hA hs
    have e1 : S = [] := List.eq_nil_of_length_eq_zero hn
    subst e1
    rw [List.append_nil]
    refine Ev.step (fun k => by rw [madrigallaw1_FixGroups.l0]) ?_
    refine evNeg (by omega) (evIte (fun _ => Ev.now _) (fun h1 => evIte (fun _ => Ev.now _) (fun h2 => ?_)))
    have hb := tot_bounds A hA
    simp at hl
    have e : sum A = tot A := by
      have h := foldl_tot A 0 hA (by omega) (by omega)
      rw [Int.zero_add] at h
      exact h
    refine evPos (by omega) (Ev.bind (Ev.now _) (evPos (by simp; omega) ?_))
    refine Ev.bind (fix_sum _ (by simp; omega)) (evConst ?_)
    have hA2 : ∀ x ∈ ([more] ++ A), -1099511627776 ≤ x ∧ x ≤ 1099511627776 := by
      intro x hx
      rcases List.mem_append.1 hx with h | h
      · have h3 : x = more := by simpa using h
        subst h3; omega
      · exact hA x h
    have e2 : sum ([more] ++ A) = more + tot A := by
      have h := foldl_tot ([more] ++ A) 0 hA2 (by simp; omega) (by simp; omega)
      rw [Int.zero_add, tot_cat] at h
      have h4 : tot [more] = more := by simp [tot]
      rw [h4] at h
      exact h
    rw [e2, hs, w64 (x := tot A + more) (by omega) (by omega)]
    simp; omega
  | succ n ih =>
    intro S A i s hn hl hi hA hs
    cases S with
    | nil => simp at hn
    | cons x S =>
      simp at hn hl
      refine Ev.step (fun k => by rw [madrigallaw1_FixGroups.l0]) ?_
      refine evPos (by simp; omega) (evPos (by omega) ?_)
      rw [rd_mid _ _ _ _ hi]
      refine evIte (fun _ => Ev.now _) (fun h1 => evIte (fun _ => Ev.now _) (fun h2 => ?_))
      have hb := tot_bounds A hA
      rw [w64 (x := i + 1) (by omega) (by omega), w64 (x := s + x) (by omega) (by omega)]
      have h := ih S (A ++ [x]) (i + 1) (s + x) (by omega) (by simp; omega) (by simp; omega) (fun y hy => by
        rcases List.mem_append.1 hy with h | h
        · exact hA y h
        · have h3 : y = x := by simpa using h
          subst h3; omega) (by rw [tot_cat, hs]; simp [tot])
      simpa using h
theorem FixGroups : madrigallaw1_FixGroups.Pure := by
  intro l more hl _ hx hm
  refine Ev.rounds (g := fun k => madrigallaw1_FixGroups.f k l more) ?_
  refine Ev.congr (fun k => by rw [madrigallaw1_FixGroups.f]) (Ev.bind awake1 (evPos rfl ?_))
  refine evIte (fun _ => Ev.now _) (fun h1 => ?_)
  have hb := sum_bounds l
  refine Ev.bind (fix_sum l (by omega)) (evNeg (by omega) ?_)
  refine Ev.step (fun k => by rw [madrigallaw1_FixGroups.j0]) ?_
  refine evNeg (by simp; omega) ?_
  have h := groups_l0 more l.length l [] 0 0 rfl (by simp; omega) rfl (by simp) rfl
  exact h
end Go.Proofs.Ytlhdoopmlpnhlaa.Pure
