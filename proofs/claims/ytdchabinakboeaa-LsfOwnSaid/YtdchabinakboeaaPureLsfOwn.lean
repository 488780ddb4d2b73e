/- Frequencies of the first table are found as themselves, with nothing of the second: for all orders and indexes, without conditions. -/
import Derived.Test.YtdchabinakboeaaPx47
import Derived.Test.YtdchabinakboeaaQ0
import Derived.Test.YtdchabinakboeaaQLsf2
namespace Go.Proofs.Ytdchabinakboeaa.Pure
open Go.RowKit Go.Proofs.Ytdchabinakboeaa.P Go.Proofs.YtdchabinakboeaaW.PrintWords Go.Proofs.YtdchabinakboeaaW.PrintLast Go.Proofs.YtdchabinakboeaaW.PrintMore
open Go.Proofs.Ytdchabinakboeaa.Q
set_option linter.unusedVariables false

theorem own10 : ∀ i : Fin 16, madrigallaw6_LsfOwn.j0 500 10 ((i.val : Nat) : Int) false = some true := by decide +kernel
theorem own16 : ∀ i : Fin 16, madrigallaw6_LsfOwn.j0 700 16 ((i.val : Nat) : Int) false = some true := by decide +kernel
theorem LsfOwn : madrigallaw6_LsfOwn.Pure := by
  intro o i _ _
  have hj : ∀ x y, Ev (fun k => madrigallaw6_LsfOwn.j0 k x y true) true := by
    intro x y
    refine Ev.step (fun k => by rw [madrigallaw6_LsfOwn.j0]) ?_
    exact evPos rfl (Ev.now _)
  have hm : ∀ x y z, ∀ k, LeO (madrigallaw6_LsfOwn.j0 k x y z) (madrigallaw6_LsfOwn.j0 (k + 1) x y z) := fun x y z k => (madrigallaw6_LsfOwn.mono_l k).1 x y z
  refine Ev.rounds (Ev.congr (fun k => by rw [madrigallaw6_LsfOwn.f]) (Ev.bind awake6 (evPos rfl ?_)))
  refine evIte (fun h => ?_) (fun h => ?_)
  · subst h
    refine evIte (fun _ => hj _ _) (fun h2 => ?_)
    by_cases h3 : i > 15
    · rw [decide_eq_true h3]; exact hj _ _
    · rw [decide_eq_false h3]
      have e : ((i.toNat : Nat) : Int) = i := Int.toNat_of_nonneg (by omega)
      have h := own10 ⟨i.toNat, by omega⟩
      simp only [e] at h
      exact Ev.of (hm _ _ _) h
  · refine evIte (fun h => ?_) (fun _ => hj _ _)
    subst h
    refine evIte (fun _ => hj _ _) (fun h2 => ?_)
    by_cases h3 : i > 15
    · rw [decide_eq_true h3]; exact hj _ _
    · rw [decide_eq_false h3]
      have e : ((i.toNat : Nat) : Int) = i := Int.toNat_of_nonneg (by omega)
      have h := own16 ⟨i.toNat, by omega⟩
      simp only [e] at h
      exact Ev.of (hm _ _ _) h
end Go.Proofs.Ytdchabinakboeaa.Pure
