/- The first table's frequencies rise, for every index: each of the 32 looked at, the others answer nothing; without conditions. -/
import Derived.Test.YtkhcckemcamcbaaPx36
import Derived.Test.YtkhcckemcamcbaaQAwake2
namespace Go.Proofs.Ytkhcckemcamcbaa.Pure
open Go.RowKit Go.Proofs.Ytkhcckemcamcbaa.P Go.Proofs.YtkhcckemcamcbaaW.PrintWords Go.Proofs.YtkhcckemcamcbaaW.PrintLast Go.Proofs.YtkhcckemcamcbaaW.PrintMore
open Go.Proofs.Ytkhcckemcamcbaa.Q
set_option linter.unusedVariables false

theorem all10 : ∀ i : Fin 16, (tabs_Lsf.f 60 10 ((i.val : Nat) : Int)).bind (fun l => madrigallaw2_TabsLsf.j0 60 10 l false) = some true := by decide +kernel
theorem all16 : ∀ i : Fin 16, (tabs_Lsf.f 60 16 ((i.val : Nat) : Int)).bind (fun l => madrigallaw2_TabsLsf.j0 60 16 l false) = some true := by decide +kernel
theorem lsf_none (o i : Int) (h : ¬ ((o = 10 ∨ o = 16) ∧ 0 ≤ i ∧ i < 16)) : Ev (fun k => tabs_Lsf.f k o i) [] := by
  have hj : ∀ b, b = true → Ev (fun k => tabs_Lsf.j0 k o i b) [] := by
    intro b hb
    refine Ev.step (fun k => by rw [tabs_Lsf.j0]) ?_
    exact evPos hb (Ev.now _)
  refine Ev.congr (fun k => by rw [tabs_Lsf.f]) ?_
  refine evIte (fun h1 => evIte (fun _ => hj _ rfl) (fun h2 => hj _ (decide_eq_true (by omega)))) (fun h1 => evIte (fun h3 => evIte (fun _ => hj _ rfl) (fun h2 => hj _ (decide_eq_true (by omega)))) (fun _ => hj _ rfl))
theorem law_none (o : Int) (b : Bool) (hb : b = true) : Ev (fun k => madrigallaw2_TabsLsf.j0 k o [] b) true := by
  refine Ev.step (fun k => by rw [madrigallaw2_TabsLsf.j0]) ?_
  exact evPos hb (Ev.now _)
theorem TabsLsf : madrigallaw2_TabsLsf.Pure := by
  intro o i _ _
  refine Ev.rounds (g := fun k => madrigallaw2_TabsLsf.f k o i) ?_
  refine Ev.congr (fun k => by rw [madrigallaw2_TabsLsf.f]) (Ev.bind awake2 (evPos rfl ?_))
  by_cases h : (o = 10 ∨ o = 16) ∧ 0 ≤ i ∧ i < 16
  · obtain ⟨ho, h0, h1⟩ := h
    have e : ((i.toNat : Nat) : Int) = i := Int.toNat_of_nonneg h0
    have key : ∀ o : Int, (tabs_Lsf.f 60 o i).bind (fun l => madrigallaw2_TabsLsf.j0 60 o l false) = some true → Ev (fun k => (tabs_Lsf.f k o i).bind fun l => madrigallaw2_TabsLsf.j0 k o l false) true := by
      intro o h
      obtain ⟨l, hl, hj⟩ := Option.bind_eq_some_iff.mp h
      exact Ev.bind (Ev.of (tabs_Lsf.mono o i) hl) (Ev.of (fun k => (madrigallaw2_TabsLsf.mono_l k).1 o l false) hj)
    rcases ho with rfl | rfl
    · have h2 := all10 ⟨i.toNat, by omega⟩
      simp only [e] at h2
      refine Ev.congr (fun k => ?_) (key 10 h2)
      simp only [if_true, if_neg (show ¬ i < 0 by omega), decide_eq_false (show ¬ i > 15 by omega)]
    · have h2 := all16 ⟨i.toNat, by omega⟩
      simp only [e] at h2
      refine Ev.congr (fun k => ?_) (key 16 h2)
      simp only [if_true, if_neg (show ¬ (16 : Int) = 10 by omega), if_neg (show ¬ i < 0 by omega), decide_eq_false (show ¬ i > 15 by omega)]
  · refine Ev.bind (lsf_none o i h) ?_
    refine evIte (fun h1 => evIte (fun _ => law_none _ _ rfl) (fun h2 => law_none _ _ (decide_eq_true (by omega)))) (fun h1 => evIte (fun h3 => evIte (fun _ => law_none _ _ rfl) (fun h2 => law_none _ _ (decide_eq_true (by omega)))) (fun _ => law_none _ _ rfl))
end Go.Proofs.Ytkhcckemcamcbaa.Pure
