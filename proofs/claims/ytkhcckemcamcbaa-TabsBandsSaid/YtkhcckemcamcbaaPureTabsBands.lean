/- The bands of each rate and length lie one behind the other: each of the six looked at, the others answer nothing; without conditions. -/
import Derived.Test.YtkhcckemcamcbaaPx35
import Derived.Test.YtkhcckemcamcbaaQAwake2
namespace Go.Proofs.Ytkhcckemcamcbaa.Pure
open Go.RowKit Go.Proofs.Ytkhcckemcamcbaa.P Go.Proofs.YtkhcckemcamcbaaW.PrintWords Go.Proofs.YtkhcckemcamcbaaW.PrintLast Go.Proofs.YtkhcckemcamcbaaW.PrintMore
open Go.Proofs.Ytkhcckemcamcbaa.Q
set_option linter.unusedVariables false

theorem bands_none (r m : Int) (h : tabs_Bins.f r m 0 = some (0, 0)) : Ev (fun k => madrigallaw2_TabsBands.j0 k r m true) true := by
  refine Ev.step (fun k => by rw [madrigallaw2_TabsBands.j0]) ?_
  exact evPos rfl (Ev.bind (evConst h) (evPos rfl (Ev.now _)))
theorem none_ms (r m : Int) (h1 : m ≠ 10) (h2 : m ≠ 20) (h : tabs_Edges.f r ≠ none) : tabs_Bins.f r m 0 = some (0, 0) := by
  unfold tabs_Bins.f
  cases he : tabs_Edges.f r with
  | none => exact absurd he h
  | some t => simp only [Option.bind_some, if_neg h1, if_neg h2]
theorem edges_none (r : Int) (h1 : r ≠ 8000) (h2 : r ≠ 16000) (h3 : r ≠ 24000) : tabs_Edges.f r = some [] := by
  unfold tabs_Edges.f
  simp only [Option.bind_some, if_neg h1, if_neg h2, if_neg h3]
theorem none_rate (r m : Int) (h1 : r ≠ 8000) (h2 : r ≠ 16000) (h3 : r ≠ 24000) : tabs_Bins.f r m 0 = some (0, 0) := by
  unfold tabs_Bins.f
  rw [edges_none r h1 h2 h3]
  have e : (0 : Int) ≥ wrap64 ((([] : List Int).length : Int) - 1) := by decide +kernel
  simp only [Option.bind_some, if_neg (show ¬ (0 : Int) < 0 by omega), if_pos e]
  repeat' split
  all_goals rfl
theorem case_true (r m : Int) (hr : r = 8000 ∨ r = 16000 ∨ r = 24000) (he : tabs_Edges.f r ≠ none) (h : m = 10 ∨ m = 20 → Ev (fun k => madrigallaw2_TabsBands.j0 k r m false) true) : Ev (fun k => madrigallaw2_TabsBands.f k r m) true := by
  have hR : tabs_Rate.f r = some true := by
    unfold tabs_Rate.f
    rcases hr with rfl | rfl | rfl <;> rfl
  refine Ev.congr (fun k => by rw [madrigallaw2_TabsBands.f]) (Ev.bind awake2 (evPos rfl (Ev.bind (evConst hR) (evPos rfl ?_))))
  refine evIte (fun h1 => h (.inl h1)) (fun h1 => ?_)
  by_cases h2 : m = 20
  · have e : (m != 20) = false := by simpa using h2
    rw [e]; exact h (.inr h2)
  · have e : (m != 20) = true := by simpa using h2
    rw [e]; exact bands_none r m (none_ms r m h1 h2 he)
theorem TabsBands : madrigallaw2_TabsBands.Pure := by
  intro r m _ _
  refine Ev.rounds (g := fun k => madrigallaw2_TabsBands.f k r m) ?_
  by_cases h1 : r = 8000
  · subst h1
    refine case_true _ m (by omega) (by decide) (fun hm => ?_)
    rcases hm with rfl | rfl
    · exact Ev.of (fun k => (madrigallaw2_TabsBands.mono_l k).1 _ _ _) (k := 60) (by kernel_rfl)
    · exact Ev.of (fun k => (madrigallaw2_TabsBands.mono_l k).1 _ _ _) (k := 60) (by kernel_rfl)
  · by_cases h2 : r = 16000
    · subst h2
      refine case_true _ m (by omega) (by decide) (fun hm => ?_)
      rcases hm with rfl | rfl
      · exact Ev.of (fun k => (madrigallaw2_TabsBands.mono_l k).1 _ _ _) (k := 60) (by kernel_rfl)
      · exact Ev.of (fun k => (madrigallaw2_TabsBands.mono_l k).1 _ _ _) (k := 60) (by kernel_rfl)
    · by_cases h3 : r = 24000
      · subst h3
        refine case_true _ m (by omega) (by decide) (fun hm => ?_)
        rcases hm with rfl | rfl
        · exact Ev.of (fun k => (madrigallaw2_TabsBands.mono_l k).1 _ _ _) (k := 60) (by kernel_rfl)
        · exact Ev.of (fun k => (madrigallaw2_TabsBands.mono_l k).1 _ _ _) (k := 60) (by kernel_rfl)
      · have hR : tabs_Rate.f r = some false := by
          unfold tabs_Rate.f
          rw [if_neg h1, if_neg h2]
          simpa using h3
        refine Ev.congr (fun k => by rw [madrigallaw2_TabsBands.f]) (Ev.bind awake2 (evPos rfl (Ev.bind (evConst hR) (evNeg Bool.false_ne_true ?_))))
        exact bands_none r m (none_rate r m h1 h2 h3)
end Go.Proofs.Ytkhcckemcamcbaa.Pure
