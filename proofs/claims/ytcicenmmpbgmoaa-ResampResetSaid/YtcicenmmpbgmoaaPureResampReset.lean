/- Behind Reset a sampler is new; it plays the same again: for all rates and all lists that the statement speaks of, without conditions. -/
import Derived.Test.YtcicenmmpbgmoaaPx31
import Derived.Test.YtcicenmmpbgmoaaQAwake22
import Derived.Test.YtcicenmmpbgmoaaQSame22
import Derived.Test.YtcicenmmpbgmoaaQRun22
namespace Go.Proofs.Ytcicenmmpbgmoaa.Pure
open Go.RowKit Go.Proofs.Ytcicenmmpbgmoaa.P Go.Proofs.YtcicenmmpbgmoaaW.PrintWords Go.Proofs.YtcicenmmpbgmoaaW.PrintLast Go.Proofs.YtcicenmmpbgmoaaW.PrintMore Go.Proofs.Ytcicenmmpbgmoaa.Q Go.Proofs.Ytcicenmmpbgmoaa.M
set_option linter.unusedVariables false

theorem ResampReset : madrigallaw22_ResampReset.Pure := by
  intro a b x y _ _ _ _ _ _ _ _
  have hj : ∀ t, Ev (fun k => madrigallaw22_ResampReset.j0 k a b x y t) true := by
    intro t
    refine Ev.step (fun k => by rw [madrigallaw22_ResampReset.j0]) (evIte (fun _ => evConst rfl) fun _ => ?_)
    by_cases hg : a ∈ rates22 ∧ b ∈ rates22
    · obtain ⟨ha, hb⟩ := hg
      obtain ⟨l, m, flt, R⟩ := rates22_ex ha hb
      refine evPos (by rw [good22]; simp [ha, hb]) ?_
      simp only [new22 ha hb, Option.bind_some]
      obtain ⟨o, e, kp, hk1, hk2, hk3, hR⟩ := run22_any R x (List.replicate 16 0) (by simp) (in16_zeros 16)
      refine Ev.bind hR ?_
      simp only [resamp_Sampler_Reset.f, resamp_Sampler_Same.f, Option.bind_some, decide_true, Bool.and_self, if_true, Bool.not_true]
      refine Ev.step (fun k => by rw [madrigallaw22_ResampReset.j1]) (evNeg (by simp) ?_)
      obtain ⟨o2, e2, kp2, hk1, hk2, hk3, hR2⟩ := run22_any R y (List.replicate 16 0) (by simp) (in16_zeros 16)
      refine Ev.bind hR2 (Ev.bind hR2 (evPos rfl ?_))
      refine Ev.bind (same22 o2 o2 (by omega)) ?_
      simp only [resamp_Sampler_Same.f, Option.bind_some, decide_true, Bool.and_self, if_true]
      exact evConst rfl
    · have h0 : resamp_Good.f a b = some false := by
        rw [good22]
        by_cases h : a ∈ rates22
        · have : b ∉ rates22 := fun h2 => hg ⟨h, h2⟩
          simp [this]
        · simp [h]
      refine evNeg (by rw [h0]; simp) ?_
      simp only [resamp_New0.f, h0, Option.bind_some]
      exact evConst rfl
  refine Ev.rounds (Ev.congr (fun k => by rw [madrigallaw22_ResampReset.f]) (Ev.bind awakeEv22 (evPos rfl ?_)))
  exact evIte (fun _ => hj _) fun _ => hj _
end Go.Proofs.Ytcicenmmpbgmoaa.Pure
