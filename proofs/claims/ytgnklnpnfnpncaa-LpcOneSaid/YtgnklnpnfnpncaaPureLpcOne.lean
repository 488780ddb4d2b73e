/- Of one number a filter is stable just if it is below 0.999; what is not is weakened till it is: without conditions. -/
import Derived.Test.YtgnklnpnfnpncaaPx22
import Derived.Test.YtgnklnpnfnpncaaQLpc
namespace Go.Proofs.Ytgnklnpnfnpncaa.Pure
open Go.RowKit Go.Proofs.Ytgnklnpnfnpncaa.P Go.Proofs.YtgnklnpnfnpncaaW.PrintWords Go.Proofs.YtgnklnpnfnpncaaW.PrintLast Go.Proofs.YtgnklnpnfnpncaaW.PrintMore
open Go.Proofs.Ytgnklnpnfnpncaa.M Go.Proofs.Ytgnklnpnfnpncaa.Q
set_option linter.unusedVariables false

theorem one_awake : Ev (fun k => madrigallaw7_awake.f k) true := Ev.of madrigallaw7_awake.mono (k := 400) (by kernel_rfl)
theorem stable_one (v : Int) : stable [v] = decide (-4091 ≤ v ∧ v ≤ 4091) := by
  have e : stable [v] = (if 4096 * clamp v (-131072) 131072 > 16760438 then false else if 4096 * clamp v (-131072) 131072 < -16760438 then false else true) := by
    unfold stable
    rw [if_neg (by simp)]
    show stabN 1 [4096 * clamp v (-131072) 131072] = _
    generalize 4096 * clamp v (-131072) 131072 = x
    have e1 : rd [x] ((0 : Nat) : Int) = x := by simp [rd]
    simp only [stabN, e1]
  rw [e]
  by_cases h : -4091 ≤ v ∧ v ≤ 4091
  · rw [clamp_id (by omega) (by omega), if_neg (by omega), if_neg (by omega), decide_eq_true h]
  · rw [decide_eq_false h]
    by_cases h2 : 4091 < v
    · have h3 : 4092 ≤ clamp v (-131072) 131072 := by
        unfold clamp; repeat' split
        all_goals omega
      rw [if_pos (by omega)]
    · have h3 : clamp v (-131072) 131072 ≤ -4092 := by
        unfold clamp; repeat' split
        all_goals omega
      rw [if_neg (by omega), if_pos (by omega)]
theorem LpcOne : madrigallaw7_LpcOne.Pure := by
  intro v _
  refine Ev.rounds (g := fun k => madrigallaw7_LpcOne.f k v) ?_
  refine Ev.congr (fun k => by rw [madrigallaw7_LpcOne.f]) (Ev.bind one_awake (evPos rfl (Ev.bind (lpc_stable [v]) (Ev.bind (lpc_fit [v] (by simp)) ?_))))
  have hl : (fit [v]).length = 1 := fit_length [v]
  refine evPos (by omega) (Ev.bind (lpc_stable _) (evPos (fit_stable [v] (by simp)) ?_))
  rw [stable_one]
  have hfin : (-4091 ≤ v ∧ v ≤ 4091) → rd (fit [v]) 0 = v := by
    intro h
    have hc : held [v] = [v] := by
      show [clamp v (-131072) 131072] = [v]
      rw [clamp_id (by omega) (by omega)]
    rw [fit_kept [v] (by rw [hc, stable_one]; exact decide_eq_true h), hc]
    rfl
  refine evIte (fun h => ?_) (fun h => ?_)
  · have e : decide (-4091 ≤ v ∧ v ≤ 4091) = decide (v ≤ 4091) := by
      by_cases h2 : v ≤ 4091
      · rw [decide_eq_true h2, decide_eq_true ⟨by omega, h2⟩]
      · rw [decide_eq_false h2, decide_eq_false (by omega)]
    rw [e]
    refine evPos (by simp) (evIte (fun h2 => ?_) (fun _ => Ev.now _))
    have h3 := of_decide_eq_true h2
    refine evPos (by omega) (evConst ?_)
    rw [hfin ⟨by omega, h3⟩]; simp
  · have e : decide (-4091 ≤ v ∧ v ≤ 4091) = false := decide_eq_false (by omega)
    rw [e]
    exact evPos rfl (evNeg (by simp) (Ev.now _))
end Go.Proofs.Ytgnklnpnfnpncaa.Pure
