/- A filter of one number: plain lemmas for the laws of chapter 12. -/
import Derived.Test.YtllglpcpjeggcaaQLpc
namespace Go.Proofs.Ytllglpcpjeggcaa.Q
open Go.RowKit Go.Proofs.Ytllglpcpjeggcaa.P Go.Proofs.YtllglpcpjeggcaaW.PrintWords Go.Proofs.YtllglpcpjeggcaaW.PrintLast Go.Proofs.YtllglpcpjeggcaaW.PrintMore
open Go.Proofs.Ytllglpcpjeggcaa.M
set_option linter.unusedVariables false

theorem stable_small (v : Int) (h : -4091 ≤ v ∧ v ≤ 4091) : stable [v] = true := by
  have e : stable [v] = (if 4096 * clamp v (-131072) 131072 > 16760438 then false else if 4096 * clamp v (-131072) 131072 < -16760438 then false else true) := by
    unfold stable
    rw [if_neg (by simp)]
    show stabN 1 [4096 * clamp v (-131072) 131072] = _
    generalize 4096 * clamp v (-131072) 131072 = x
    have e1 : rd [x] ((0 : Nat) : Int) = x := by simp [rd]
    simp only [stabN, e1]
  rw [e, clamp_id (by omega) (by omega), if_neg (by omega), if_neg (by omega)]
theorem fit_small (v : Int) (h : -4091 ≤ v ∧ v ≤ 4091) : fit [v] = [v] := by
  have hc : held [v] = [v] := by
    show [clamp v (-131072) 131072] = [v]
    rw [clamp_id (by omega) (by omega)]
  rw [fit_kept [v] (by rw [hc]; exact stable_small v h), hc]
end Go.Proofs.Ytllglpcpjeggcaa.Q
