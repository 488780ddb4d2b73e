/- A power's logarithm, each of 5853 looked at: within two. -/
import Derived.Test.YtlhdoopmlpnhlaaQExp
import Derived.Test.YtlhdoopmlpnhlaaMLog
namespace Go.Proofs.Ytlhdoopmlpnhlaa.Q
open Go.Proofs.Ytlhdoopmlpnhlaa.M
set_option linter.unusedVariables false

def near (n : Nat) : Bool := Nat.ble (log2 (expN (n + 2048))).toNat (n + 2050) && Nat.ble (n + 2046) (log2 (expN (n + 2048))).toNat
theorem near_all : upto near 5853 = true := by kernel_rfl
theorem exp_log {q : Int} (h0 : 2048 ≤ q) (h1 : q ≤ 7900) : log2 (exp2 q) - q ≤ 2 ∧ -2 ≤ log2 (exp2 q) - q := by
  have h := upto_at near_all (q.toNat - 2048) (by omega)
  have e : q.toNat - 2048 + 2048 = q.toNat := by omega
  unfold near at h
  rw [e] at h
  simp only [Bool.and_eq_true] at h
  have a := Nat.le_of_ble_eq_true h.1
  have b := Nat.le_of_ble_eq_true h.2
  have e2 : exp2 q = (expN q.toNat : Int) := by unfold exp2; rw [clamp_id (by omega) (by omega)]
  rw [e2]
  omega
end Go.Proofs.Ytlhdoopmlpnhlaa.Q
