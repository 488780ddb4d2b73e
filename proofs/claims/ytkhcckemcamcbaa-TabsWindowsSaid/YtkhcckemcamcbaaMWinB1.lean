/- Windows: pairs and rises, each looked at. -/
import Derived.Test.YtkhcckemcamcbaaMWinD
namespace Go.Proofs.Ytkhcckemcamcbaa.M
set_option linter.unusedVariables false
theorem wb1_4097 : all (fun n => ev2 (4097 + n)) 512 = true := by kernel_rfl
theorem wb1_4609 : all (fun n => ev2 (4609 + n)) 512 = true := by kernel_rfl
theorem wb1_5121 : all (fun n => ev2 (5121 + n)) 512 = true := by kernel_rfl
theorem wb1_5633 : all (fun n => ev2 (5633 + n)) 512 = true := by kernel_rfl
theorem wb1_6145 : all (fun n => ev2 (6145 + n)) 512 = true := by kernel_rfl
theorem wb1_6657 : all (fun n => ev2 (6657 + n)) 512 = true := by kernel_rfl
theorem wb1_7169 : all (fun n => ev2 (7169 + n)) 512 = true := by kernel_rfl
theorem wb1_7681 : all (fun n => ev2 (7681 + n)) 512 = true := by kernel_rfl
theorem wb1_all (n : Nat) (h0 : 4097 ≤ n) (h : n < 8193) : ev2 n = true := by
  by_cases h4097 : n < 4609
  · have h' := all_at wb1_4097 (n - 4097) (by omega)
    have e : 4097 + (n - 4097) = n := by omega
    simp only [e] at h'
    exact h'
  by_cases h4609 : n < 5121
  · have h' := all_at wb1_4609 (n - 4609) (by omega)
    have e : 4609 + (n - 4609) = n := by omega
    simp only [e] at h'
    exact h'
  by_cases h5121 : n < 5633
  · have h' := all_at wb1_5121 (n - 5121) (by omega)
    have e : 5121 + (n - 5121) = n := by omega
    simp only [e] at h'
    exact h'
  by_cases h5633 : n < 6145
  · have h' := all_at wb1_5633 (n - 5633) (by omega)
    have e : 5633 + (n - 5633) = n := by omega
    simp only [e] at h'
    exact h'
  by_cases h6145 : n < 6657
  · have h' := all_at wb1_6145 (n - 6145) (by omega)
    have e : 6145 + (n - 6145) = n := by omega
    simp only [e] at h'
    exact h'
  by_cases h6657 : n < 7169
  · have h' := all_at wb1_6657 (n - 6657) (by omega)
    have e : 6657 + (n - 6657) = n := by omega
    simp only [e] at h'
    exact h'
  by_cases h7169 : n < 7681
  · have h' := all_at wb1_7169 (n - 7169) (by omega)
    have e : 7169 + (n - 7169) = n := by omega
    simp only [e] at h'
    exact h'
  have h' := all_at wb1_7681 (n - 7681) (by omega)
  have e : 7681 + (n - 7681) = n := by omega
  simp only [e] at h'
  exact h'
end Go.Proofs.Ytkhcckemcamcbaa.M
