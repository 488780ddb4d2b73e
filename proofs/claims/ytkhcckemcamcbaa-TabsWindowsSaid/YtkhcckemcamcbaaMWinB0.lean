/- Windows: pairs and rises, each looked at. -/
import Derived.Test.YtkhcckemcamcbaaMWinD
namespace Go.Proofs.Ytkhcckemcamcbaa.M
set_option linter.unusedVariables false
theorem wb0_1 : all (fun n => ev2 (1 + n)) 512 = true := by kernel_rfl
theorem wb0_513 : all (fun n => ev2 (513 + n)) 512 = true := by kernel_rfl
theorem wb0_1025 : all (fun n => ev2 (1025 + n)) 512 = true := by kernel_rfl
theorem wb0_1537 : all (fun n => ev2 (1537 + n)) 512 = true := by kernel_rfl
theorem wb0_2049 : all (fun n => ev2 (2049 + n)) 512 = true := by kernel_rfl
theorem wb0_2561 : all (fun n => ev2 (2561 + n)) 512 = true := by kernel_rfl
theorem wb0_3073 : all (fun n => ev2 (3073 + n)) 512 = true := by kernel_rfl
theorem wb0_3585 : all (fun n => ev2 (3585 + n)) 512 = true := by kernel_rfl
theorem wb0_all (n : Nat) (h0 : 1 ≤ n) (h : n < 4097) : ev2 n = true := by
  by_cases h1 : n < 513
  · have h' := all_at wb0_1 (n - 1) (by omega)
    have e : 1 + (n - 1) = n := by omega
    simp only [e] at h'
    exact h'
  by_cases h513 : n < 1025
  · have h' := all_at wb0_513 (n - 513) (by omega)
    have e : 513 + (n - 513) = n := by omega
    simp only [e] at h'
    exact h'
  by_cases h1025 : n < 1537
  · have h' := all_at wb0_1025 (n - 1025) (by omega)
    have e : 1025 + (n - 1025) = n := by omega
    simp only [e] at h'
    exact h'
  by_cases h1537 : n < 2049
  · have h' := all_at wb0_1537 (n - 1537) (by omega)
    have e : 1537 + (n - 1537) = n := by omega
    simp only [e] at h'
    exact h'
  by_cases h2049 : n < 2561
  · have h' := all_at wb0_2049 (n - 2049) (by omega)
    have e : 2049 + (n - 2049) = n := by omega
    simp only [e] at h'
    exact h'
  by_cases h2561 : n < 3073
  · have h' := all_at wb0_2561 (n - 2561) (by omega)
    have e : 2561 + (n - 2561) = n := by omega
    simp only [e] at h'
    exact h'
  by_cases h3073 : n < 3585
  · have h' := all_at wb0_3073 (n - 3073) (by omega)
    have e : 3073 + (n - 3073) = n := by omega
    simp only [e] at h'
    exact h'
  have h' := all_at wb0_3585 (n - 3585) (by omega)
  have e : 3585 + (n - 3585) = n := by omega
  simp only [e] at h'
  exact h'
end Go.Proofs.Ytkhcckemcamcbaa.M
