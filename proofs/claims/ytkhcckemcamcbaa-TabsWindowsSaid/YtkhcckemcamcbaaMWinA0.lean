/- Windows: pairs and rises, each looked at. -/
import Derived.Test.YtkhcckemcamcbaaMWinD
namespace Go.Proofs.Ytkhcckemcamcbaa.M
set_option linter.unusedVariables false
theorem wa0_0 : all (fun n => ev1 (0 + n)) 512 = true := by kernel_rfl
theorem wa0_512 : all (fun n => ev1 (512 + n)) 512 = true := by kernel_rfl
theorem wa0_1024 : all (fun n => ev1 (1024 + n)) 512 = true := by kernel_rfl
theorem wa0_1536 : all (fun n => ev1 (1536 + n)) 512 = true := by kernel_rfl
theorem wa0_2048 : all (fun n => ev1 (2048 + n)) 512 = true := by kernel_rfl
theorem wa0_2560 : all (fun n => ev1 (2560 + n)) 512 = true := by kernel_rfl
theorem wa0_3072 : all (fun n => ev1 (3072 + n)) 512 = true := by kernel_rfl
theorem wa0_3584 : all (fun n => ev1 (3584 + n)) 512 = true := by kernel_rfl
theorem wa0_all (n : Nat) (h0 : 0 ≤ n) (h : n < 4096) : ev1 n = true := by
  by_cases h0 : n < 512
  · have h' := all_at wa0_0 (n - 0) (by omega)
    have e : 0 + (n - 0) = n := by omega
    simp only [e] at h'
    exact h'
  by_cases h512 : n < 1024
  · have h' := all_at wa0_512 (n - 512) (by omega)
    have e : 512 + (n - 512) = n := by omega
    simp only [e] at h'
    exact h'
  by_cases h1024 : n < 1536
  · have h' := all_at wa0_1024 (n - 1024) (by omega)
    have e : 1024 + (n - 1024) = n := by omega
    simp only [e] at h'
    exact h'
  by_cases h1536 : n < 2048
  · have h' := all_at wa0_1536 (n - 1536) (by omega)
    have e : 1536 + (n - 1536) = n := by omega
    simp only [e] at h'
    exact h'
  by_cases h2048 : n < 2560
  · have h' := all_at wa0_2048 (n - 2048) (by omega)
    have e : 2048 + (n - 2048) = n := by omega
    simp only [e] at h'
    exact h'
  by_cases h2560 : n < 3072
  · have h' := all_at wa0_2560 (n - 2560) (by omega)
    have e : 2560 + (n - 2560) = n := by omega
    simp only [e] at h'
    exact h'
  by_cases h3072 : n < 3584
  · have h' := all_at wa0_3072 (n - 3072) (by omega)
    have e : 3072 + (n - 3072) = n := by omega
    simp only [e] at h'
    exact h'
  have h' := all_at wa0_3584 (n - 3584) (by omega)
  have e : 3584 + (n - 3584) = n := by omega
  simp only [e] at h'
  exact h'
end Go.Proofs.Ytkhcckemcamcbaa.M
