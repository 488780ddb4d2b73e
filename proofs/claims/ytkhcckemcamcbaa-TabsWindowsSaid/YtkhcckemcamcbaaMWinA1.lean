/- Windows: pairs and rises, each looked at. -/
import Derived.Test.YtkhcckemcamcbaaMWinD
namespace Go.Proofs.Ytkhcckemcamcbaa.M
set_option linter.unusedVariables false
theorem wa1_4096 : all (fun n => ev1 (4096 + n)) 512 = true := by kernel_rfl
theorem wa1_4608 : all (fun n => ev1 (4608 + n)) 512 = true := by kernel_rfl
theorem wa1_5120 : all (fun n => ev1 (5120 + n)) 512 = true := by kernel_rfl
theorem wa1_5632 : all (fun n => ev1 (5632 + n)) 512 = true := by kernel_rfl
theorem wa1_6144 : all (fun n => ev1 (6144 + n)) 512 = true := by kernel_rfl
theorem wa1_6656 : all (fun n => ev1 (6656 + n)) 512 = true := by kernel_rfl
theorem wa1_7168 : all (fun n => ev1 (7168 + n)) 512 = true := by kernel_rfl
theorem wa1_7680 : all (fun n => ev1 (7680 + n)) 512 = true := by kernel_rfl
theorem wa1_8192 : all (fun n => ev1 (8192 + n)) 1 = true := by kernel_rfl
theorem wa1_all (n : Nat) (h0 : 4096 ≤ n) (h : n < 8193) : ev1 n = true := by
  by_cases h4096 : n < 4608
  · have h' := all_at wa1_4096 (n - 4096) (by omega)
    have e : 4096 + (n - 4096) = n := by omega
    simp only [e] at h'
    exact h'
  by_cases h4608 : n < 5120
  · have h' := all_at wa1_4608 (n - 4608) (by omega)
    have e : 4608 + (n - 4608) = n := by omega
    simp only [e] at h'
    exact h'
  by_cases h5120 : n < 5632
  · have h' := all_at wa1_5120 (n - 5120) (by omega)
    have e : 5120 + (n - 5120) = n := by omega
    simp only [e] at h'
    exact h'
  by_cases h5632 : n < 6144
  · have h' := all_at wa1_5632 (n - 5632) (by omega)
    have e : 5632 + (n - 5632) = n := by omega
    simp only [e] at h'
    exact h'
  by_cases h6144 : n < 6656
  · have h' := all_at wa1_6144 (n - 6144) (by omega)
    have e : 6144 + (n - 6144) = n := by omega
    simp only [e] at h'
    exact h'
  by_cases h6656 : n < 7168
  · have h' := all_at wa1_6656 (n - 6656) (by omega)
    have e : 6656 + (n - 6656) = n := by omega
    simp only [e] at h'
    exact h'
  by_cases h7168 : n < 7680
  · have h' := all_at wa1_7168 (n - 7168) (by omega)
    have e : 7168 + (n - 7168) = n := by omega
    simp only [e] at h'
    exact h'
  by_cases h7680 : n < 8192
  · have h' := all_at wa1_7680 (n - 7680) (by omega)
    have e : 7680 + (n - 7680) = n := by omega
    simp only [e] at h'
    exact h'
  have h' := all_at wa1_8192 (n - 8192) (by omega)
  have e : 8192 + (n - 8192) = n := by omega
  simp only [e] at h'
  exact h'
end Go.Proofs.Ytkhcckemcamcbaa.M
