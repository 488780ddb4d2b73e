/- Windows: pairs and rises, each looked at. -/
import Derived.Test.YtkhcckemcamcbaaMWinD
namespace Go.Proofs.Ytkhcckemcamcbaa.M
set_option linter.unusedVariables false
theorem wc1_8192 : all (fun n => ev3 (8192 + n)) 512 = true := by kernel_rfl
theorem wc1_8704 : all (fun n => ev3 (8704 + n)) 512 = true := by kernel_rfl
theorem wc1_9216 : all (fun n => ev3 (9216 + n)) 512 = true := by kernel_rfl
theorem wc1_9728 : all (fun n => ev3 (9728 + n)) 512 = true := by kernel_rfl
theorem wc1_10240 : all (fun n => ev3 (10240 + n)) 512 = true := by kernel_rfl
theorem wc1_10752 : all (fun n => ev3 (10752 + n)) 512 = true := by kernel_rfl
theorem wc1_11264 : all (fun n => ev3 (11264 + n)) 512 = true := by kernel_rfl
theorem wc1_11776 : all (fun n => ev3 (11776 + n)) 512 = true := by kernel_rfl
theorem wc1_12288 : all (fun n => ev3 (12288 + n)) 512 = true := by kernel_rfl
theorem wc1_12800 : all (fun n => ev3 (12800 + n)) 512 = true := by kernel_rfl
theorem wc1_13312 : all (fun n => ev3 (13312 + n)) 512 = true := by kernel_rfl
theorem wc1_13824 : all (fun n => ev3 (13824 + n)) 512 = true := by kernel_rfl
theorem wc1_14336 : all (fun n => ev3 (14336 + n)) 512 = true := by kernel_rfl
theorem wc1_14848 : all (fun n => ev3 (14848 + n)) 512 = true := by kernel_rfl
theorem wc1_15360 : all (fun n => ev3 (15360 + n)) 512 = true := by kernel_rfl
theorem wc1_15872 : all (fun n => ev3 (15872 + n)) 512 = true := by kernel_rfl
theorem wc1_all (n : Nat) (h0 : 8192 ≤ n) (h : n < 16384) : ev3 n = true := by
  by_cases h8192 : n < 8704
  · have h' := all_at wc1_8192 (n - 8192) (by omega)
    have e : 8192 + (n - 8192) = n := by omega
    simp only [e] at h'
    exact h'
  by_cases h8704 : n < 9216
  · have h' := all_at wc1_8704 (n - 8704) (by omega)
    have e : 8704 + (n - 8704) = n := by omega
    simp only [e] at h'
    exact h'
  by_cases h9216 : n < 9728
  · have h' := all_at wc1_9216 (n - 9216) (by omega)
    have e : 9216 + (n - 9216) = n := by omega
    simp only [e] at h'
    exact h'
  by_cases h9728 : n < 10240
  · have h' := all_at wc1_9728 (n - 9728) (by omega)
    have e : 9728 + (n - 9728) = n := by omega
    simp only [e] at h'
    exact h'
  by_cases h10240 : n < 10752
  · have h' := all_at wc1_10240 (n - 10240) (by omega)
    have e : 10240 + (n - 10240) = n := by omega
    simp only [e] at h'
    exact h'
  by_cases h10752 : n < 11264
  · have h' := all_at wc1_10752 (n - 10752) (by omega)
    have e : 10752 + (n - 10752) = n := by omega
    simp only [e] at h'
    exact h'
  by_cases h11264 : n < 11776
  · have h' := all_at wc1_11264 (n - 11264) (by omega)
    have e : 11264 + (n - 11264) = n := by omega
    simp only [e] at h'
    exact h'
  by_cases h11776 : n < 12288
  · have h' := all_at wc1_11776 (n - 11776) (by omega)
    have e : 11776 + (n - 11776) = n := by omega
    simp only [e] at h'
    exact h'
  by_cases h12288 : n < 12800
  · have h' := all_at wc1_12288 (n - 12288) (by omega)
    have e : 12288 + (n - 12288) = n := by omega
    simp only [e] at h'
    exact h'
  by_cases h12800 : n < 13312
  · have h' := all_at wc1_12800 (n - 12800) (by omega)
    have e : 12800 + (n - 12800) = n := by omega
    simp only [e] at h'
    exact h'
  by_cases h13312 : n < 13824
  · have h' := all_at wc1_13312 (n - 13312) (by omega)
    have e : 13312 + (n - 13312) = n := by omega
    simp only [e] at h'
    exact h'
  by_cases h13824 : n < 14336
  · have h' := all_at wc1_13824 (n - 13824) (by omega)
    have e : 13824 + (n - 13824) = n := by omega
    simp only [e] at h'
    exact h'
  by_cases h14336 : n < 14848
  · have h' := all_at wc1_14336 (n - 14336) (by omega)
    have e : 14336 + (n - 14336) = n := by omega
    simp only [e] at h'
    exact h'
  by_cases h14848 : n < 15360
  · have h' := all_at wc1_14848 (n - 14848) (by omega)
    have e : 14848 + (n - 14848) = n := by omega
    simp only [e] at h'
    exact h'
  by_cases h15360 : n < 15872
  · have h' := all_at wc1_15360 (n - 15360) (by omega)
    have e : 15360 + (n - 15360) = n := by omega
    simp only [e] at h'
    exact h'
  have h' := all_at wc1_15872 (n - 15872) (by omega)
  have e : 15872 + (n - 15872) = n := by omega
  simp only [e] at h'
  exact h'
end Go.Proofs.Ytkhcckemcamcbaa.M
