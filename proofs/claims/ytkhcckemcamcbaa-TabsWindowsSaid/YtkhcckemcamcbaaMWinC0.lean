/- Windows: pairs and rises, each looked at. -/
import Derived.Test.YtkhcckemcamcbaaMWinD
namespace Go.Proofs.Ytkhcckemcamcbaa.M
set_option linter.unusedVariables false
theorem wc0_0 : all (fun n => ev3 (0 + n)) 512 = true := by kernel_rfl
theorem wc0_512 : all (fun n => ev3 (512 + n)) 512 = true := by kernel_rfl
theorem wc0_1024 : all (fun n => ev3 (1024 + n)) 512 = true := by kernel_rfl
theorem wc0_1536 : all (fun n => ev3 (1536 + n)) 512 = true := by kernel_rfl
theorem wc0_2048 : all (fun n => ev3 (2048 + n)) 512 = true := by kernel_rfl
theorem wc0_2560 : all (fun n => ev3 (2560 + n)) 512 = true := by kernel_rfl
theorem wc0_3072 : all (fun n => ev3 (3072 + n)) 512 = true := by kernel_rfl
theorem wc0_3584 : all (fun n => ev3 (3584 + n)) 512 = true := by kernel_rfl
theorem wc0_4096 : all (fun n => ev3 (4096 + n)) 512 = true := by kernel_rfl
theorem wc0_4608 : all (fun n => ev3 (4608 + n)) 512 = true := by kernel_rfl
theorem wc0_5120 : all (fun n => ev3 (5120 + n)) 512 = true := by kernel_rfl
theorem wc0_5632 : all (fun n => ev3 (5632 + n)) 512 = true := by kernel_rfl
theorem wc0_6144 : all (fun n => ev3 (6144 + n)) 512 = true := by kernel_rfl
theorem wc0_6656 : all (fun n => ev3 (6656 + n)) 512 = true := by kernel_rfl
theorem wc0_7168 : all (fun n => ev3 (7168 + n)) 512 = true := by kernel_rfl
theorem wc0_7680 : all (fun n => ev3 (7680 + n)) 512 = true := by kernel_rfl
theorem wc0_all (n : Nat) (h0 : 0 ≤ n) (h : n < 8192) : ev3 n = true := by
  by_cases h0 : n < 512
  · have h' := all_at wc0_0 (n - 0) (by omega)
    have e : 0 + (n - 0) = n := by omega
    simp only [e] at h'
    exact h'
  by_cases h512 : n < 1024
  · have h' := all_at wc0_512 (n - 512) (by omega)
    have e : 512 + (n - 512) = n := by omega
    simp only [e] at h'
    exact h'
  by_cases h1024 : n < 1536
  · have h' := all_at wc0_1024 (n - 1024) (by omega)
    have e : 1024 + (n - 1024) = n := by omega
    simp only [e] at h'
    exact h'
  by_cases h1536 : n < 2048
  · have h' := all_at wc0_1536 (n - 1536) (by omega)
    have e : 1536 + (n - 1536) = n := by omega
    simp only [e] at h'
    exact h'
  by_cases h2048 : n < 2560
  · have h' := all_at wc0_2048 (n - 2048) (by omega)
    have e : 2048 + (n - 2048) = n := by omega
    simp only [e] at h'
    exact h'
  by_cases h2560 : n < 3072
  · have h' := all_at wc0_2560 (n - 2560) (by omega)
    have e : 2560 + (n - 2560) = n := by omega
    simp only [e] at h'
    exact h'
  by_cases h3072 : n < 3584
  · have h' := all_at wc0_3072 (n - 3072) (by omega)
    have e : 3072 + (n - 3072) = n := by omega
    simp only [e] at h'
    exact h'
  by_cases h3584 : n < 4096
  · have h' := all_at wc0_3584 (n - 3584) (by omega)
    have e : 3584 + (n - 3584) = n := by omega
    simp only [e] at h'
    exact h'
  by_cases h4096 : n < 4608
  · have h' := all_at wc0_4096 (n - 4096) (by omega)
    have e : 4096 + (n - 4096) = n := by omega
    simp only [e] at h'
    exact h'
  by_cases h4608 : n < 5120
  · have h' := all_at wc0_4608 (n - 4608) (by omega)
    have e : 4608 + (n - 4608) = n := by omega
    simp only [e] at h'
    exact h'
  by_cases h5120 : n < 5632
  · have h' := all_at wc0_5120 (n - 5120) (by omega)
    have e : 5120 + (n - 5120) = n := by omega
    simp only [e] at h'
    exact h'
  by_cases h5632 : n < 6144
  · have h' := all_at wc0_5632 (n - 5632) (by omega)
    have e : 5632 + (n - 5632) = n := by omega
    simp only [e] at h'
    exact h'
  by_cases h6144 : n < 6656
  · have h' := all_at wc0_6144 (n - 6144) (by omega)
    have e : 6144 + (n - 6144) = n := by omega
    simp only [e] at h'
    exact h'
  by_cases h6656 : n < 7168
  · have h' := all_at wc0_6656 (n - 6656) (by omega)
    have e : 6656 + (n - 6656) = n := by omega
    simp only [e] at h'
    exact h'
  by_cases h7168 : n < 7680
  · have h' := all_at wc0_7168 (n - 7168) (by omega)
    have e : 7168 + (n - 7168) = n := by omega
    simp only [e] at h'
    exact h'
  have h' := all_at wc0_7680 (n - 7680) (by omega)
  have e : 7680 + (n - 7680) = n := by omega
  simp only [e] at h'
  exact h'
end Go.Proofs.Ytkhcckemcamcbaa.M
