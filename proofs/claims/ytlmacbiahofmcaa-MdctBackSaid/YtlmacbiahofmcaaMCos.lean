/- Cosines of a quarter, each looked at: on the circle, within a little. -/
import Derived.Test.YtlmacbiahofmcaaMCosD
namespace Go.Proofs.Ytlmacbiahofmcaa.M
set_option linter.unusedVariables false
def okAt (n : Nat) : Bool := okN (qr (n : Int)) (qr ((16384 - n : Nat) : Int))
theorem circle_0 : all (fun n => okAt (0 + n)) 512 = true := by kernel_rfl
theorem circle_1 : all (fun n => okAt (512 + n)) 512 = true := by kernel_rfl
theorem circle_2 : all (fun n => okAt (1024 + n)) 512 = true := by kernel_rfl
theorem circle_3 : all (fun n => okAt (1536 + n)) 512 = true := by kernel_rfl
theorem circle_4 : all (fun n => okAt (2048 + n)) 512 = true := by kernel_rfl
theorem circle_5 : all (fun n => okAt (2560 + n)) 512 = true := by kernel_rfl
theorem circle_6 : all (fun n => okAt (3072 + n)) 512 = true := by kernel_rfl
theorem circle_7 : all (fun n => okAt (3584 + n)) 512 = true := by kernel_rfl
theorem circle_8 : all (fun n => okAt (4096 + n)) 512 = true := by kernel_rfl
theorem circle_9 : all (fun n => okAt (4608 + n)) 512 = true := by kernel_rfl
theorem circle_10 : all (fun n => okAt (5120 + n)) 512 = true := by kernel_rfl
theorem circle_11 : all (fun n => okAt (5632 + n)) 512 = true := by kernel_rfl
theorem circle_12 : all (fun n => okAt (6144 + n)) 512 = true := by kernel_rfl
theorem circle_13 : all (fun n => okAt (6656 + n)) 512 = true := by kernel_rfl
theorem circle_14 : all (fun n => okAt (7168 + n)) 512 = true := by kernel_rfl
theorem circle_15 : all (fun n => okAt (7680 + n)) 513 = true := by kernel_rfl
theorem circle_all (n : Nat) (h : n < 8193) : okAt n = true := by
  by_cases h0 : n < 512
  · have h' := all_at circle_0 (n - 0) (by omega)
    have e : 0 + (n - 0) = n := by omega
    simp only [e] at h'
    exact h'
  by_cases h1 : n < 1024
  · have h' := all_at circle_1 (n - 512) (by omega)
    have e : 512 + (n - 512) = n := by omega
    simp only [e] at h'
    exact h'
  by_cases h2 : n < 1536
  · have h' := all_at circle_2 (n - 1024) (by omega)
    have e : 1024 + (n - 1024) = n := by omega
    simp only [e] at h'
    exact h'
  by_cases h3 : n < 2048
  · have h' := all_at circle_3 (n - 1536) (by omega)
    have e : 1536 + (n - 1536) = n := by omega
    simp only [e] at h'
    exact h'
  by_cases h4 : n < 2560
  · have h' := all_at circle_4 (n - 2048) (by omega)
    have e : 2048 + (n - 2048) = n := by omega
    simp only [e] at h'
    exact h'
  by_cases h5 : n < 3072
  · have h' := all_at circle_5 (n - 2560) (by omega)
    have e : 2560 + (n - 2560) = n := by omega
    simp only [e] at h'
    exact h'
  by_cases h6 : n < 3584
  · have h' := all_at circle_6 (n - 3072) (by omega)
    have e : 3072 + (n - 3072) = n := by omega
    simp only [e] at h'
    exact h'
  by_cases h7 : n < 4096
  · have h' := all_at circle_7 (n - 3584) (by omega)
    have e : 3584 + (n - 3584) = n := by omega
    simp only [e] at h'
    exact h'
  by_cases h8 : n < 4608
  · have h' := all_at circle_8 (n - 4096) (by omega)
    have e : 4096 + (n - 4096) = n := by omega
    simp only [e] at h'
    exact h'
  by_cases h9 : n < 5120
  · have h' := all_at circle_9 (n - 4608) (by omega)
    have e : 4608 + (n - 4608) = n := by omega
    simp only [e] at h'
    exact h'
  by_cases h10 : n < 5632
  · have h' := all_at circle_10 (n - 5120) (by omega)
    have e : 5120 + (n - 5120) = n := by omega
    simp only [e] at h'
    exact h'
  by_cases h11 : n < 6144
  · have h' := all_at circle_11 (n - 5632) (by omega)
    have e : 5632 + (n - 5632) = n := by omega
    simp only [e] at h'
    exact h'
  by_cases h12 : n < 6656
  · have h' := all_at circle_12 (n - 6144) (by omega)
    have e : 6144 + (n - 6144) = n := by omega
    simp only [e] at h'
    exact h'
  by_cases h13 : n < 7168
  · have h' := all_at circle_13 (n - 6656) (by omega)
    have e : 6656 + (n - 6656) = n := by omega
    simp only [e] at h'
    exact h'
  by_cases h14 : n < 7680
  · have h' := all_at circle_14 (n - 7168) (by omega)
    have e : 7168 + (n - 7168) = n := by omega
    simp only [e] at h'
    exact h'
  have h' := all_at circle_15 (n - 7680) (by omega)
  have e : 7680 + (n - 7680) = n := by omega
  simp only [e] at h'
  exact h'
theorem circle {m : Int} (h0 : 0 ≤ m) (h1 : m ≤ 16384) : 0 ≤ qr m ∧ qr m ≤ 32768 ∧ 0 ≤ qr (16384 - m) ∧ qr (16384 - m) ≤ 32768 ∧ qr m * qr m + qr (16384 - m) * qr (16384 - m) ≤ 1074003968 ∧ 1073479680 ≤ qr m * qr m + qr (16384 - m) * qr (16384 - m) := by
  by_cases h : m ≤ 8192
  · have h2 := okN_is (circle_all m.toNat (by omega))
    have e1 : ((m.toNat : Nat) : Int) = m := Int.toNat_of_nonneg h0
    have e2 : ((16384 - m.toNat : Nat) : Int) = 16384 - m := by omega
    rw [e1, e2] at h2
    exact h2
  · have h2 := okN_is (circle_all (16384 - m).toNat (by omega))
    have e1 : (((16384 - m).toNat : Nat) : Int) = 16384 - m := Int.toNat_of_nonneg (by omega)
    have e2 : ((16384 - (16384 - m).toNat : Nat) : Int) = m := by omega
    rw [e1, e2] at h2
    omega
theorem qr_end : qr 16384 = 0 := by kernel_rfl
theorem cos_pos {a m : Int} (h0 : 0 ≤ m) (h1 : m ≤ 16384) (h : (a - m) % 65536 = 0 ∨ (a + m) % 65536 = 0) : cosI a = qr m := by
  have hf : fold a = m := by
    unfold fold; split <;> omega
  unfold cosI
  rw [hf, if_neg (by omega)]
theorem cos_neg {a m : Int} (h0 : 0 ≤ m) (h1 : m ≤ 16384) (h : (a - 32768 - m) % 65536 = 0 ∨ (a - 32768 + m) % 65536 = 0) : cosI a = -qr m := by
  have hf : fold a = 32768 - m := by
    unfold fold; split <;> omega
  unfold cosI
  rw [hf]
  by_cases e : m = 16384
  · subst e; rw [if_neg (by omega)]; show qr 16384 = -qr 16384; rw [qr_end]; rfl
  · rw [if_pos (by omega)]
    have e2 : 32768 - (32768 - m) = m := by omega
    rw [e2]
theorem quads (a : Int) : ∃ m : Int, 0 ≤ m ∧ m ≤ 16384 ∧ ((a - m) % 65536 = 0 ∨ (a + m) % 65536 = 0 ∨ (a - 32768 - m) % 65536 = 0 ∨ (a - 32768 + m) % 65536 = 0) := by
  by_cases h1 : a % 65536 ≤ 16384
  · exact ⟨a % 65536, by omega, by omega, by omega⟩
  · by_cases h2 : a % 65536 ≤ 32768
    · exact ⟨32768 - a % 65536, by omega, by omega, by omega⟩
    · by_cases h3 : a % 65536 ≤ 49152
      · exact ⟨a % 65536 - 32768, by omega, by omega, by omega⟩
      · exact ⟨65536 - a % 65536, by omega, by omega, by omega⟩
end Go.Proofs.Ytlmacbiahofmcaa.M
