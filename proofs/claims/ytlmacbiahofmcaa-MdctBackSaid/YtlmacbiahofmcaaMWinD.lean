/- A window's rise as a number of the quarter: definitions. -/
import Derived.Test.YtlmacbiahofmcaaMCosD
namespace Go.Proofs.Ytlmacbiahofmcaa.M
set_option linter.unusedVariables false
def half (s : Int) : Int := (mul s s 15 + 1) / 2
def gw (x : Int) : Int := qr (16384 - half (qr (16384 - x)))
def pairOk (a b : Int) : Bool := match a, b with
  | .ofNat a, .ofNat b => Nat.ble (a * a + b * b) 1074266112 && Nat.ble 1073217536 (a * a + b * b)
  | _, _ => false
theorem pairOk_is {a b : Int} (h : pairOk a b = true) : a * a + b * b ≤ 1074266112 ∧ 1073217536 ≤ a * a + b * b := by
  unfold pairOk at h
  split at h
  · rename_i a b
    simp only [Bool.and_eq_true] at h
    have h3 := Nat.le_of_ble_eq_true h.1
    have h4 := Nat.le_of_ble_eq_true h.2
    have e : (Int.ofNat a * Int.ofNat a + Int.ofNat b * Int.ofNat b) = ((a * a + b * b : Nat) : Int) := rfl
    rw [e]
    omega
  · simp at h
def leOk (a b : Int) : Bool := match a, b with
  | .ofNat a, .ofNat b => Nat.ble a b
  | _, _ => false
theorem leOk_is {a b : Int} (h : leOk a b = true) : a ≤ b := by
  unfold leOk at h
  split at h
  · rename_i a b
    have h3 := Nat.le_of_ble_eq_true h
    show ((a : Nat) : Int) ≤ (b : Nat)
    omega
  · simp at h
def ev1 (n : Nat) : Bool := pairOk (gw (n : Int)) (gw ((16384 - n : Nat) : Int))
def ev2 (n : Nat) : Bool := pairOk (gw (n : Int)) (gw ((16385 - n : Nat) : Int))
def ev3 (n : Nat) : Bool := leOk (qr ((n + 1 : Nat) : Int)) (qr (n : Int))
end Go.Proofs.Ytlmacbiahofmcaa.M
