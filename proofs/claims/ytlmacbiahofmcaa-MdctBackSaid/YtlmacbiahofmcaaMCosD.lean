/- Cosines, by a polynomial over a quarter: definitions and small lemmas. -/
import Derived.Test.YtlmacbiahofmcaaMFix
import Derived.KernelRfl
namespace Go.Proofs.Ytlmacbiahofmcaa.M
set_option linter.unusedVariables false
/-- A polynomial's value. -/
def ser (z s : Int) (l : List Int) : Int := l.foldl (fun s c => c + mul z s 30) s
/-- A cosine of a quarter's 16384ths. -/
def qr (x : Int) : Int :=
  if x ≤ 8192 then mul (ser (mul (mul x 1686629713 14) (mul x 1686629713 14) 30) (-296) [26631, -1491308, 44739243, -536870912, 1073741824]) 1 15
  else mul (mul (mul (16384 - x) 1686629713 14) (ser (mul (mul (16384 - x) 1686629713 14) (mul (16384 - x) 1686629713 14) 30) 2959 [-213044, 8947849, -178956971, 1073741824]) 30) 1 15
def fold (a : Int) : Int := if a % 65536 > 32768 then 65536 - a % 65536 else a % 65536
def cosI (a : Int) : Int := if fold a > 16384 then -qr (32768 - fold a) else qr (fold a)
theorem mul30 (a b : Int) : mul a b 30 = (fac a * fac b + 536870912) / 1073741824 := by
  unfold mul; rw [if_neg (by omega), if_neg (by omega), if_neg (by omega)]; rfl
theorem mul30_bounds (a b : Int) : -4294967297 ≤ mul a b 30 ∧ mul a b 30 ≤ 4294967297 := by
  have h := fac_prod a b
  rw [mul30]; omega
theorem mul15_bounds (a b : Int) : -140737488355330 ≤ mul a b 15 ∧ mul a b 15 ≤ 140737488355330 := by
  have h := fac_prod a b
  have e : mul a b 15 = (fac a * fac b + 16384) / 32768 := by
    unfold mul; rw [if_neg (by omega), if_neg (by omega), if_neg (by omega)]; rfl
  rw [e]; omega
theorem qr_small (x : Int) : -140737488355330 ≤ qr x ∧ qr x ≤ 140737488355330 := by
  unfold qr; split
  · exact mul15_bounds _ _
  · exact mul15_bounds _ _
/-- Does it hold of all below? -/
def all (p : Nat → Bool) : Nat → Bool
  | 0 => true
  | n + 1 => cond (p n) (all p n) false
theorem all_at {p : Nat → Bool} : ∀ {n : Nat}, all p n = true → ∀ i, i < n → p i = true
  | 0, _, i, hi => by omega
  | n + 1, h, i, hi => by
    unfold all at h
    cases hp : p n with
    | false => rw [hp] at h; simp at h
    | true =>
      rw [hp] at h
      by_cases e : i = n
      · rw [e]; exact hp
      · exact all_at (by simpa using h) i (by omega)
def okN (c s : Int) : Bool := match c, s with
  | .ofNat c, .ofNat s => Nat.ble c 32768 && Nat.ble s 32768 && Nat.ble (c * c + s * s) 1074003968 && Nat.ble 1073479680 (c * c + s * s)
  | _, _ => false
theorem okN_is {c s : Int} (h : okN c s = true) : 0 ≤ c ∧ c ≤ 32768 ∧ 0 ≤ s ∧ s ≤ 32768 ∧ c * c + s * s ≤ 1074003968 ∧ 1073479680 ≤ c * c + s * s := by
  unfold okN at h
  split at h
  · rename_i a b
    simp only [Bool.and_eq_true] at h
    have h1 := Nat.le_of_ble_eq_true h.1.1.1
    have h2 := Nat.le_of_ble_eq_true h.1.1.2
    have h3 := Nat.le_of_ble_eq_true h.1.2
    have h4 := Nat.le_of_ble_eq_true h.2
    have e : (Int.ofNat a * Int.ofNat a + Int.ofNat b * Int.ofNat b) = ((a * a + b * b : Nat) : Int) := rfl
    rw [e]
    refine ⟨Int.natCast_nonneg _, ?_, Int.natCast_nonneg _, ?_, ?_, ?_⟩
    · show ((a : Nat) : Int) ≤ _; omega
    · show ((b : Nat) : Int) ≤ _; omega
    · omega
    · omega
  · simp at h
end Go.Proofs.Ytlmacbiahofmcaa.M
