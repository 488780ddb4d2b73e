/- Blocks joined again: sums over the cosines' table, packed into one number for the kernel; what they come to. -/
import Derived.Test.YtlmacbiahofmcaaMQrl
namespace Go.Proofs.Ytlmacbiahofmcaa.M
set_option linter.unusedVariables false

/-- Numbers laid into one, from the lowest place on. -/
def pks (B : Nat) (f : Nat → Nat) : Nat → Nat
  | 0 => 0
  | r + 1 => f 0 + B * pks B (fun j => f (j + 1)) r
theorem pks_congr {B : Nat} : ∀ {r : Nat} {f g : Nat → Nat}, (∀ j, j < r → f j = g j) → pks B f r = pks B g r
  | 0, _, _, _ => rfl
  | r + 1, f, g, h => by
    simp only [pks]
    rw [h 0 (by omega), pks_congr fun j hj => h (j + 1) (by omega)]
theorem pks_add {B : Nat} : ∀ {r : Nat} {f g : Nat → Nat}, pks B f r + pks B g r = pks B (fun j => f j + g j) r
  | 0, _, _ => rfl
  | r + 1, f, g => by
    simp only [pks]
    rw [← pks_add, Nat.mul_add]
    omega
theorem pks_mul {B c : Nat} : ∀ {r : Nat} {f : Nat → Nat}, c * pks B f r = pks B (fun j => c * f j) r
  | 0, _ => rfl
  | r + 1, f => by
    simp only [pks]
    rw [← pks_mul, Nat.mul_add, ← Nat.mul_assoc, ← Nat.mul_assoc, Nat.mul_comm c B]
theorem pks_digit {B : Nat} (hB : 0 < B) : ∀ {r : Nat} {f : Nat → Nat} (i : Nat), (∀ j, j < r → f j < B) → i < r → pks B f r / B ^ i % B = f i
  | 0, _, _, _, h => by omega
  | r + 1, f, 0, hf, _ => by
    simp only [pks]
    rw [Nat.pow_zero, Nat.div_one, Nat.add_mul_mod_self_left, Nat.mod_eq_of_lt (hf 0 (by omega))]
  | r + 1, f, i + 1, hf, h => by
    simp only [pks]
    rw [Nat.pow_succ', ← Nat.div_div_eq_div_mul, Nat.add_mul_div_left _ _ hB, Nat.div_eq_of_lt (hf 0 (by omega)), Nat.zero_add]
    exact pks_digit hB i (fun j hj => hf (j + 1) (by omega)) (by omega)
theorem pks_zero {B : Nat} : ∀ {r : Nat}, pks B (fun _ => 0) r = 0
  | 0 => rfl
  | r + 1 => by
    simp only [pks]
    rw [pks_zero, Nat.mul_zero]
theorem pks_at {B : Nat} : ∀ {r i : Nat}, i < r → B ^ i = pks B (fun j => if j = i then 1 else 0) r
  | 0, _, h => by omega
  | r + 1, 0, _ => by
    simp only [pks]
    rw [pks_congr (g := fun _ => 0) (fun j _ => if_neg (by omega)), pks_zero]
    simp
  | r + 1, i + 1, h => by
    simp only [pks]
    rw [if_neg (by omega), Nat.pow_succ', pks_at (r := r) (i := i) (by omega), Nat.zero_add]
    congr 1
    exact pks_congr fun j _ => by
      by_cases e : j = i
      · rw [if_pos e, if_pos (by omega)]
      · rw [if_neg e, if_neg (by omega)]
theorem shr_pow (t w p : Nat) : Nat.shiftRight t (w * p) = t / (2 ^ w) ^ p := by
  rw [← Nat.pow_mul]
  exact Nat.shiftRight_eq_div_pow t (w * p)
/-- Sums. -/
def sN (f : Nat → Nat) : Nat → Nat
  | 0 => 0
  | r + 1 => f 0 + sN (fun k => f (k + 1)) r
theorem sN_congr : ∀ {r : Nat} {f g : Nat → Nat}, (∀ j, j < r → f j = g j) → sN f r = sN g r
  | 0, _, _, _ => rfl
  | r + 1, f, g, h => by
    simp only [sN]
    rw [h 0 (by omega), sN_congr fun j hj => h (j + 1) (by omega)]
theorem sN_le : ∀ {r : Nat} {f : Nat → Nat} {b : Nat}, (∀ j, j < r → f j ≤ b) → sN f r ≤ r * b
  | 0, _, _, _ => by simp [sN]
  | r + 1, f, b, h => by
    simp only [sN]
    have h1 := h 0 (by omega)
    have h2 := sN_le (r := r) (f := fun k => f (k + 1)) (b := b) fun j hj => h (j + 1) (by omega)
    rw [Nat.add_mul]
    omega
/-! The table. -/
noncomputable def tn (n p : Nat) : Nat :=
  (fun q => (fun f => cond (Nat.blt 16384 f) (Nat.sub 32768 (qat (Nat.sub 32768 f))) (Nat.add 32768 (qat f))) (cond (Nat.blt 32768 q) (Nat.sub 65536 q) q)) (Nat.div (Nat.add (Nat.div (Nat.mul p 16384) n) 1) 2)
def tabM (n p : Nat) : Int := cosI ((((p * 16384 / n : Nat) : Int) + 1) / 2)
theorem qat_le {x : Nat} (h : x < 16385) : qat x ≤ 65535 := by
  have : qat x < 65536 := Nat.mod_lt _ (by decide)
  omega
theorem tn_is {n p : Nat} (hn : 1 ≤ n) (hp : p < 8 * n) : ((tn n p : Nat) : Int) = 32768 + tabM n p ∨ 32768 < qat 0 ∨ ∃ x, x < 16385 ∧ 32768 < qat x := by
  have hq : p * 16384 / n < 131072 := by
    rw [Nat.div_lt_iff_lt_mul hn]
    omega
  unfold tn tabM cosI fold
  show ((cond (Nat.blt 16384 (cond (Nat.blt 32768 ((p * 16384 / n + 1) / 2)) (65536 - (p * 16384 / n + 1) / 2) ((p * 16384 / n + 1) / 2))) (32768 - qat (32768 - cond (Nat.blt 32768 ((p * 16384 / n + 1) / 2)) (65536 - (p * 16384 / n + 1) / 2) ((p * 16384 / n + 1) / 2))) (32768 + qat (cond (Nat.blt 32768 ((p * 16384 / n + 1) / 2)) (65536 - (p * 16384 / n + 1) / 2) ((p * 16384 / n + 1) / 2))) : Nat) : Int) = _ ∨ _
  generalize p * 16384 / n = m at *
  have e : (((m : Nat) : Int) + 1) / 2 = (((m + 1) / 2 : Nat) : Int) := by omega
  rw [e]
  generalize (m + 1) / 2 = q at *
  have hq2 : q ≤ 65536 := by omega
  -- the folded angle
  obtain ⟨f, hf, hfe, hle⟩ : ∃ f : Nat, f = cond (Nat.blt 32768 q) (65536 - q) q ∧ (if ((q : Nat) : Int) % 65536 > 32768 then 65536 - ((q : Nat) : Int) % 65536 else ((q : Nat) : Int) % 65536) = (f : Int) ∧ f ≤ 32768 := by
    by_cases h : 32768 < q
    · have hb : Nat.blt 32768 q = true := by simpa [Nat.blt_eq] using h
      refine ⟨65536 - q, by rw [hb]; rfl, ?_, by omega⟩
      by_cases h2 : q = 65536
      · subst h2
        decide
      · have e1 : ((q : Nat) : Int) % 65536 = q := by omega
        rw [e1, if_pos (by omega)]
        omega
    · have hb : Nat.blt 32768 q = false := by
        cases hx : Nat.blt 32768 q with
        | false => rfl
        | true => exact absurd (by simpa [Nat.blt_eq] using hx) h
      refine ⟨q, by rw [hb]; rfl, ?_, by omega⟩
      have e1 : ((q : Nat) : Int) % 65536 = q := by omega
      rw [e1, if_neg (by omega)]
  rw [← hf, hfe]
  by_cases h : 16384 < f
  · have hb : Nat.blt 16384 f = true := by simpa [Nat.blt_eq] using h
    rw [hb, if_pos (by omega)]
    have e2 : (32768 : Int) - (f : Int) = ((32768 - f : Nat) : Int) := by omega
    rw [e2, qrl_all (32768 - f) (by omega)]
    by_cases hx : 32768 < qat (32768 - f)
    · exact Or.inr (Or.inr ⟨_, by omega, hx⟩)
    · left
      show ((32768 - qat (32768 - f) : Nat) : Int) = _
      omega
  · have hb : Nat.blt 16384 f = false := by
      cases hx : Nat.blt 16384 f with
      | false => rfl
      | true => exact absurd (by simpa [Nat.blt_eq] using hx) h
    rw [hb, if_neg (by omega), qrl_all f (by omega)]
    left
    show ((32768 + qat f : Nat) : Int) = _
    omega
noncomputable def tpack (n r : Nat) : Nat → Nat := @Nat.rec (fun _ => Nat → Nat) (fun _ => 0) (fun _ ih p => Nat.add (tn n p) (Nat.mul 131072 (ih (Nat.add p 1)))) r
theorem tpack_pks (n : Nat) : ∀ (r p : Nat), tpack n r p = pks 131072 (fun j => tn n (p + j)) r
  | 0, _ => rfl
  | r + 1, p => by
    show tn n p + 131072 * tpack n r (p + 1) = _
    simp only [pks]
    have e : pks 131072 (fun j => tn n (p + 1 + j)) r = pks 131072 (fun j => tn n (p + (j + 1))) r := pks_congr fun j _ => by rw [show p + 1 + j = p + (j + 1) by omega]
    rw [tpack_pks n r (p + 1), e, Nat.add_zero]
noncomputable def look (t p : Nat) : Nat := Nat.mod (Nat.shiftRight t (Nat.mul 17 p)) 131072
noncomputable def rowAt (B : Nat) (g : Nat → Nat) (M s r : Nat) : Nat → Nat := @Nat.rec (fun _ => Nat → Nat) (fun _ => 0) (fun _ ih p => Nat.add (g p) (Nat.mul B (ih (Nat.mod (Nat.add p s) M)))) r
theorem rowAt_pks (B : Nat) (g : Nat → Nat) (M s : Nat) (hM : 0 < M) : ∀ (r p : Nat), p < M → rowAt B g M s r p = pks B (fun j => g ((p + j * s) % M)) r
  | 0, _, _ => rfl
  | r + 1, p, hp => by
    show g p + B * rowAt B g M s r ((p + s) % M) = _
    simp only [pks]
    rw [rowAt_pks B g M s hM r ((p + s) % M) (Nat.mod_lt _ hM), Nat.zero_mul, Nat.add_zero, Nat.mod_eq_of_lt hp]
    congr 2
    exact pks_congr fun j _ => by
      rw [Nat.mod_add_mod, Nat.add_mul, Nat.one_mul]
      congr 2
      omega
noncomputable def rowsAt (B t n r : Nat) : Nat → List Nat := @Nat.rec (fun _ => Nat → List Nat) (fun _ => []) (fun _ ih m => rowAt B (look t) (Nat.mul 8 n) (Nat.mul 2 m) (Nat.mul 2 n) (Nat.mod (Nat.mul (Nat.add n 1) m) (Nat.mul 8 n)) :: ih (Nat.add m 2)) r
noncomputable def accAt (B w i : Nat) (l : List Nat) : Nat → Nat := @List.rec Nat (fun _ => Nat → Nat) (fun a => a) (fun r _ ih a => ih (Nat.add a (Nat.mul (Nat.mod (Nat.shiftRight r (Nat.mul w i)) B) r))) l
noncomputable def sumR (l : List Nat) : Nat := @List.rec Nat (fun _ => Nat) 0 (fun r _ ih => Nat.add r ih) l
noncomputable def ones (B r : Nat) : Nat := @Nat.rec (fun _ => Nat) 0 (fun _ ih => Nat.add 1 (Nat.mul B ih)) r
theorem ones_pks (B : Nat) : ∀ r, ones B r = pks B (fun _ => 1) r
  | 0 => rfl
  | r + 1 => by
    show 1 + B * ones B r = _
    rw [ones_pks B r]
    rfl
/-- A number of the table at a row's place. -/
noncomputable def tt (t n i m : Nat) : Nat := look t ((2 * i + 1 + n) * m % (8 * n))
theorem tt_le (t n i m : Nat) : tt t n i m < 131072 := Nat.mod_lt _ (by decide)
theorem row_pks (B t n m : Nat) (hn : 1 ≤ n) : rowAt B (look t) (8 * n) (2 * m) (2 * n) ((n + 1) * m % (8 * n)) = pks B (fun j => tt t n j m) (2 * n) := by
  rw [rowAt_pks B (look t) (8 * n) (2 * m) (by omega) _ _ (Nat.mod_lt _ (by omega))]
  refine pks_congr fun j _ => ?_
  unfold tt
  rw [Nat.mod_add_mod]
  congr 2
  rw [show j * (2 * m) = 2 * j * m by rw [← Nat.mul_assoc, Nat.mul_comm j 2], ← Nat.add_mul]
  congr 1
  omega
theorem acc_pks (B w t n i : Nat) (hB : B = 2 ^ w) (hB2 : 131072 ≤ B) (hn : 1 ≤ n) (hi : i < 2 * n) : ∀ (r m : Nat) (g : Nat → Nat), accAt B w i (rowsAt B t n r m) (pks B g (2 * n)) = pks B (fun j => g j + sN (fun k => tt t n i (m + 2 * k) * tt t n j (m + 2 * k)) r) (2 * n)
  | 0, m, g => by
    show pks B g (2 * n) = _
    exact pks_congr fun j _ => rfl
  | r + 1, m, g => by
    show accAt B w i (rowsAt B t n r (m + 2)) (pks B g (2 * n) + Nat.shiftRight (rowAt B (look t) (8 * n) (2 * m) (2 * n) ((n + 1) * m % (8 * n))) (w * i) % B * rowAt B (look t) (8 * n) (2 * m) (2 * n) ((n + 1) * m % (8 * n))) = _
    rw [row_pks B t n m hn, shr_pow, ← hB, pks_digit (by omega) i (fun j _ => Nat.lt_of_lt_of_le (tt_le t n j m) hB2) hi, pks_mul, pks_add, acc_pks B w t n i hB hB2 hn hi r (m + 2)]
    refine pks_congr fun j _ => ?_
    simp only [sN]
    rw [Nat.mul_zero, Nat.add_zero, Nat.add_assoc]
    congr 2
    exact sN_congr fun k _ => by rw [show m + 2 + 2 * k = m + 2 * (k + 1) by omega]
theorem sum_pks (B t n : Nat) (hn : 1 ≤ n) : ∀ (r m : Nat), sumR (rowsAt B t n r m) = pks B (fun j => sN (fun k => tt t n j (m + 2 * k)) r) (2 * n)
  | 0, m => by
    show 0 = _
    exact (pks_zero (B := B) (r := 2 * n)).symm
  | r + 1, m => by
    show rowAt B (look t) (8 * n) (2 * m) (2 * n) ((n + 1) * m % (8 * n)) + sumR (rowsAt B t n r (m + 2)) = _
    rw [row_pks B t n m hn, sum_pks B t n hn r (m + 2), pks_add]
    refine pks_congr fun j _ => ?_
    simp only [sN]
    rw [Nat.mul_zero, Nat.add_zero]
    congr 1
    exact sN_congr fun k _ => by rw [show m + 2 + 2 * k = m + 2 * (k + 1) by omega]
/-- The sum of how far the places lie from H. -/
noncomputable def absum (B w H r : Nat) : Nat → Nat → Nat := @Nat.rec (fun _ => Nat → Nat → Nat) (fun _ a => a) (fun _ ih z a => ih (Nat.shiftRight z w) (Nat.add a (Nat.add (Nat.sub (Nat.mod z B) H) (Nat.sub H (Nat.mod z B))))) r
theorem absum_pks (B w H : Nat) (hB : B = 2 ^ w) : ∀ (r : Nat) (f : Nat → Nat) (a : Nat), (∀ j, j < r → f j < B) → absum B w H r (pks B f r) a = a + sN (fun j => (f j - H) + (H - f j)) r
  | 0, _, _, _ => rfl
  | r + 1, f, a, h => by
    show absum B w H r (Nat.shiftRight (f 0 + B * pks B (fun j => f (j + 1)) r) w) (a + (((f 0 + B * pks B (fun j => f (j + 1)) r) % B - H) + (H - (f 0 + B * pks B (fun j => f (j + 1)) r) % B))) = _
    have h0 := h 0 (by omega)
    have e1 : (f 0 + B * pks B (fun j => f (j + 1)) r) % B = f 0 := by rw [Nat.add_mul_mod_self_left, Nat.mod_eq_of_lt h0]
    have e2 : Nat.shiftRight (f 0 + B * pks B (fun j => f (j + 1)) r) w = pks B (fun j => f (j + 1)) r := by
      have := Nat.shiftRight_eq_div_pow (f 0 + B * pks B (fun j => f (j + 1)) r) w
      show _ >>> w = _
      rw [this, ← hB, Nat.add_mul_div_left _ _ (by omega), Nat.div_eq_of_lt h0, Nat.zero_add]
    rw [e1, e2, absum_pks B w H hB r _ _ fun j hj => h (j + 1) (by omega)]
    simp only [sN]
    omega
end Go.Proofs.Ytlmacbiahofmcaa.M
