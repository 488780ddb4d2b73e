/- Blocks joined again: how far the sums over the cosines' table lie from what they should be, as the kernel reckons it. -/
import Derived.Test.YtlmacbiahofmcaaMBack
import Derived.Test.YtlmacbiahofmcaaMCos
namespace Go.Proofs.Ytlmacbiahofmcaa.M
set_option linter.unusedVariables false

theorem qat_in {x : Nat} (h : x < 16385) : qat x ≤ 32768 := by
  have h1 := qrl_all x h
  have h2 := circle (m := (x : Int)) (by omega) (by omega)
  omega
theorem tn_eq {n p : Nat} (hn : 1 ≤ n) (hp : p < 8 * n) : ((tn n p : Nat) : Int) = 32768 + tabM n p := by
  rcases tn_is hn hp with h | h | ⟨x, hx, h⟩
  · exact h
  · have := qat_in (x := 0) (by omega)
    omega
  · have := qat_in hx
    omega
theorem cosM_in (a : Int) : -32768 ≤ cosI a ∧ cosI a ≤ 32768 := by
  obtain ⟨m, h0, h1, h⟩ := quads a
  have hq := circle h0 h1
  rcases h with h | h | h | h
  · rw [cos_pos h0 h1 (Or.inl h)]; omega
  · rw [cos_pos h0 h1 (Or.inr h)]; omega
  · rw [cos_neg h0 h1 (Or.inl h)]; omega
  · rw [cos_neg h0 h1 (Or.inr h)]; omega
theorem tn_lt {n p : Nat} (hn : 1 ≤ n) (hp : p < 8 * n) : tn n p < 131072 := by
  have h := tn_eq hn hp
  have h2 := cosM_in ((((p * 16384 / n : Nat) : Int) + 1) / 2)
  unfold tabM at h
  omega
noncomputable def tab (n : Nat) : Nat := tpack n (Nat.mul 8 n) 0
theorem look_tab {n p : Nat} (hn : 1 ≤ n) (hp : p < 8 * n) : look (tab n) p = tn n p := by
  have e : tab n = pks 131072 (fun j => tn n (0 + j)) (8 * n) := tpack_pks n (8 * n) 0
  unfold look
  show Nat.shiftRight (tab n) (17 * p) % 131072 = _
  rw [shr_pow, e, show (2 : Nat) ^ 17 = 131072 by decide]
  have := pks_digit (B := 131072) (by decide) (r := 8 * n) (f := fun j => tn n (0 + j)) p (fun j hj => by rw [Nat.zero_add]; exact tn_lt hn hj) hp
  rw [Nat.zero_add] at this
  exact this
/-- A number of the cosines' table, for sample i and frequency k. -/
def T (n i k : Nat) : Int := tabM n ((2 * i + 1 + n) * (2 * k + 1) % (8 * n))
theorem T_in (n i k : Nat) : -32768 ≤ T n i k ∧ T n i k ≤ 32768 := cosM_in _
theorem tt_T {n i k : Nat} (hn : 1 ≤ n) : ((tt (tab n) n i (1 + 2 * k) : Nat) : Int) = 32768 + T n i k := by
  unfold tt T
  rw [look_tab hn (Nat.mod_lt _ (by omega)), tn_eq hn (Nat.mod_lt _ (by omega)), Nat.add_comm 1 (2 * k)]
/-- Sums of whole numbers. -/
def sZ (f : Nat → Int) : Nat → Int
  | 0 => 0
  | r + 1 => f 0 + sZ (fun k => f (k + 1)) r
theorem sZ_congr : ∀ {r : Nat} {f g : Nat → Int}, (∀ j, j < r → f j = g j) → sZ f r = sZ g r
  | 0, _, _, _ => rfl
  | r + 1, f, g, h => by
    simp only [sZ]
    rw [h 0 (by omega), sZ_congr fun j hj => h (j + 1) (by omega)]
theorem sZ_cast : ∀ {r : Nat} {f : Nat → Nat}, ((sN f r : Nat) : Int) = sZ (fun k => (f k : Int)) r
  | 0, _ => rfl
  | r + 1, f => by
    simp only [sN, sZ]
    rw [← sZ_cast]
    omega
theorem sZ_add : ∀ {r : Nat} {f g : Nat → Int}, sZ f r + sZ g r = sZ (fun k => f k + g k) r
  | 0, _, _ => rfl
  | r + 1, f, g => by
    simp only [sZ]
    rw [← sZ_add]
    omega
theorem sZ_mul {c : Int} : ∀ {r : Nat} {f : Nat → Int}, c * sZ f r = sZ (fun k => c * f k) r
  | 0, _ => by simp [sZ]
  | r + 1, f => by
    simp only [sZ]
    rw [← sZ_mul, Int.mul_add]
theorem sZ_const {c : Int} : ∀ {r : Nat}, sZ (fun _ => c) r = (r : Int) * c
  | 0 => by simp [sZ]
  | r + 1 => by
    simp only [sZ]
    rw [sZ_const]
    push_cast
    rw [Int.add_mul]
    omega
theorem sZ_in {b : Int} (hb : 0 ≤ b) : ∀ {r : Nat} {f : Nat → Int}, (∀ k, k < r → -b ≤ f k ∧ f k ≤ b) → -((r : Int) * b) ≤ sZ f r ∧ sZ f r ≤ (r : Int) * b
  | 0, _, _ => by simp [sZ]
  | r + 1, f, h => by
    have h0 := h 0 (by omega)
    have ih := sZ_in hb (r := r) (f := fun k => f (k + 1)) fun k hk => h (k + 1) (by omega)
    simp only [sZ]
    push_cast
    rw [Int.add_mul]
    omega
def GG (n i j : Nat) : Int := sZ (fun k => T n i k * T n j k) n
/-- What the sum should be, in units of n 2^29. -/
def II (n i j : Nat) : Int := (if j = i then 1 else 0) + (if i < n then (if j = n - 1 - i then -1 else 0) else (if j = 3 * n - 1 - i then 1 else 0))
def DD (n i j : Nat) : Int := GG n i j - (n : Int) * 536870912 * II n i j
theorem TT_in (n i j k : Nat) : -1073741824 ≤ T n i k * T n j k ∧ T n i k * T n j k ≤ 1073741824 := by
  have h1 := T_in n i k
  have h2 := T_in n j k
  generalize T n i k = u at *
  generalize T n j k = v at *
  rcases Int.le_total 0 u with h | h
  · have a1 : u * v ≤ u * 32768 := Int.mul_le_mul_of_nonneg_left h2.2 h
    have a3 : u * (-32768) ≤ u * v := Int.mul_le_mul_of_nonneg_left h2.1 h
    omega
  · have a1 : u * v ≤ u * (-32768) := Int.mul_le_mul_of_nonpos_left h h2.1
    have a3 : u * 32768 ≤ u * v := Int.mul_le_mul_of_nonpos_left h h2.2
    omega
theorem GG_in (n i j : Nat) : -((n : Int) * 1073741824) ≤ GG n i j ∧ GG n i j ≤ (n : Int) * 1073741824 := sZ_in (by omega) fun k _ => TT_in n i j k
theorem DD_in {n i j : Nat} (hn : n ≤ 160) : -549755813888 < DD n i j ∧ DD n i j < 549755813888 := by
  have h := GG_in n i j
  have hI : II n i j = 0 ∨ II n i j = 1 ∨ II n i j = -1 ∨ II n i j = 2 := by
    unfold II
    repeat' split
    all_goals omega
  unfold DD
  rcases hI with e | e | e | e <;> rw [e] <;> omega
noncomputable def sumsN (n i j : Nat) : Nat := sN (fun k => tt (tab n) n i (1 + 2 * k) * tt (tab n) n j (1 + 2 * k)) n
noncomputable def sumN (n i : Nat) : Nat := sN (fun k => tt (tab n) n i (1 + 2 * k)) n
theorem sumN_is {n i : Nat} (hn : 1 ≤ n) : ((sumN n i : Nat) : Int) = (n : Int) * 32768 + sZ (fun k => T n i k) n := by
  unfold sumN
  rw [sZ_cast, sZ_congr (g := fun k => 32768 + T n i k) (fun k _ => tt_T hn), ← sZ_add, sZ_const]
theorem sumsN_is {n i j : Nat} (hn : 1 ≤ n) : ((sumsN n i j : Nat) : Int) + (n : Int) * 1073741824 = GG n i j + 32768 * ((sumN n i : Nat) : Int) + 32768 * ((sumN n j : Nat) : Int) := by
  unfold sumsN GG
  rw [sZ_cast, sumN_is hn, sumN_is hn, Int.mul_add, Int.mul_add, sZ_mul, sZ_mul]
  rw [sZ_congr (g := fun k => 1073741824 + (T n i k * T n j k + (32768 * T n i k + 32768 * T n j k))) (fun k _ => by
    push_cast
    rw [tt_T hn, tt_T hn, Int.mul_add, Int.add_mul, Int.add_mul, Int.mul_comm (T n i k) 32768]
    omega)]
  rw [← sZ_add, ← sZ_add, ← sZ_add, sZ_const]
  omega
/-- The sum of how far one row lies from what it should be. -/
noncomputable def rowsum (n on sr : Nat) (rows : List Nat) (i : Nat) : Nat :=
  absum 1099511627776 40 549755813888 (Nat.mul 2 n)
    (Nat.sub (Nat.add (Nat.add (accAt 1099511627776 40 i rows 0) (Nat.mul (Nat.add (Nat.mul n 1073741824) 549755813888) on)) (cond (Nat.blt i n) (Nat.mul (Nat.mul n 536870912) (Nat.pow 1099511627776 (Nat.sub (Nat.sub n 1) i))) 0))
      (Nat.add (Nat.add (Nat.mul 32768 sr) (Nat.mul (Nat.mul 32768 (Nat.mod (Nat.shiftRight sr (Nat.mul 40 i)) 1099511627776)) on)) (Nat.add (Nat.mul (Nat.mul n 536870912) (Nat.pow 1099511627776 i)) (cond (Nat.blt i n) 0 (Nat.mul (Nat.mul n 536870912) (Nat.pow 1099511627776 (Nat.sub (Nat.sub (Nat.mul 3 n) 1) i))))))) 0
theorem pks_sub {B : Nat} {r : Nat} {x y z : Nat → Nat} (h : ∀ j, j < r → x j = y j + z j) : pks B x r - pks B y r = pks B z r := by
  rw [pks_congr (g := fun j => y j + z j) h, ← pks_add]
  omega
theorem blt_cond {α : Type} (i n : Nat) (a b : α) : cond (Nat.blt i n) a b = if i < n then a else b := by
  by_cases h : i < n
  · have hb : Nat.blt i n = true := by simpa [Nat.blt_eq] using h
    rw [hb, if_pos h]
    rfl
  · have hb : Nat.blt i n = false := by
      cases hx : Nat.blt i n with
      | false => rfl
      | true => exact absurd (by simpa [Nat.blt_eq] using hx) h
    rw [hb, if_neg h]
    rfl
theorem pks_unit {B r i c : Nat} (h : i < r) : c * B ^ i = pks B (fun j => if j = i then c else 0) r := by
  rw [pks_at h, pks_mul]
  exact pks_congr fun j _ => by split <;> simp
theorem pks_cell {B : Nat} (b : Bool) {r i c : Nat} (h : b = true → i < r) : (if b = true then c * B ^ i else 0) = pks B (fun j => if b = true then (if j = i then c else 0) else 0) r := by
  cases b with
  | false => simp [pks_zero]
  | true => simpa using pks_unit (h rfl)
theorem rowsum_gen (B w H : Nat) (hB : B = 2 ^ w) (hB40 : B = 1099511627776) (hH : H = 549755813888) {n i : Nat} (h1 : 4 ≤ n) (h2 : n ≤ 160) (hi : i < 2 * n) :
    absum B w H (2 * n)
      ((accAt B w i (rowsAt B (tab n) n n 1) 0 + (n * 1073741824 + H) * ones B (2 * n) + (if i < n then n * 536870912 * B ^ (n - 1 - i) else 0))
        - (32768 * sumR (rowsAt B (tab n) n n 1) + 32768 * (Nat.shiftRight (sumR (rowsAt B (tab n) n n 1)) (w * i) % B) * ones B (2 * n) + (n * 536870912 * B ^ i + (if i < n then 0 else n * 536870912 * B ^ (3 * n - 1 - i))))) 0
      = sN (fun j => (DD n i j).natAbs) (2 * n) := by
  have hacc : accAt B w i (rowsAt B (tab n) n n 1) 0 = pks B (fun j => sumsN n i j) (2 * n) := by
    have := acc_pks B w (tab n) n i hB (by omega) (by omega) hi n 1 (fun _ => 0)
    rw [pks_zero] at this
    rw [this]
    exact pks_congr fun j _ => by rw [Nat.zero_add]; rfl
  have hsum : sumR (rowsAt B (tab n) n n 1) = pks B (fun j => sumN n j) (2 * n) := sum_pks B (tab n) n (by omega) n 1
  have hTn : ∀ j, sumN n j < B := by
    intro j
    have h := sumN_is (n := n) (i := j) (by omega)
    have hz := sZ_in (b := 32768) (by omega) (r := n) (f := fun k => T n j k) fun k _ => T_in n j k
    omega
  have hdig : Nat.shiftRight (pks B (fun j => sumN n j) (2 * n)) (w * i) % B = sumN n i := by
    rw [shr_pow, ← hB]
    exact pks_digit (by omega) i (fun j _ => hTn j) hi
  rw [hacc, hsum, hdig, ones_pks, pks_mul, pks_mul, pks_mul, pks_add, pks_add]
  have hm1 : (if i < n then n * 536870912 * B ^ (n - 1 - i) else 0) = pks B (fun j => if i < n then (if j = n - 1 - i then n * 536870912 else 0) else 0) (2 * n) := by
    by_cases h : i < n
    · simp only [if_pos h]; exact pks_unit (by omega)
    · simp only [if_neg h]; exact pks_zero.symm
  have hm2 : (if i < n then 0 else n * 536870912 * B ^ (3 * n - 1 - i)) = pks B (fun j => if i < n then 0 else (if j = 3 * n - 1 - i then n * 536870912 else 0)) (2 * n) := by
    by_cases h : i < n
    · simp only [if_pos h]; exact pks_zero.symm
    · simp only [if_neg h]; exact pks_unit (by omega)
  rw [hm1, hm2, pks_unit (c := n * 536870912) hi, pks_add, pks_add, pks_add]
  have key : ∀ j, j < 2 * n → (H : Int) + DD n i j = ((H : Int) + DD n i j).toNat ∧ ((H : Int) + DD n i j).toNat < B := by
    intro j _
    have := DD_in (i := i) (j := j) h2
    omega
  rw [pks_sub (z := fun j => ((H : Int) + DD n i j).toNat) (fun j hj => by
    have hk := (key j hj).1
    have hs := sumsN_is (n := n) (i := i) (j := j) (by omega)
    have hD : DD n i j = GG n i j - (n : Int) * 536870912 * II n i j := rfl
    have hI : II n i j = (if j = i then 1 else 0) + (if i < n then (if j = n - 1 - i then -1 else 0) else (if j = 3 * n - 1 - i then 1 else 0)) := rfl
    generalize ((H : Int) + DD n i j).toNat = z at *
    generalize DD n i j = d at *
    generalize GG n i j = g at *
    generalize sumsN n i j = a at *
    generalize sumN n i = b at *
    generalize sumN n j = c at *
    generalize II n i j = e at *
    by_cases h3 : i < n
    · simp only [if_pos h3] at hI ⊢
      by_cases h4 : j = i
      · simp only [if_pos h4] at hI ⊢
        by_cases h5 : j = n - 1 - i
        · simp only [if_pos h5] at hI ⊢
          subst hI
          omega
        · simp only [if_neg h5] at hI ⊢
          subst hI
          omega
      · simp only [if_neg h4] at hI ⊢
        by_cases h5 : j = n - 1 - i
        · simp only [if_pos h5] at hI ⊢
          subst hI
          omega
        · simp only [if_neg h5] at hI ⊢
          subst hI
          omega
    · simp only [if_neg h3] at hI ⊢
      by_cases h4 : j = i
      · simp only [if_pos h4] at hI ⊢
        by_cases h5 : j = 3 * n - 1 - i
        · simp only [if_pos h5] at hI ⊢
          subst hI
          omega
        · simp only [if_neg h5] at hI ⊢
          subst hI
          omega
      · simp only [if_neg h4] at hI ⊢
        by_cases h5 : j = 3 * n - 1 - i
        · simp only [if_pos h5] at hI ⊢
          subst hI
          omega
        · simp only [if_neg h5] at hI ⊢
          subst hI
          omega)]
  rw [absum_pks B w H hB (2 * n) _ 0 fun j hj => (key j hj).2, Nat.zero_add]
  refine sN_congr fun j hj => ?_
  have hk := (key j hj).1
  generalize ((H : Int) + DD n i j).toNat = z at *
  omega
theorem rowsum_is {n i : Nat} (h1 : 4 ≤ n) (h2 : n ≤ 160) (hi : i < 2 * n) :
    rowsum n (ones 1099511627776 (Nat.mul 2 n)) (sumR (rowsAt 1099511627776 (tab n) n n 1)) (rowsAt 1099511627776 (tab n) n n 1) i = sN (fun j => (DD n i j).natAbs) (2 * n) := by
  have h := rowsum_gen 1099511627776 40 549755813888 (by decide) rfl rfl h1 h2 hi
  unfold rowsum
  rw [blt_cond, blt_cond]
  exact h
/-- Rows for which a coarse bound must do: they are told window by window. -/
def isBad (n j : Nat) : Bool := cond (Nat.beq n 51) (Nat.beq j 25) (cond (Nat.beq n 85) (Nat.beq j 42) (cond (Nat.beq n 102) (cond (Nat.beq j 25) true (Nat.beq j 76)) (cond (Nat.beq n 153) (cond (Nat.beq j 25) true (cond (Nat.beq j 76) true (Nat.beq j 127))) false)))
noncomputable def allB (f g : Nat → Nat) (r : Nat) : Bool := @Nat.rec (fun _ => Bool) true (fun i ih => cond (Nat.ble (f i) (g i)) ih false) r
theorem allB_at (f g : Nat → Nat) : ∀ r, allB f g r = true → ∀ i, i < r → f i ≤ g i
  | 0, _, i, hi => by omega
  | r + 1, h, i, hi => by
    have h : cond (Nat.ble (f r) (g r)) (allB f g r) false = true := h
    cases hb : Nat.ble (f r) (g r) with
    | false => rw [hb] at h; cases h
    | true =>
      rw [hb] at h
      by_cases e : i = r
      · subst e
        exact Nat.le_of_ble_eq_true hb
      · exact allB_at f g r h i (by omega)
noncomputable def bnd (n i : Nat) : Nat := cond (isBad n (Nat.mod i n)) (Nat.mul n 1277952) (Nat.mul n 573440)
noncomputable def chk (n : Nat) : Bool := (fun rows => (fun sr => (fun on => allB (fun i => rowsum n on sr rows i) (fun i => bnd n i) (Nat.mul 2 n)) (ones 1099511627776 (Nat.mul 2 n))) (sumR rows)) (rowsAt 1099511627776 (tab n) n n 1)
theorem chk_is {n : Nat} (h1 : 4 ≤ n) (h2 : n ≤ 160) (h : chk n = true) {i : Nat} (hi : i < 2 * n) : sN (fun j => (DD n i j).natAbs) (2 * n) ≤ bnd n i := by
  have := allB_at _ _ _ h i hi
  rw [rowsum_is h1 h2 hi] at this
  exact this
end Go.Proofs.Ytlmacbiahofmcaa.M
