/- Windows' numbers as the kernel reckons them: pairs of them, and the rows of the table that are told window by window. -/
import Derived.Test.YtlmacbiahofmcaaMBack2
import Derived.Test.YtlmacbiahofmcaaMWinD
import Derived.KernelRfl
namespace Go.Proofs.Ytlmacbiahofmcaa.M
set_option linter.unusedVariables false

theorem zrow_gen (B w H : Nat) (hB : B = 2 ^ w) (hB40 : B = 1099511627776) (hH : H = 549755813888) {n i : Nat} (h1 : 4 ≤ n) (h2 : n ≤ 160) (hi : i < 2 * n) :
    ((accAt B w i (rowsAt B (tab n) n n 1) 0 + (n * 1073741824 + H) * ones B (2 * n) + (if i < n then n * 536870912 * B ^ (n - 1 - i) else 0))
        - (32768 * sumR (rowsAt B (tab n) n n 1) + 32768 * (Nat.shiftRight (sumR (rowsAt B (tab n) n n 1)) (w * i) % B) * ones B (2 * n) + (n * 536870912 * B ^ i + (if i < n then 0 else n * 536870912 * B ^ (3 * n - 1 - i))))) = pks B (fun j => ((H : Int) + DD n i j).toNat) (2 * n) := by
  have hacc : accAt B w i (rowsAt B (tab n) n n 1) 0 = pks B (fun j => sumsN n i j) (2 * n) := by
    have := acc_pks B w (tab n) n i hB (by omega) (by omega) hi n 1 (fun _ => 0)
    rw [pks_zero] at this
    rw [this]
    exact pks_congr fun j _ => by rw [Nat.zero_add]; rfl
  have hsum : sumR (rowsAt B (tab n) n n 1) = pks B (fun j => sumN n j) (2 * n) := sum_pks B (tab n) n (by omega) n 1
  have hTn : ∀ j, sumN n j < B := by
    intro j
    have h := sumN_is (n := n) (i := j) (by omega)
    have hz := sZ_in (b := 32768) (by omega) (r := n) (f := fun k => T n j k) fun k _ => T_in n j k
    omega
  have hdig : Nat.shiftRight (pks B (fun j => sumN n j) (2 * n)) (w * i) % B = sumN n i := by
    rw [shr_pow, ← hB]
    exact pks_digit (by omega) i (fun j _ => hTn j) hi
  rw [hacc, hsum, hdig, ones_pks, pks_mul, pks_mul, pks_mul, pks_add, pks_add]
  have hm1 : (if i < n then n * 536870912 * B ^ (n - 1 - i) else 0) = pks B (fun j => if i < n then (if j = n - 1 - i then n * 536870912 else 0) else 0) (2 * n) := by
    by_cases h : i < n
    · simp only [if_pos h]; exact pks_unit (by omega)
    · simp only [if_neg h]; exact pks_zero.symm
  have hm2 : (if i < n then 0 else n * 536870912 * B ^ (3 * n - 1 - i)) = pks B (fun j => if i < n then 0 else (if j = 3 * n - 1 - i then n * 536870912 else 0)) (2 * n) := by
    by_cases h : i < n
    · simp only [if_pos h]; exact pks_zero.symm
    · simp only [if_neg h]; exact pks_unit (by omega)
  rw [hm1, hm2, pks_unit (c := n * 536870912) hi, pks_add, pks_add, pks_add]
  have key : ∀ j, j < 2 * n → (H : Int) + DD n i j = ((H : Int) + DD n i j).toNat ∧ ((H : Int) + DD n i j).toNat < B := by
    intro j _
    have := DD_in (i := i) (j := j) h2
    omega
  rw [pks_sub (z := fun j => ((H : Int) + DD n i j).toNat) (fun j hj => by
    have hk := (key j hj).1
    have hs := sumsN_is (n := n) (i := i) (j := j) (by omega)
    have hD : DD n i j = GG n i j - (n : Int) * 536870912 * II n i j := rfl
    have hI : II n i j = (if j = i then 1 else 0) + (if i < n then (if j = n - 1 - i then -1 else 0) else (if j = 3 * n - 1 - i then 1 else 0)) := rfl
    generalize ((H : Int) + DD n i j).toNat = z at *
    generalize DD n i j = d at *
    generalize GG n i j = g at *
    generalize sumsN n i j = a at *
    generalize sumN n i = b at *
    generalize sumN n j = c at *
    generalize II n i j = e at *
    by_cases h3 : i < n
    · simp only [if_pos h3] at hI ⊢
      by_cases h4 : j = i
      · simp only [if_pos h4] at hI ⊢
        by_cases h5 : j = n - 1 - i
        · simp only [if_pos h5] at hI ⊢
          subst hI
          omega
        · simp only [if_neg h5] at hI ⊢
          subst hI
          omega
      · simp only [if_neg h4] at hI ⊢
        by_cases h5 : j = n - 1 - i
        · simp only [if_pos h5] at hI ⊢
          subst hI
          omega
        · simp only [if_neg h5] at hI ⊢
          subst hI
          omega
    · simp only [if_neg h3] at hI ⊢
      by_cases h4 : j = i
      · simp only [if_pos h4] at hI ⊢
        by_cases h5 : j = 3 * n - 1 - i
        · simp only [if_pos h5] at hI ⊢
          subst hI
          omega
        · simp only [if_neg h5] at hI ⊢
          subst hI
          omega
      · simp only [if_neg h4] at hI ⊢
        by_cases h5 : j = 3 * n - 1 - i
        · simp only [if_pos h5] at hI ⊢
          subst hI
          omega
        · simp only [if_neg h5] at hI ⊢
          subst hI
          omega)]

noncomputable def zrow (n on sr : Nat) (rows : List Nat) (i : Nat) : Nat :=
    (Nat.sub (Nat.add (Nat.add (accAt 1099511627776 40 i rows 0) (Nat.mul (Nat.add (Nat.mul n 1073741824) 549755813888) on)) (cond (Nat.blt i n) (Nat.mul (Nat.mul n 536870912) (Nat.pow 1099511627776 (Nat.sub (Nat.sub n 1) i))) 0))
      (Nat.add (Nat.add (Nat.mul 32768 sr) (Nat.mul (Nat.mul 32768 (Nat.mod (Nat.shiftRight sr (Nat.mul 40 i)) 1099511627776)) on)) (Nat.add (Nat.mul (Nat.mul n 536870912) (Nat.pow 1099511627776 i)) (cond (Nat.blt i n) 0 (Nat.mul (Nat.mul n 536870912) (Nat.pow 1099511627776 (Nat.sub (Nat.sub (Nat.mul 3 n) 1) i)))))))
theorem zrow_is {n i : Nat} (h1 : 4 ≤ n) (h2 : n ≤ 160) (hi : i < 2 * n) :
    zrow n (ones 1099511627776 (Nat.mul 2 n)) (sumR (rowsAt 1099511627776 (tab n) n n 1)) (rowsAt 1099511627776 (tab n) n n 1) i = pks 1099511627776 (fun j => (((549755813888 : Nat) : Int) + DD n i j).toNat) (2 * n) := by
  have h := zrow_gen 1099511627776 40 549755813888 (by decide) rfl rfl h1 h2 hi
  unfold zrow
  rw [blt_cond, blt_cond]
  exact h
noncomputable def wabs (B w H : Nat) (s : Nat → Nat) (r : Nat) : Nat → Nat → Nat → Nat := @Nat.rec (fun _ => Nat → Nat → Nat → Nat) (fun _ _ a => a) (fun _ ih z j a => ih (Nat.shiftRight z w) (Nat.add j 1) (Nat.add a (Nat.mul (s j) (Nat.add (Nat.sub (Nat.mod z B) H) (Nat.sub H (Nat.mod z B)))))) r
theorem wabs_pks (B w H : Nat) (hB : B = 2 ^ w) (s : Nat → Nat) : ∀ (r : Nat) (f : Nat → Nat) (j a : Nat), (∀ j, j < r → f j < B) → wabs B w H s r (pks B f r) j a = a + sN (fun k => s (j + k) * ((f k - H) + (H - f k))) r
  | 0, _, _, _, _ => rfl
  | r + 1, f, j, a, h => by
    show wabs B w H s r (Nat.shiftRight (f 0 + B * pks B (fun j => f (j + 1)) r) w) (j + 1) (a + s j * (((f 0 + B * pks B (fun j => f (j + 1)) r) % B - H) + (H - (f 0 + B * pks B (fun j => f (j + 1)) r) % B))) = _
    have h0 := h 0 (by omega)
    have e1 : (f 0 + B * pks B (fun j => f (j + 1)) r) % B = f 0 := by rw [Nat.add_mul_mod_self_left, Nat.mod_eq_of_lt h0]
    have e2 : Nat.shiftRight (f 0 + B * pks B (fun j => f (j + 1)) r) w = pks B (fun j => f (j + 1)) r := by
      have := Nat.shiftRight_eq_div_pow (f 0 + B * pks B (fun j => f (j + 1)) r) w
      show _ >>> w = _
      rw [this, ← hB, Nat.add_mul_div_left _ _ (by omega), Nat.div_eq_of_lt h0, Nat.zero_add]
    rw [e1, e2, wabs_pks B w H hB s r _ _ _ fun j hj => h (j + 1) (by omega)]
    simp only [sN, Nat.add_zero]
    rw [Nat.add_assoc]
    congr 2
    exact sN_congr fun k _ => by rw [show j + 1 + k = j + (k + 1) by omega]
/-- A window's number. -/
noncomputable def gwN (x : Nat) : Nat := (fun s => qat (Nat.sub 16384 (Nat.div (Nat.add (Nat.div (Nat.add (Nat.mul s s) 16384) 32768) 1) 2))) (qat (Nat.sub 16384 x))
noncomputable def wN (l i : Nat) : Nat := gwN (Nat.div (Nat.add (Nat.div (Nat.mul (Nat.add (Nat.mul 2 i) 1) 16384) l) 1) 2)
theorem gwN_is {x : Nat} (h : x ≤ 16384) : gw (x : Int) = (gwN x : Int) := by
  have e1 : (16384 : Int) - (x : Int) = ((16384 - x : Nat) : Int) := by omega
  have hs := qat_in (x := 16384 - x) (by omega)
  unfold gw half
  rw [e1, qrl_all (16384 - x) (by omega)]
  show _ = ((qat (16384 - ((qat (16384 - x) * qat (16384 - x) + 16384) / 32768 + 1) / 2) : Nat) : Int)
  generalize qat (16384 - x) = s at *
  have hm : mul (s : Int) (s : Int) 15 = (((s * s + 16384) / 32768 : Nat) : Int) := by
    unfold mul
    rw [if_neg (by omega), if_neg (by omega), if_neg (by omega)]
    have e2 : fac (s : Int) = s := fac_id (by omega) (by omega)
    have e3 : (2 : Int) ^ ((15 : Int) - 1).toNat = 16384 := by decide
    have e4 : (2 : Int) ^ (15 : Int).toNat = 32768 := by decide
    rw [e2, e3, e4]
    have e5 : (s : Int) * (s : Int) = ((s * s : Nat) : Int) := by simp
    rw [e5]
    omega
  rw [hm]
  have hss : s * s ≤ 32768 * 32768 := Nat.mul_le_mul hs hs
  generalize s * s = ss at *
  have e6 : (16384 : Int) - (((((ss + 16384) / 32768 : Nat) : Int)) + 1) / 2 = ((16384 - ((ss + 16384) / 32768 + 1) / 2 : Nat) : Int) := by omega
  rw [e6, qrl_all _ (by omega)]
noncomputable def okW (l i : Nat) : Bool := (fun a => (fun b => cond (Nat.ble (Nat.add (Nat.mul a a) (Nat.mul b b)) 1073946625) (cond (Nat.ble 1073741824 (Nat.add (Nat.add (Nat.mul a a) (Nat.mul b b)) 204801)) (Nat.ble (Nat.add a b) 46400) false) false) (wN l (Nat.sub (Nat.sub l 1) i))) (wN l i)
theorem okW_is {l i : Nat} (h : okW l i = true) : wN l i * wN l i + wN l (l - 1 - i) * wN l (l - 1 - i) ≤ 1073946625 ∧ 1073741824 ≤ wN l i * wN l i + wN l (l - 1 - i) * wN l (l - 1 - i) + 204801 ∧ wN l i + wN l (l - 1 - i) ≤ 46400 := by
  have h : cond (Nat.ble (wN l i * wN l i + wN l (l - 1 - i) * wN l (l - 1 - i)) 1073946625) (cond (Nat.ble 1073741824 (wN l i * wN l i + wN l (l - 1 - i) * wN l (l - 1 - i) + 204801)) (Nat.ble (wN l i + wN l (l - 1 - i)) 46400) false) false = true := h
  cases h1 : Nat.ble (wN l i * wN l i + wN l (l - 1 - i) * wN l (l - 1 - i)) 1073946625 with
  | false => rw [h1] at h; cases h
  | true =>
    cases h2 : Nat.ble 1073741824 (wN l i * wN l i + wN l (l - 1 - i) * wN l (l - 1 - i) + 204801) with
    | false => rw [h1, h2] at h; cases h
    | true =>
      rw [h1, h2] at h
      exact ⟨Nat.le_of_ble_eq_true h1, Nat.le_of_ble_eq_true h2, Nat.le_of_ble_eq_true h⟩
noncomputable def allT (f : Nat → Bool) (r : Nat) : Bool := @Nat.rec (fun _ => Bool) true (fun i ih => cond (f i) ih false) r
theorem allT_at (f : Nat → Bool) : ∀ r, allT f r = true → ∀ i, i < r → f i = true
  | 0, _, i, hi => by omega
  | r + 1, h, i, hi => by
    have h : cond (f r) (allT f r) false = true := h
    cases hb : f r with
    | false => rw [hb] at h; cases h
    | true =>
      rw [hb] at h
      by_cases e : i = r
      · rw [e]; exact hb
      · exact allT_at f r h i (by omega)
theorem windows : allT (fun l => allT (fun i => okW l i) l) 161 = true := by kernel_rfl
theorem windows_at {l i : Nat} (hl : l ≤ 160) (hi : i < l) : okW l i = true := allT_at _ _ (allT_at _ _ windows l (by omega)) i hi
/-- A shape's number. -/
noncomputable def shN (n l j : Nat) : Nat := (fun z => cond (Nat.blt j z) 0 (cond (Nat.blt j (Nat.add z l)) (wN l (Nat.sub j z)) (cond (Nat.blt j (Nat.sub (Nat.sub (Nat.mul 2 n) z) l)) 32768 (cond (Nat.blt j (Nat.sub (Nat.mul 2 n) z)) (wN l (Nat.sub (Nat.sub (Nat.sub (Nat.mul 2 n) 1) z) j)) 0)))) (Nat.div (Nat.sub n l) 2)
/-- A row that is told window by window. -/
noncomputable def okB (n jb l : Nat) (z1 z2 : Nat) : Bool :=
  Nat.ble (Nat.mul 2 (Nat.add (Nat.mul (shN n l (Nat.sub (Nat.sub n 1) jb)) (wabs 1099511627776 40 549755813888 (fun j => shN n l j) (Nat.mul 2 n) z2 0 0)) (Nat.mul (shN n l jb) (wabs 1099511627776 40 549755813888 (fun j => shN n l j) (Nat.mul 2 n) z1 0 0)))) (Nat.mul n 1759218604441600)
noncomputable def chkB (n jb : Nat) : Bool := (fun rows => (fun sr => (fun on => (fun z1 => (fun z2 => allT (fun h => okB n jb (Nat.sub n (Nat.mul 2 h)) z1 z2) (Nat.div n 2)) (zrow n on sr rows (Nat.add n jb))) (zrow n on sr rows jb)) (ones 1099511627776 (Nat.mul 2 n))) (sumR rows)) (rowsAt 1099511627776 (tab n) n n 1)
noncomputable def wsum (n l i : Nat) : Nat := sN (fun j => shN n l j * (DD n i j).natAbs) (2 * n)
theorem wabs_is {n l i : Nat} (h1 : 4 ≤ n) (h2 : n ≤ 160) (hi : i < 2 * n) :
    wabs 1099511627776 40 549755813888 (fun j => shN n l j) (2 * n) (pks 1099511627776 (fun j => (((549755813888 : Nat) : Int) + DD n i j).toNat) (2 * n)) 0 0 = wsum n l i := by
  have key : ∀ (H B : Nat), H = 549755813888 → B = 1099511627776 → ∀ j, j < 2 * n → ((H : Int) + DD n i j).toNat < B ∧ ((((H : Int) + DD n i j).toNat - H) + (H - ((H : Int) + DD n i j).toNat)) = (DD n i j).natAbs := by
    intro H B hH hB j _
    have := DD_in (i := i) (j := j) h2
    omega
  rw [wabs_pks 1099511627776 40 549755813888 (by decide) _ _ _ _ _ fun j hj => (key _ _ rfl rfl j hj).1, Nat.zero_add]
  unfold wsum
  exact sN_congr fun j hj => by rw [Nat.zero_add, (key _ _ rfl rfl j hj).2]
theorem chkB_is {n jb l : Nat} (h1 : 4 ≤ n) (h2 : n ≤ 160) (h : chkB n jb = true) (hj : jb < n) (hl : 2 ≤ l) (hln : l ≤ n) (hp : (n - l) % 2 = 0) :
    2 * (shN n l (n - 1 - jb) * wsum n l (n + jb) + shN n l jb * wsum n l jb) ≤ n * 1759218604441600 := by
  have h3 := allT_at _ _ h ((n - l) / 2) (by
    show (n - l) / 2 < n / 2
    omega)
  have e : Nat.sub n (Nat.mul 2 ((n - l) / 2)) = l := by
    show n - 2 * ((n - l) / 2) = l
    omega
  have h3 : okB n jb (Nat.sub n (Nat.mul 2 ((n - l) / 2))) _ _ = true := h3
  rw [e, show Nat.add n jb = n + jb from rfl, zrow_is h1 h2 (by omega), zrow_is h1 h2 (by omega)] at h3
  have h4 := Nat.le_of_ble_eq_true h3
  have h5 := wabs_is (l := l) h1 h2 (i := jb) (by omega)
  have h6 := wabs_is (l := l) h1 h2 (i := n + jb) (by omega)
  have e2 : Nat.mul 2 n = 2 * n := rfl
  rw [e2, h5, h6] at h4
  exact h4
theorem bad_51 : chkB 51 25 = true := by kernel_rfl
theorem bad_85 : chkB 85 42 = true := by kernel_rfl
theorem bad_102 : chkB 102 25 = true := by kernel_rfl
theorem bad_102b : chkB 102 76 = true := by kernel_rfl
theorem bad_153 : chkB 153 25 = true := by kernel_rfl
theorem bad_153b : chkB 153 76 = true := by kernel_rfl
theorem bad_153c : chkB 153 127 = true := by kernel_rfl
theorem bad_all {n j : Nat} (hj : j < n) (h : isBad n j = true) : chkB n j = true := by
  unfold isBad at h
  cases h1 : Nat.beq n 51 with
  | true =>
    rw [h1] at h
    obtain rfl := Nat.eq_of_beq_eq_true h1
    obtain rfl := Nat.eq_of_beq_eq_true h
    exact bad_51
  | false =>
    rw [h1] at h
    cases h2 : Nat.beq n 85 with
    | true =>
      rw [h2] at h
      obtain rfl := Nat.eq_of_beq_eq_true h2
      obtain rfl := Nat.eq_of_beq_eq_true h
      exact bad_85
    | false =>
      rw [h2] at h
      cases h3 : Nat.beq n 102 with
      | true =>
        rw [h3] at h
        obtain rfl := Nat.eq_of_beq_eq_true h3
        cases h4 : Nat.beq j 25 with
        | true => obtain rfl := Nat.eq_of_beq_eq_true h4; exact bad_102
        | false =>
          rw [h4] at h
          obtain rfl := Nat.eq_of_beq_eq_true h
          exact bad_102b
      | false =>
        rw [h3] at h
        cases h4 : Nat.beq n 153 with
        | false => rw [h4] at h; cases h
        | true =>
          rw [h4] at h
          obtain rfl := Nat.eq_of_beq_eq_true h4
          cases h5 : Nat.beq j 25 with
          | true => obtain rfl := Nat.eq_of_beq_eq_true h5; exact bad_153
          | false =>
            rw [h5] at h
            cases h6 : Nat.beq j 76 with
            | true => obtain rfl := Nat.eq_of_beq_eq_true h6; exact bad_153b
            | false =>
              rw [h6] at h
              obtain rfl := Nat.eq_of_beq_eq_true h
              exact bad_153c
end Go.Proofs.Ytlmacbiahofmcaa.M
