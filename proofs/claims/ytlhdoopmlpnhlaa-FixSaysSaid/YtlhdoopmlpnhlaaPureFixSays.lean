/- Every operation on any numbers is what the document says: without conditions. -/
import Derived.Test.YtlhdoopmlpnhlaaPx27
import Derived.Test.YtlhdoopmlpnhlaaQClamp
import Derived.Test.YtlhdoopmlpnhlaaM0
import Derived.Test.YtlhdoopmlpnhlaaPx2
import Derived.Test.YtlhdoopmlpnhlaaQ0
import Derived.Laws.BitsLemmas
import Derived.KernelRfl
import Derived.Test.YtlhdoopmlpnhlaaPx12
import Derived.Test.YtlhdoopmlpnhlaaPx5
import Derived.Test.YtlhdoopmlpnhlaaQRef1
import Derived.Test.YtlhdoopmlpnhlaaPx6
import Derived.Test.YtlhdoopmlpnhlaaPx7
import Derived.Test.YtlhdoopmlpnhlaaPx8
import Derived.Test.YtlhdoopmlpnhlaaPx17
import Derived.Test.YtlhdoopmlpnhlaaPx16
import Derived.Test.YtlhdoopmlpnhlaaPx18
import Derived.Test.YtlhdoopmlpnhlaaPx26
import Derived.Test.YtlhdoopmlpnhlaaQRexp
import Derived.Test.YtlhdoopmlpnhlaaPx20
import Derived.Test.YtlhdoopmlpnhlaaPx21
import Derived.Test.YtlhdoopmlpnhlaaPx9
import Derived.Test.YtlhdoopmlpnhlaaPx23
import Derived.Test.YtlhdoopmlpnhlaaPx10
import Derived.Test.YtlhdoopmlpnhlaaPx19
import Derived.Test.YtlhdoopmlpnhlaaPx13
namespace Go.Proofs.Ytlhdoopmlpnhlaa.M
set_option linter.unusedVariables false
/-- A factor, in its bounds. -/
def fac (a : Int) : Int := clamp a (-2147483648) 2147483648
theorem fac_bounds (a : Int) : -2147483648 ≤ fac a ∧ fac a ≤ 2147483648 := clamp_bounds (by omega)
theorem fac_id {a : Int} (h1 : -2147483648 ≤ a) (h2 : a ≤ 2147483648) : fac a = a := clamp_id h1 h2
/-- A product, divided by a power of two, rounded. -/
def mul (a b s : Int) : Int := if s = 0 then fac a * fac b else if s < 0 then 0 else if s > 62 then 0 else (fac a * fac b + 2 ^ (s - 1).toNat) / 2 ^ s.toNat
theorem prod_le {x y : Int} {a b : Nat} (hx : x.natAbs ≤ a) (hy : y.natAbs ≤ b) : -((a * b : Nat) : Int) ≤ x * y ∧ x * y ≤ ((a * b : Nat) : Int) := by
  have h : (x * y).natAbs ≤ a * b := by rw [Int.natAbs_mul]; exact Nat.mul_le_mul hx hy
  omega
theorem fac_prod (a b : Int) : -4611686018427387904 ≤ fac a * fac b ∧ fac a * fac b ≤ 4611686018427387904 := by
  have h1 := fac_bounds a
  have h2 := fac_bounds b
  have h := prod_le (x := fac a) (y := fac b) (a := 2147483648) (b := 2147483648) (by omega) (by omega)
  omega
theorem pow_most {n m : Nat} (h : n ≤ m) : (2 : Int) ^ n ≤ 2 ^ m := by
  have hn : (2 : Nat) ^ n ≤ 2 ^ m := Nat.pow_le_pow_right (by omega) h
  exact_mod_cast hn
theorem pow_61 {n : Nat} (h : n ≤ 61) : (1 : Int) ≤ 2 ^ n ∧ (2 : Int) ^ n ≤ 2305843009213693952 :=
  ⟨by have h1 : (0 : Int) < 2 ^ n := Int.pow_pos (by omega)
      omega, by have := pow_most h; simpa using this⟩
theorem pow_next (n : Nat) : (2 : Int) ^ (n + 1) = 2 * 2 ^ n := by rw [Int.pow_succ]; omega
theorem fac_mono {a b : Int} (h : a ≤ b) : fac a ≤ fac b := by
  unfold fac clamp; repeat' split
  all_goals omega
theorem mul_mono {a b c s : Int} (h : a ≤ b) (hc : 0 ≤ c) : mul a c s ≤ mul b c s := by
  have h0 : 0 ≤ fac c := by
    unfold fac clamp; repeat' split
    all_goals omega
  have hf : fac a * fac c ≤ fac b * fac c := Int.mul_le_mul_of_nonneg_right (fac_mono h) h0
  unfold mul; split
  · exact hf
  · split
    · exact Int.le_refl _
    · split
      · exact Int.le_refl _
      · exact Int.ediv_le_ediv (Int.pow_pos (by omega)) (by omega)
end Go.Proofs.Ytlhdoopmlpnhlaa.M
namespace Go.Proofs.Ytlhdoopmlpnhlaa.Q
open Go.RowKit Go.Proofs.Ytlhdoopmlpnhlaa.P Go.Proofs.YtlhdoopmlpnhlaaW.PrintWords Go.Proofs.YtlhdoopmlpnhlaaW.PrintLast Go.Proofs.YtlhdoopmlpnhlaaW.PrintMore
open Go.Proofs.Ytlhdoopmlpnhlaa.M
set_option linter.unusedVariables false

theorem fix_factor (a : Int) : Ev (fun k => fix_factor.f k a) (fac a) := by
  refine Ev.congr (fun k => by rw [fix_factor.f]) ?_
  exact Ev.bind (fix_clamp a _ _) (Ev.now _)
theorem shl1_64 {s : Int} (h0 : 0 ≤ s) (h1 : s ≤ 61) : shl .i64 1 s = 2 ^ s.toNat := by
  have hp := pow_61 (n := s.toNat) (by omega)
  unfold shl
  rw [show IntKind.i64.bits = 64 from rfl, Nat.min_eq_left (by omega), Int.one_mul, i64_w]
  exact w64 (by omega) (by omega)
theorem shr_64 {x s : Int} (h1 : s ≤ 64) : shr .i64 x s = x / 2 ^ s.toNat := by
  unfold shr
  rw [show IntKind.i64.bits = 64 from rfl, Nat.min_eq_left (by omega)]
theorem fix_mul (a b s : Int) (hs0 : -9223372036854775808 ≤ s) (hs1 : s ≤ 9223372036854775807) : Ev (fun k => fix_Mul.f k a b s) (mul a b s) := by
  have hp := fac_prod a b
  refine Ev.congr (fun k => by rw [fix_Mul.f]) (Ev.bind (fix_factor a) (Ev.bind (fix_factor b) ?_))
  unfold mul
  rw [w64 (x := fac a * fac b) (by omega) (by omega)]
  refine evIte (fun h => ?_) (fun h => ?_)
  · rw [if_pos h]; exact Ev.now _
  · rw [if_neg h]
    refine evIte (fun h2 => ?_) (fun h2 => ?_)
    · rw [if_pos h2]; exact Ev.now _
    · rw [if_neg h2]
      refine evIte (fun h3 => ?_) (fun h3 => ?_)
      · rw [if_pos h3]; exact Ev.now _
      · rw [if_neg h3, w64 (x := s - 1) (by omega) (by omega), shl1_64 (by omega) (by omega)]
        have hp2 := pow_61 (n := (s - 1).toNat) (by omega)
        rw [w64 (x := fac a * fac b + _) (by omega) (by omega), shr_64 (by omega)]
        exact evPos (by omega) (evPos (by omega) (Ev.now _))
end Go.Proofs.Ytlhdoopmlpnhlaa.Q
namespace Go.Proofs.Ytlhdoopmlpnhlaa.Q
open Go.RowKit
set_option linter.unusedVariables false

theorem bits_low (a : Int) (i : Nat) (hi : i ≤ 62) : Go.bits .and .i64 a (2 ^ i - 1) = a % 2 ^ i := by
  have hp : (0 : Int) < 2 ^ i := Int.pow_pos (by omega)
  have hpn : 0 < 2 ^ i := Nat.two_pow_pos i
  have hc : ((2 : Int) ^ i - 1) = ((2 ^ i - 1 : Nat) : Int) := by rw [Int.natCast_sub hpn]; simp
  have hle : (2 : Nat) ^ i ≤ 2 ^ 62 := Nat.pow_le_pow_right (by omega) hi
  unfold Go.bits
  rw [hc]
  have hb : (BitVec.ofInt 64 ((2 ^ i - 1 : Nat) : Int)).toNat = 2 ^ i - 1 := by
    rw [BitVec.ofInt_natCast, BitVec.toNat_ofNat]
    exact Nat.mod_eq_of_lt (by omega)
  have ha : (BitVec.ofInt 64 a).toNat = (a % 2 ^ 64).toNat := by rw [BitVec.toNat_ofInt]; rfl
  have hand : (BitVec.ofInt 64 a &&& BitVec.ofInt 64 ((2 ^ i - 1 : Nat) : Int)).toNat = (a % 2 ^ i).toNat := by
    rw [BitVec.toNat_and, hb, ha, Nat.and_two_pow_sub_one_eq_mod]
    have hd : (2 : Int) ^ i ∣ 2 ^ 64 := by
      refine ⟨2 ^ (64 - i), ?_⟩
      rw [← Int.pow_add]
      congr 1
      omega
    have h1 : (((a % 2 ^ 64).toNat % 2 ^ i : Nat) : Int) = a % 2 ^ i := by
      rw [Int.natCast_emod, Int.toNat_of_nonneg (Int.emod_nonneg _ (by decide))]
      have : ((2 ^ i : Nat) : Int) = (2 : Int) ^ i := by simp
      rw [this, Int.emod_emod_of_dvd _ hd]
    omega
  show IntKind.i64.wrap ((BitVec.ofInt 64 a &&& BitVec.ofInt 64 ((2 ^ i - 1 : Nat) : Int)).toNat : Int) = a % 2 ^ i
  rw [hand, Int.toNat_of_nonneg (Int.emod_nonneg _ (by omega)), IntKind.wrap_i64]
  have h1 := Int.emod_nonneg a (show (2 : Int) ^ i ≠ 0 by omega)
  have h2 := Int.emod_lt_of_pos a hp
  have h3 : (2 : Int) ^ i ≤ 2 ^ 62 := by exact_mod_cast hle
  have h4 : (2 : Int) ^ 62 = 4611686018427387904 := by decide
  omega
theorem bits_255 (a : Int) : Go.bits .and .i64 a 255 = a % 256 := bits_low a 8 (by omega)
theorem bits_1 (a : Int) : Go.bits .and .i64 a 1 = a % 2 := bits_low a 1 (by omega)
theorem bits_65535 (a : Int) : Go.bits .and .i64 a 65535 = a % 65536 := bits_low a 16 (by omega)
theorem bits_7 (a : Int) : Go.bits .and .i64 a 7 = a % 8 := bits_low a 3 (by omega)
theorem bits_8191 (a : Int) : Go.bits .and .i64 a 8191 = a % 8192 := bits_low a 13 (by omega)
end Go.Proofs.Ytlhdoopmlpnhlaa.Q
namespace Go.Proofs.Ytlhdoopmlpnhlaa.M
set_option linter.unusedVariables false
/-- A polynomial's value. -/
def ser (z s : Int) (l : List Int) : Int := l.foldl (fun s c => c + mul z s 30) s
/-- A cosine of a quarter's 16384ths. -/
def qr (x : Int) : Int :=
  if x ≤ 8192 then mul (ser (mul (mul x 1686629713 14) (mul x 1686629713 14) 30) (-296) [26631, -1491308, 44739243, -536870912, 1073741824]) 1 15
  else mul (mul (mul (16384 - x) 1686629713 14) (ser (mul (mul (16384 - x) 1686629713 14) (mul (16384 - x) 1686629713 14) 30) 2959 [-213044, 8947849, -178956971, 1073741824]) 30) 1 15
def fold (a : Int) : Int := if a % 65536 > 32768 then 65536 - a % 65536 else a % 65536
def cosI (a : Int) : Int := if fold a > 16384 then -qr (32768 - fold a) else qr (fold a)
theorem mul30 (a b : Int) : mul a b 30 = (fac a * fac b + 536870912) / 1073741824 := by
  unfold mul; rw [if_neg (by omega), if_neg (by omega), if_neg (by omega)]; rfl
theorem mul30_bounds (a b : Int) : -4294967297 ≤ mul a b 30 ∧ mul a b 30 ≤ 4294967297 := by
  have h := fac_prod a b
  rw [mul30]; omega
theorem mul15_bounds (a b : Int) : -140737488355330 ≤ mul a b 15 ∧ mul a b 15 ≤ 140737488355330 := by
  have h := fac_prod a b
  have e : mul a b 15 = (fac a * fac b + 16384) / 32768 := by
    unfold mul; rw [if_neg (by omega), if_neg (by omega), if_neg (by omega)]; rfl
  rw [e]; omega
theorem qr_small (x : Int) : -140737488355330 ≤ qr x ∧ qr x ≤ 140737488355330 := by
  unfold qr; split
  · exact mul15_bounds _ _
  · exact mul15_bounds _ _
/-- Does it hold of all below? -/
def all (p : Nat → Bool) : Nat → Bool
  | 0 => true
  | n + 1 => cond (p n) (all p n) false
theorem all_at {p : Nat → Bool} : ∀ {n : Nat}, all p n = true → ∀ i, i < n → p i = true
  | 0, _, i, hi => by omega
  | n + 1, h, i, hi => by
    unfold all at h
    cases hp : p n with
    | false => rw [hp] at h; simp at h
    | true =>
      rw [hp] at h
      by_cases e : i = n
      · rw [e]; exact hp
      · exact all_at (by simpa using h) i (by omega)
def okN (c s : Int) : Bool := match c, s with
  | .ofNat c, .ofNat s => Nat.ble c 32768 && Nat.ble s 32768 && Nat.ble (c * c + s * s) 1074003968 && Nat.ble 1073479680 (c * c + s * s)
  | _, _ => false
theorem okN_is {c s : Int} (h : okN c s = true) : 0 ≤ c ∧ c ≤ 32768 ∧ 0 ≤ s ∧ s ≤ 32768 ∧ c * c + s * s ≤ 1074003968 ∧ 1073479680 ≤ c * c + s * s := by
  unfold okN at h
  split at h
  · rename_i a b
    simp only [Bool.and_eq_true] at h
    have h1 := Nat.le_of_ble_eq_true h.1.1.1
    have h2 := Nat.le_of_ble_eq_true h.1.1.2
    have h3 := Nat.le_of_ble_eq_true h.1.2
    have h4 := Nat.le_of_ble_eq_true h.2
    have e : (Int.ofNat a * Int.ofNat a + Int.ofNat b * Int.ofNat b) = ((a * a + b * b : Nat) : Int) := rfl
    rw [e]
    refine ⟨Int.natCast_nonneg _, ?_, Int.natCast_nonneg _, ?_, ?_, ?_⟩
    · show ((a : Nat) : Int) ≤ _; omega
    · show ((b : Nat) : Int) ≤ _; omega
    · omega
    · omega
  · simp at h
end Go.Proofs.Ytlhdoopmlpnhlaa.M
namespace Go.Proofs.Ytlhdoopmlpnhlaa.Q
open Go.RowKit Go.Proofs.Ytlhdoopmlpnhlaa.P Go.Proofs.YtlhdoopmlpnhlaaW.PrintWords Go.Proofs.YtlhdoopmlpnhlaaW.PrintLast Go.Proofs.YtlhdoopmlpnhlaaW.PrintMore
open Go.Proofs.Ytlhdoopmlpnhlaa.M
set_option linter.unusedVariables false

theorem series_l0 (z : Int) (n : Nat) : ∀ (S A : List Int) (s i m : Int), S.length = n → i = A.length → m = ((A.length + S.length : Nat) : Int) → m ≤ 1000 → (∀ c ∈ S, -2147483648 ≤ c ∧ c ≤ 2147483648) →
    Ev (fun k => fix_series.l0 k z s (A ++ S) m i) (ser z s S) := by
  induction n with
  | zero =>
    intro S A s i m hn hi hm hl hS
    have e1 : S = [] := List.eq_nil_of_length_eq_zero hn
    subst e1
    refine Ev.step (fun k => by rw [fix_series.l0]) ?_
    exact evNeg (by simp at hm; omega) (Ev.now _)
  | succ n ih =>
    intro S A s i m hn hi hm hl hS
    cases S with
    | nil => simp at hn
    | cons c S =>
      simp at hn hm
      have hc := hS c (by simp)
      have hb := mul30_bounds z s
      refine Ev.step (fun k => by rw [fix_series.l0]) ?_
      refine evPos (by omega) (evPos (by omega) (evPos (by simp; omega) ?_))
      refine Ev.bind (fix_mul z s 30 (by omega) (by omega)) ?_
      rw [rd_mid _ _ _ _ hi, w64 (x := i + 1) (by omega) (by omega), w64 (x := c + _) (by omega) (by omega)]
      have h := ih S (A ++ [c]) (c + mul z s 30) (i + 1) m (by omega) (by simp; omega) (by simp; omega) hl (fun y hy => hS y (by simp [hy]))
      simpa [ser] using h
theorem fix_ser (z s : Int) (l : List Int) (hl : l.length ≤ 100) (h : ∀ c ∈ l, -2147483648 ≤ c ∧ c ≤ 2147483648) : Ev (fun k => fix_series.f k z (s :: l)) (ser z s l) := by
  refine Ev.congr (fun k => by rw [fix_series.f]) ?_
  refine evPos (by simp only [List.length_cons]; omega) (evPos (by simp only [List.length_cons]; omega) (Ev.bind (Ev.now _) ?_))
  have h2 := series_l0 z l.length l [] s 0 l.length rfl rfl (by simp) (by omega) h
  exact h2
theorem cos_j1 (x : Int) (hx : 0 ≤ x ∧ x ≤ 16384) (b : Bool) : Ev (fun k => fix_Cos.j1 k x b) (if b = true then -qr x else qr x) := by
  have hq := qr_small x
  refine Ev.step (fun k => by rw [fix_Cos.j1]) ?_
  by_cases h : x ≤ 8192
  · refine evPos h (Ev.bind (fix_mul _ _ _ (by omega) (by omega)) (Ev.bind (fix_mul _ _ _ (by omega) (by omega)) (Ev.bind (fix_ser _ _ _ (by decide) (by decide)) (Ev.bind (fix_mul _ _ _ (by omega) (by omega)) ?_))))
    have e : mul (ser (mul (mul x 1686629713 14) (mul x 1686629713 14) 30) (-296) [26631, -1491308, 44739243, -536870912, 1073741824]) 1 15 = qr x := by unfold qr; rw [if_pos h]
    rw [e, w64 (x := -qr x) (by omega) (by omega)]
    refine evIte (fun hb => ?_) (fun hb => ?_)
    · rw [if_pos hb]; exact Ev.now _
    · rw [if_neg hb]; exact Ev.now _
  · refine evNeg h ?_
    rw [w64 (x := 16384 - x) (by omega) (by omega)]
    refine Ev.bind (fix_mul _ _ _ (by omega) (by omega)) (Ev.bind (fix_mul _ _ _ (by omega) (by omega)) (Ev.bind (fix_ser _ _ _ (by decide) (by decide)) (Ev.bind (fix_mul _ _ _ (by omega) (by omega)) (Ev.bind (fix_mul _ _ _ (by omega) (by omega)) ?_))))
    have e : mul (mul (mul (16384 - x) 1686629713 14) (ser (mul (mul (16384 - x) 1686629713 14) (mul (16384 - x) 1686629713 14) 30) 2959 [-213044, 8947849, -178956971, 1073741824]) 30) 1 15 = qr x := by unfold qr; rw [if_neg h]
    rw [e, w64 (x := -qr x) (by omega) (by omega)]
    refine evIte (fun hb => ?_) (fun hb => ?_)
    · rw [if_pos hb]; exact Ev.now _
    · rw [if_neg hb]; exact Ev.now _
theorem fix_cos (a : Int) : Ev (fun k => fix_Cos.f k a) (cosI a) := by
  have hj : ∀ x, 0 ≤ x → x ≤ 32768 → x = fold a → Ev (fun k => fix_Cos.j0 k x) (cosI a) := by
    intro x h0 h1 hx
    refine Ev.step (fun k => by rw [fix_Cos.j0]) ?_
    unfold cosI
    rw [← hx]
    refine evIte (fun h => ?_) (fun h => ?_)
    · rw [w64 (x := 32768 - x) (by omega) (by omega), if_pos h, decide_eq_true h]
      exact evEq (cos_j1 _ (by omega) true) (if_pos rfl)
    · rw [if_neg h, decide_eq_false h]
      exact evEq (cos_j1 _ (by omega) false) (if_neg (by simp))
  refine Ev.congr (fun k => by rw [fix_Cos.f]) ?_
  rw [bits_65535]
  refine evIte (fun h => ?_) (fun h => ?_)
  · rw [w64 (x := 65536 - a % 65536) (by omega) (by omega)]
    exact hj _ (by omega) (by omega) (by unfold fold; rw [if_pos h])
  · exact hj _ (by omega) (by omega) (by unfold fold; rw [if_neg h])
theorem fix_sin (a : Int) : Ev (fun k => fix_Sin.f k a) (cosI (a % 65536 - 16384)) := by
  refine Ev.congr (fun k => by rw [fix_Sin.f]) ?_
  rw [bits_65535, w64 (x := a % 65536 - 16384) (by omega) (by omega)]
  exact Ev.bind (fix_cos _) (Ev.now _)
end Go.Proofs.Ytlhdoopmlpnhlaa.Q
namespace Go.Proofs.Ytlhdoopmlpnhlaa.Q
open Go.RowKit Go.Proofs.Ytlhdoopmlpnhlaa.P Go.Proofs.YtlhdoopmlpnhlaaW.PrintWords Go.Proofs.YtlhdoopmlpnhlaaW.PrintLast Go.Proofs.YtlhdoopmlpnhlaaW.PrintMore
open Go.Proofs.Ytlhdoopmlpnhlaa.M
set_option linter.unusedVariables false

theorem shl_64 {x s : Int} (h1 : s ≤ 64) (a0 : -9223372036854775808 ≤ x * 2 ^ s.toNat) (a1 : x * 2 ^ s.toNat ≤ 9223372036854775807) : shl .i64 x s = x * 2 ^ s.toNat := by
  unfold shl
  rw [show IntKind.i64.bits = 64 from rfl, Nat.min_eq_left (by omega), i64_w]
  exact w64 a0 a1
theorem up_bounds {a s : Int} (ha : -2147483648 ≤ a ∧ a ≤ 2147483648) (h1 : s ≤ 30) : -2305843009213693952 ≤ a * 2 ^ s.toNat ∧ a * 2 ^ s.toNat ≤ 2305843009213693952 := by
  have hp : (2 : Int) ^ s.toNat ≤ 2 ^ 30 := pow_most (by omega)
  have hp0 : (0 : Int) < 2 ^ s.toNat := Int.pow_pos (by omega)
  have h := prod_le (x := a) (y := 2 ^ s.toNat) (a := 2147483648) (b := 1073741824) (by omega) (by omega)
  omega
/-- The quotient toward nought, put down where it is not whole. -/
theorem tdiv_down {n d : Int} (hd : 1 ≤ d) : (if Int.tmod n d = 0 then Int.tdiv n d else if n < 0 then Int.tdiv n d - 1 else Int.tdiv n d) = n / d := by
  have hm : Int.tmod n d = n - d * Int.tdiv n d := by have := Int.mul_tdiv_add_tmod n d; omega
  have hmod := Int.emod_nonneg n (show d ≠ 0 by omega)
  have hlt := Int.emod_lt_of_pos n (show 0 < d by omega)
  have he := Int.mul_ediv_add_emod n d
  have hbs : d.sign = 1 := Int.sign_eq_one_of_pos (by omega)
  have ht : Int.tdiv n d = if 0 ≤ n ∨ n % d = 0 then n / d else n / d + 1 := by
    rw [Int.tdiv_eq_ediv, hbs]
    by_cases h : 0 ≤ n
    · rw [if_pos (.inl h), if_pos (.inl h)]; omega
    · by_cases h2 : n % d = 0
      · rw [if_pos (.inr (Int.dvd_of_emod_eq_zero h2)), if_pos (.inr h2)]; omega
      · rw [if_neg, if_neg]
        · rintro (h3 | h3)
          · exact h h3
          · exact h2 h3
        · rintro (h3 | h3)
          · exact h h3
          · exact h2 (Int.emod_eq_zero_of_dvd h3)
  by_cases h : 0 ≤ n ∨ n % d = 0
  · rw [if_pos h] at ht
    rw [hm, ht]
    split
    · rfl
    · rw [if_neg (by omega)]
  · rw [if_neg h] at ht
    have hmul : d * (n / d + 1) = d * (n / d) + d := by rw [Int.mul_add]; omega
    rw [hm, ht, if_neg (by omega), if_pos (by omega)]
    omega
theorem fix_div_any (a b s : Int) (hb : 1 ≤ b ∧ b ≤ 2147483648) (hs : 0 ≤ s ∧ s ≤ 30) : Ev (fun k => fix_Div.f k a b s) (fac a * 2 ^ s.toNat / b) := by
  have ha := fac_bounds a
  refine Ev.congr (fun k => by rw [fix_Div.f]) ?_
  refine Ev.bind (fix_factor a) (Ev.bind (evEq (fix_factor b) (fac_id (by omega) hb.2)) ?_)
  refine evNeg (by omega) (evNeg (by omega) ?_)
  refine Ev.step (fun k => by rw [fix_Div.j0]) ?_
  have hu := up_bounds ha hs.2
  rw [shl_64 (by omega) (by omega) (by omega)]
  generalize fac a * 2 ^ s.toNat = n at hu ⊢
  refine evNeg (by simp; omega) (evPos (by omega) (evNeg (by omega) ?_))
  have hq := tdiv_down (n := n) hb.1
  have e := Int.natAbs_tdiv n b
  have hle : n.natAbs / b.natAbs ≤ n.natAbs := Nat.div_le_self _ _
  have e2 : (Int.tdiv n b).natAbs ≤ n.natAbs := by
    rw [e]; exact hle
  rw [w64 (x := Int.tdiv n b) (by omega) (by omega), w64 (x := Int.tdiv n b - 1) (by omega) (by omega)]
  rw [← hq]
  refine evIte (fun h => ?_) (fun h => ?_)
  · rw [if_pos h]; exact Ev.now _
  · rw [if_neg h]
    have hbn : decide (b < 0) = false := by simp; omega
    rw [hbn]
    by_cases hn : n < 0
    · rw [if_pos hn, decide_eq_true hn]; exact evPos (by rfl) (Ev.now _)
    · rw [if_neg hn, decide_eq_false hn]; exact evNeg (by simp) (Ev.now _)
theorem fix_div (a b s : Int) (ha : -2147483648 ≤ a ∧ a ≤ 2147483648) (hb : 1 ≤ b ∧ b ≤ 2147483648) (hs : 0 ≤ s ∧ s ≤ 30) : Ev (fun k => fix_Div.f k a b s) (a * 2 ^ s.toNat / b) := by
  have h := fix_div_any a b s hb hs
  rw [fac_id ha.1 ha.2] at h
  exact h
end Go.Proofs.Ytlhdoopmlpnhlaa.Q
namespace Go.Proofs.Ytlhdoopmlpnhlaa.Q
open Go.RowKit Go.Proofs.Ytlhdoopmlpnhlaa.P Go.Proofs.YtlhdoopmlpnhlaaW.PrintWords Go.Proofs.YtlhdoopmlpnhlaaW.PrintLast Go.Proofs.YtlhdoopmlpnhlaaW.PrintMore
open Go.Proofs.Ytlhdoopmlpnhlaa.M
set_option linter.unusedVariables false

set_option maxRecDepth 100000 in
theorem tab_fin : ∀ i : Fin 256, bt (⟨#[0, 1, 2, 2, 3, 3, 3, 3, 4, 4, 4, 4, 4, 4, 4, 4, 5, 5, 5, 5, 5, 5, 5, 5, 5, 5, 5, 5, 5, 5, 5, 5, 6, 6, 6, 6, 6, 6, 6, 6, 6, 6, 6, 6, 6, 6, 6, 6, 6, 6, 6, 6, 6, 6, 6, 6, 6, 6, 6, 6, 6, 6, 6, 6, 7, 7, 7, 7, 7, 7, 7, 7, 7, 7, 7, 7, 7, 7, 7, 7, 7, 7, 7, 7, 7, 7, 7, 7, 7, 7, 7, 7, 7, 7, 7, 7, 7, 7, 7, 7, 7, 7, 7, 7, 7, 7, 7, 7, 7, 7, 7, 7, 7, 7, 7, 7, 7, 7, 7, 7, 7, 7, 7, 7, 7, 7, 7, 7, 8, 8, 8, 8, 8, 8, 8, 8, 8, 8, 8, 8, 8, 8, 8, 8, 8, 8, 8, 8, 8, 8, 8, 8, 8, 8, 8, 8, 8, 8, 8, 8, 8, 8, 8, 8, 8, 8, 8, 8, 8, 8, 8, 8, 8, 8, 8, 8, 8, 8, 8, 8, 8, 8, 8, 8, 8, 8, 8, 8, 8, 8, 8, 8, 8, 8, 8, 8, 8, 8, 8, 8, 8, 8, 8, 8, 8, 8, 8, 8, 8, 8, 8, 8, 8, 8, 8, 8, 8, 8, 8, 8, 8, 8, 8, 8, 8, 8, 8, 8, 8, 8, 8, 8, 8, 8, 8, 8, 8, 8, 8, 8, 8, 8, 8, 8, 8, 8, 8, 8, 8, 8, 8, 8, 8, 8, 8, 8]⟩ : ByteArray) ((i.val : Nat) : Int) = bl ((i.val : Nat) : Int) := by decide +kernel
set_option maxRecDepth 100000 in
theorem tab_bl {i : Int} (h0 : 0 ≤ i) (h1 : i < 256) : bt (⟨#[0, 1, 2, 2, 3, 3, 3, 3, 4, 4, 4, 4, 4, 4, 4, 4, 5, 5, 5, 5, 5, 5, 5, 5, 5, 5, 5, 5, 5, 5, 5, 5, 6, 6, 6, 6, 6, 6, 6, 6, 6, 6, 6, 6, 6, 6, 6, 6, 6, 6, 6, 6, 6, 6, 6, 6, 6, 6, 6, 6, 6, 6, 6, 6, 7, 7, 7, 7, 7, 7, 7, 7, 7, 7, 7, 7, 7, 7, 7, 7, 7, 7, 7, 7, 7, 7, 7, 7, 7, 7, 7, 7, 7, 7, 7, 7, 7, 7, 7, 7, 7, 7, 7, 7, 7, 7, 7, 7, 7, 7, 7, 7, 7, 7, 7, 7, 7, 7, 7, 7, 7, 7, 7, 7, 7, 7, 7, 7, 8, 8, 8, 8, 8, 8, 8, 8, 8, 8, 8, 8, 8, 8, 8, 8, 8, 8, 8, 8, 8, 8, 8, 8, 8, 8, 8, 8, 8, 8, 8, 8, 8, 8, 8, 8, 8, 8, 8, 8, 8, 8, 8, 8, 8, 8, 8, 8, 8, 8, 8, 8, 8, 8, 8, 8, 8, 8, 8, 8, 8, 8, 8, 8, 8, 8, 8, 8, 8, 8, 8, 8, 8, 8, 8, 8, 8, 8, 8, 8, 8, 8, 8, 8, 8, 8, 8, 8, 8, 8, 8, 8, 8, 8, 8, 8, 8, 8, 8, 8, 8, 8, 8, 8, 8, 8, 8, 8, 8, 8, 8, 8, 8, 8, 8, 8, 8, 8, 8, 8, 8, 8, 8, 8, 8, 8, 8, 8]⟩ : ByteArray) i = bl i := by
  have h := tab_fin ⟨i.toNat, by omega⟩
  have e : ((i.toNat : Nat) : Int) = i := Int.toNat_of_nonneg h0
  simp only [e] at h
  exact h
set_option maxRecDepth 100000 in
theorem bl_small {i : Int} (h0 : 0 ≤ i) (h1 : i < 256) : 0 ≤ bl i ∧ bl i ≤ 8 := by
  have h : ∀ i : Fin 256, 0 ≤ bl ((i.val : Nat) : Int) ∧ bl ((i.val : Nat) : Int) ≤ 8 := by decide +kernel
  have h2 := h ⟨i.toNat, by omega⟩
  have e : ((i.toNat : Nat) : Int) = i := Int.toNat_of_nonneg h0
  simp only [e] at h2
  exact h2
theorem bl_div (s : Nat) {x : Int} (h : (2 : Int) ^ s ≤ x) : bl x = s + bl (x / 2 ^ s) := by
  have hp : (0 : Int) < 2 ^ s := Int.pow_pos (by omega)
  have h1 : 1 ≤ x / 2 ^ s := by rw [Int.le_ediv_iff_mul_le hp]; omega
  have a := bl_lo h1
  have b := bl_hi h1
  have c := bl_ge h1
  have hd := Int.mul_ediv_add_emod x (2 ^ s)
  have hm0 := Int.emod_nonneg x (Int.ne_of_gt hp)
  have hm1 := Int.emod_lt_of_pos x hp
  have e : bl x = (((bl (x / 2 ^ s) - 1).toNat + s : Nat) : Int) + 1 := by
    refine bl_unique ?_ ?_
    · rw [Int.pow_add]
      have := Int.mul_le_mul_of_nonneg_right a (Int.le_of_lt hp)
      have e2 : x / 2 ^ s * 2 ^ s = 2 ^ s * (x / 2 ^ s) := Int.mul_comm _ _
      omega
    · have e3 : (bl (x / 2 ^ s) - 1).toNat + s + 1 = (bl (x / 2 ^ s)).toNat + s := by omega
      rw [e3, Int.pow_add]
      have := Int.mul_le_mul_of_nonneg_right (show x / 2 ^ s + 1 ≤ 2 ^ (bl (x / 2 ^ s)).toNat by omega) (Int.le_of_lt hp)
      rw [Int.add_mul] at this
      have e2 : x / 2 ^ s * 2 ^ s = 2 ^ s * (x / 2 ^ s) := Int.mul_comm _ _
      omega
  rw [e]
  omega
theorem len64_j (x : Int) (c : Int) (h0 : 0 ≤ x) (h1 : x < 4294967296) (c0 : 0 ≤ c) (c1 : c ≤ 32) : Ev (fun k => bits_Len64.j0 k x c) (c + bl x) := by
  refine Ev.step (fun k => by rw [bits_Len64.j0]) ?_
  refine evIte (fun h => ?_) (fun h => ?_)
  · have e1 := bl_div 16 (x := x) (by omega)
    have q0 : x / 65536 < 65536 := by omega
    refine evIte (fun h2 => ?_) (fun h2 => ?_)
    · have e2 := bl_div 8 (x := x / 65536) (by omega)
      have em : x / 65536 / 256 % 256 = x / 65536 / 256 := Int.emod_eq_of_lt (by omega) (by omega)
      have hb := bl_small (i := x / 65536 / 256) (by omega) (by omega)
      refine evPos (by omega) (evPos (by omega) (evConst ?_))
      rw [em, tab_bl (by omega) (by omega)]
      simp only [show ((2 : Int) ^ 16) = 65536 by decide, show ((2 : Int) ^ 8) = 256 by decide] at e1 e2
      rw [w64 (x := bl _) (by omega) (by omega), w64 (x := c + 16) (by omega) (by omega), w64 (x := c + 16 + 8) (by omega) (by omega), w64 (by omega) (by omega)]
      congr 1
      omega
    · have em : x / 65536 % 256 = x / 65536 := Int.emod_eq_of_lt (by omega) (by omega)
      have hb := bl_small (i := x / 65536) (by omega) (by omega)
      refine evPos (by omega) (evPos (by omega) (evConst ?_))
      rw [em, tab_bl (by omega) (by omega)]
      simp only [show ((2 : Int) ^ 16) = 65536 by decide] at e1
      rw [w64 (x := bl _) (by omega) (by omega), w64 (x := c + 16) (by omega) (by omega), w64 (by omega) (by omega)]
      congr 1
      omega
  · refine evIte (fun h2 => ?_) (fun h2 => ?_)
    · have e2 := bl_div 8 (x := x) (by omega)
      have em : x / 256 % 256 = x / 256 := Int.emod_eq_of_lt (by omega) (by omega)
      have hb := bl_small (i := x / 256) (by omega) (by omega)
      refine evPos (by omega) (evPos (by omega) (evConst ?_))
      rw [em, tab_bl (by omega) (by omega)]
      simp only [show ((2 : Int) ^ 8) = 256 by decide] at e2
      rw [w64 (x := bl _) (by omega) (by omega), w64 (x := c + 8) (by omega) (by omega), w64 (by omega) (by omega)]
      congr 1
      omega
    · have em : x % 256 = x := Int.emod_eq_of_lt (by omega) (by omega)
      have hb := bl_small (i := x) (by omega) (by omega)
      refine evPos (by omega) (evPos (by omega) (evConst ?_))
      rw [em, tab_bl (by omega) (by omega)]
      rw [w64 (x := bl _) (by omega) (by omega), w64 (by omega) (by omega)]
theorem bits_len64 (x : Int) (h0 : 0 ≤ x) (h1 : x < 18446744073709551616) : Ev (fun k => bits_Len64.f k x) (bl x) := by
  refine Ev.congr (fun k => by rw [bits_Len64.f]) ?_
  refine evIte (fun h => ?_) (fun h => ?_)
  · have e := bl_div 32 (x := x) (by omega)
    simp only [show ((2 : Int) ^ 32) = 4294967296 by decide] at e
    rw [e]
    exact len64_j (x / 4294967296) 32 (by omega) (by omega) (by omega) (by omega)
  · exact evEq (len64_j x 0 h0 (by omega) (by omega) (by omega)) (by omega)
theorem fix_len (a : Int) (h1 : a ≤ 9223372036854775807) : Ev (fun k => fix_Len.f k a) (bl a) := by
  refine Ev.congr (fun k => by rw [fix_Len.f]) ?_
  refine evIte (fun h => ?_) (fun h => ?_)
  · exact evConst (by unfold bl; rw [if_pos h])
  · have e : IntKind.u64.wrap a = a := by
      show a % 18446744073709551616 = a
      exact Int.emod_eq_of_lt (by omega) (by omega)
    rw [e]
    exact Ev.bind (bits_len64 a (by omega) (by omega)) (Ev.now _)
end Go.Proofs.Ytlhdoopmlpnhlaa.Q
namespace Go.Proofs.Ytlhdoopmlpnhlaa.M
set_option linter.unusedVariables false
theorem sq_le {a b : Int} (h0 : 0 ≤ a) (h : a ≤ b) : a * a ≤ b * b := Int.mul_le_mul h h h0 (by omega)
theorem bl_mono {a b : Int} (h : a ≤ b) : bl a ≤ bl b := by
  by_cases ha : 1 ≤ a
  · by_cases hc : bl b < bl a
    · have h1 := bl_lo ha
      have h2 := bl_hi (show 1 ≤ b by omega)
      have h3 : (2 : Int) ^ (bl b).toNat ≤ 2 ^ (bl a - 1).toNat := by
        have hn : (2 : Nat) ^ (bl b).toNat ≤ 2 ^ (bl a - 1).toNat := Nat.pow_le_pow_right (by omega) (by omega)
        exact_mod_cast hn
      omega
    · omega
  · have e : bl a = 0 := by unfold bl; rw [if_pos (by omega)]
    rw [e]
    by_cases hb : 1 ≤ b
    · have := bl_ge hb; omega
    · unfold bl; rw [if_pos (by omega)]; omega
/-- The rounds of a logarithm. -/
def l2 : Nat → Int → Int → Int
  | 0, _, o => o
  | n + 1, m, o => if m * m / 1073741824 ≥ 2147483648 then l2 n (m * m / 1073741824 / 2) (o * 2 + 1) else l2 n (m * m / 1073741824) (o * 2)
theorem l2_in {m : Int} (h0 : 1073741824 ≤ m) (h1 : m < 2147483648) : 1073741824 ≤ m * m / 1073741824 ∧ m * m / 1073741824 < 4294967296 := by
  have a := sq_le (by omega) h0
  have b := sq_le (show 0 ≤ m by omega) (show m ≤ 2147483647 by omega)
  omega
theorem l2_range : ∀ (n : Nat) (m o : Int), o * 2 ^ n ≤ l2 n m o ∧ l2 n m o < (o + 1) * 2 ^ n
  | 0, _, o => by simp [l2]; omega
  | n + 1, m, o => by
    unfold l2
    have hp : (0 : Int) < 2 ^ n := Int.pow_pos (by omega)
    have e1 : o * 2 ^ (n + 1) = o * 2 * 2 ^ n := by rw [Int.pow_succ, Int.mul_assoc, Int.mul_comm (2 ^ n) 2]
    have e2 : (o + 1) * 2 ^ (n + 1) = (o * 2 + 2) * 2 ^ n := by rw [Int.pow_succ, show o * 2 + 2 = (o + 1) * 2 by omega, Int.mul_assoc, Int.mul_comm (2 ^ n) 2]
    rw [e1, e2]
    split
    · have h := l2_range n (m * m / 1073741824 / 2) (o * 2 + 1)
      have e3 : (o * 2 + 1) * 2 ^ n = o * 2 * 2 ^ n + 2 ^ n := by rw [Int.add_mul]; omega
      rw [show o * 2 + 1 + 1 = o * 2 + 2 by omega] at h
      omega
    · have h := l2_range n (m * m / 1073741824) (o * 2)
      have e3 : (o * 2 + 2) * 2 ^ n = (o * 2 + 1) * 2 ^ n + 2 ^ n := by rw [show o * 2 + 2 = (o * 2 + 1) + 1 by omega, Int.add_mul (o * 2 + 1)]; omega
      omega
theorem l2_mono : ∀ (n : Nat) (m m' o o' : Int), 1073741824 ≤ m → m < 2147483648 → 1073741824 ≤ m' → m' < 2147483648 → (o < o' ∨ o = o' ∧ m ≤ m') → l2 n m o ≤ l2 n m' o'
  | 0, _, _, o, o', _, _, _, _, h => by simp only [l2]; omega
  | n + 1, m, m', o, o', h0, h1, h2, h3, h => by
    have b := l2_in h0 h1
    have b' := l2_in h2 h3
    unfold l2
    rcases h with h | ⟨rfl, h⟩
    · split <;> split <;> exact l2_mono n _ _ _ _ (by omega) (by omega) (by omega) (by omega) (by omega)
    · have hs := sq_le (show 0 ≤ m by omega) h
      have hq : m * m / 1073741824 ≤ m' * m' / 1073741824 := Int.ediv_le_ediv (by omega) hs
      split <;> split <;> exact l2_mono n _ _ _ _ (by omega) (by omega) (by omega) (by omega) (by omega)
theorem l2_add : ∀ (n : Nat) (m o d : Int), l2 n m (o + d) = l2 n m o + d * 2 ^ n
  | 0, _, _, _ => by simp [l2]
  | n + 1, m, o, d => by
    unfold l2
    have e : d * 2 ^ (n + 1) = d * 2 * 2 ^ n := by rw [Int.pow_succ, Int.mul_assoc, Int.mul_comm (2 ^ n) 2]
    split
    · rw [show (o + d) * 2 + 1 = o * 2 + 1 + d * 2 by omega, l2_add n, e]
    · rw [show (o + d) * 2 = o * 2 + d * 2 by omega, l2_add n, e]
/-- A number's first 31 bits. -/
def mant (a : Int) : Int := if bl a > 31 then a / 2 ^ (bl a - 31).toNat else a * 2 ^ (31 - bl a).toNat
theorem mant_in {a : Int} (h : 1 ≤ a) : 1073741824 ≤ mant a ∧ mant a < 2147483648 := by
  have lo := bl_lo h
  have hi := bl_hi h
  have g := bl_ge h
  unfold mant
  split
  · rename_i hb
    have hp : (0 : Int) < 2 ^ (bl a - 31).toNat := Int.pow_pos (by omega)
    constructor
    · rw [Int.le_ediv_iff_mul_le hp]
      have e : (bl a - 1).toNat = 30 + (bl a - 31).toNat := by omega
      rw [e, Int.pow_add] at lo
      exact lo
    · rw [Int.ediv_lt_iff_lt_mul hp]
      have e : (bl a).toNat = 31 + (bl a - 31).toNat := by omega
      rw [e, Int.pow_add] at hi
      exact hi
  · rename_i hb
    have hp : (0 : Int) < 2 ^ (31 - bl a).toNat := Int.pow_pos (by omega)
    have e1 : (2 : Int) ^ (bl a - 1).toNat * 2 ^ (31 - bl a).toNat = 1073741824 := by
      rw [← Int.pow_add, show (bl a - 1).toNat + (31 - bl a).toNat = 30 by omega]; decide
    have e2 : (2 : Int) ^ (bl a).toNat * 2 ^ (31 - bl a).toNat = 2147483648 := by
      rw [← Int.pow_add, show (bl a).toNat + (31 - bl a).toNat = 31 by omega]; decide
    have m1 := Int.mul_le_mul_of_nonneg_right lo (Int.le_of_lt hp)
    have m2 := Int.mul_lt_mul_of_pos_right hi hp
    omega
theorem mant_mono {a b : Int} (h : 1 ≤ a) (hab : a ≤ b) (he : bl a = bl b) : mant a ≤ mant b := by
  unfold mant
  rw [he]
  split
  · exact Int.ediv_le_ediv (Int.pow_pos (by omega)) hab
  · exact Int.mul_le_mul_of_nonneg_right hab (Int.le_of_lt (Int.pow_pos (by omega)))
/-- A logarithm, in 256ths. -/
def log2 (a : Int) : Int := if a < 1 then 0 else l2 8 (mant a) (bl a - 1)
theorem log2_pos {a : Int} (h : 1 ≤ a) : log2 a = l2 8 (mant a) (bl a - 1) := by unfold log2; rw [if_neg (by omega)]
theorem log2_nonneg (a : Int) : 0 ≤ log2 a := by
  by_cases h : 1 ≤ a
  · rw [log2_pos h]
    have r := (l2_range 8 (mant a) (bl a - 1)).1
    have g := bl_ge h
    omega
  · unfold log2; rw [if_pos (by omega)]; omega
theorem log2_mono {a b : Int} (h : a ≤ b) : log2 a ≤ log2 b := by
  by_cases ha : 1 ≤ a
  · rw [log2_pos ha, log2_pos (show 1 ≤ b by omega)]
    have m1 := mant_in ha
    have m2 := mant_in (show 1 ≤ b by omega)
    have hb := bl_mono h
    refine l2_mono 8 _ _ _ _ m1.1 m1.2 m2.1 m2.2 ?_
    by_cases e : bl a = bl b
    · exact .inr ⟨by omega, mant_mono ha h e⟩
    · exact .inl (by omega)
  · have e : log2 a = 0 := by unfold log2; rw [if_pos (by omega)]
    rw [e]; exact log2_nonneg b
theorem bl_four {a : Int} (h : 1 ≤ a) : bl (4 * a) = bl a + 2 := by
  have lo := bl_lo h
  have hi := bl_hi h
  have g := bl_ge h
  have e := bl_unique (a := 4 * a) (n := (bl a - 1).toNat + 2) (by rw [Int.pow_add, show (2 : Int) ^ 2 = 4 by decide]; omega) (by
    rw [show (bl a - 1).toNat + 2 + 1 = (bl a).toNat + 2 by omega, Int.pow_add, show (2 : Int) ^ 2 = 4 by decide]; omega)
  rw [e]; omega
theorem log2_four {a : Int} (h : 1 ≤ a) (h31 : bl a + 2 ≤ 31) : log2 (4 * a) = log2 a + 512 := by
  have g := bl_ge h
  rw [log2_pos h, log2_pos (show 1 ≤ 4 * a by omega), bl_four h, show bl a + 2 - 1 = bl a - 1 + 2 by omega, l2_add]
  have e : mant (4 * a) = mant a := by
    unfold mant
    rw [bl_four h, if_neg (by omega), if_neg (by omega)]
    rw [show (31 - bl a).toNat = 2 + (31 - (bl a + 2)).toNat by omega, Int.pow_add, show (2 : Int) ^ 2 = 4 by decide, ← Int.mul_assoc, Int.mul_comm a 4]
  rw [e]; rfl
end Go.Proofs.Ytlhdoopmlpnhlaa.M
namespace Go.Proofs.Ytlhdoopmlpnhlaa.Q
open Go.RowKit Go.Proofs.Ytlhdoopmlpnhlaa.P Go.Proofs.YtlhdoopmlpnhlaaW.PrintWords Go.Proofs.YtlhdoopmlpnhlaaW.PrintLast Go.Proofs.YtlhdoopmlpnhlaaW.PrintMore
open Go.Proofs.Ytlhdoopmlpnhlaa.M
set_option linter.unusedVariables false

theorem uw64 {x : Int} (h0 : 0 ≤ x) (h1 : x < 18446744073709551616) : IntKind.u64.wrap x = x := by
  show x % 18446744073709551616 = x
  exact Int.emod_eq_of_lt h0 h1
theorem log2_l0 (n : Nat) : ∀ (m o i : Int), 1073741824 ≤ m → m < 2147483648 → 0 ≤ o → o * 2 ^ n + 2 ^ n ≤ 1000000 → i + n = 8 → 0 ≤ i →
    Ev (fun k => fix_Log2.l0 k m o i) (l2 n m o) := by
  induction n with
  | zero =>
    intro m o i h0 h1 ho hb hi hi0
    refine Ev.step (fun k => by rw [fix_Log2.l0]) ?_
    exact evNeg (by omega) (Ev.now _)
  | succ n ih =>
    intro m o i h0 h1 ho hb hi hi0
    refine Ev.step (fun k => by rw [fix_Log2.l0]) ?_
    refine evPos (by omega) ?_
    have hin := l2_in h0 h1
    have hsq := sq_le (show 0 ≤ m by omega) (show m ≤ 2147483647 by omega)
    have hsq0 : 0 ≤ m * m := Int.mul_nonneg (by omega) (by omega)
    rw [uw64 hsq0 (by omega)]
    have hp : (0 : Int) < 2 ^ n := Int.pow_pos (by omega)
    have ep : (2 : Int) ^ (n + 1) = 2 * 2 ^ n := by rw [Int.pow_succ]; omega
    rw [ep] at hb
    have e0 : o * (2 * 2 ^ n) = o * 2 * 2 ^ n := by rw [Int.mul_assoc]
    have e1 : (o * 2 + 1) * 2 ^ n = o * 2 * 2 ^ n + 2 ^ n := by rw [Int.add_mul]; omega
    have e2 : o * 2 ≤ o * 2 * 2 ^ n := by
      have := Int.mul_le_mul_of_nonneg_left (show (1 : Int) ≤ 2 ^ n by omega) (show 0 ≤ o * 2 by omega)
      omega
    unfold l2
    rw [w64 (x := o * 2) (by omega) (by omega), w64 (x := o * 2 + 1) (by omega) (by omega), w64 (x := i + 1) (by omega) (by omega)]
    refine evIte (fun h => ?_) (fun h => ?_)
    · rw [if_pos h]
      exact ih _ _ _ (by omega) (by omega) (by omega) (by omega) (by omega) (by omega)
    · rw [if_neg h]
      exact ih _ _ _ (by omega) (by omega) (by omega) (by omega) (by omega) (by omega)
theorem bl_le {a : Int} (h1 : a ≤ 9223372036854775807) : bl a ≤ 63 := by
  by_cases h : 1 ≤ a
  · by_cases hc : 64 ≤ bl a
    · have lo := bl_lo h
      have hm : (2 : Int) ^ 63 ≤ 2 ^ (bl a - 1).toNat := by
        have hn : (2 : Nat) ^ 63 ≤ 2 ^ (bl a - 1).toNat := Nat.pow_le_pow_right (by omega) (by omega)
        exact_mod_cast hn
      have e : (2 : Int) ^ 63 = 9223372036854775808 := by decide
      omega
    · omega
  · unfold bl; rw [if_pos (by omega)]; omega
theorem fix_log2 (a : Int) (h1 : a ≤ 9223372036854775807) : Ev (fun k => fix_Log2.f k a) (log2 a) := by
  refine Ev.congr (fun k => by rw [fix_Log2.f]) ?_
  refine evIte (fun h => ?_) (fun h => ?_)
  · exact evConst (by unfold log2; rw [if_pos h])
  · have ha : 1 ≤ a := by omega
    have g := bl_ge ha
    have g2 := bl_le h1
    have mi := mant_in ha
    have hj : ∀ m, m = mant a → Ev (fun k => fix_Log2.j0 k (bl a) m) (log2 a) := by
      intro m hm
      subst hm
      refine Ev.step (fun k => by rw [fix_Log2.j0]) ?_
      rw [log2_pos ha, w64 (x := bl a - 1) (by omega) (by omega)]
      exact log2_l0 8 _ _ 0 mi.1 mi.2 (by omega) (by omega) (by omega) (by omega)
    refine Ev.bind (fix_len a h1) ?_
    rw [uw64 (x := a) (by omega) (by omega)]
    refine evIte (fun hb => ?_) (fun hb => ?_)
    · rw [w64 (x := bl a - 31) (by omega) (by omega)]
      refine evPos (by omega) (hj _ ?_)
      unfold mant shr
      rw [if_pos hb, show IntKind.u64.bits = 64 from rfl, Nat.min_eq_left (by omega)]
    · rw [w64 (x := 31 - bl a) (by omega) (by omega)]
      refine evPos (by omega) (hj _ ?_)
      have e : mant a = a * 2 ^ (31 - bl a).toNat := by unfold mant; rw [if_neg hb]
      unfold shl
      rw [show IntKind.u64.bits = 64 from rfl, Nat.min_eq_left (by omega), ← e]
      exact uw64 (by omega) (by omega)
end Go.Proofs.Ytlhdoopmlpnhlaa.Q
namespace Go.Proofs.Ytlhdoopmlpnhlaa.Q
open Go.RowKit Go.Proofs.Ytlhdoopmlpnhlaa.P Go.Proofs.YtlhdoopmlpnhlaaW.PrintWords Go.Proofs.YtlhdoopmlpnhlaaW.PrintLast Go.Proofs.YtlhdoopmlpnhlaaW.PrintMore
set_option linter.unusedVariables false

theorem ref_down {a d : Int} (hd : 1 ≤ d) (h0 : -9223372036854775807 ≤ a) (h1 : a ≤ 9223372036854775807) : madrigalref1_Down.f a d = some (a / d) := by
  unfold madrigalref1_Down.f
  rw [if_neg (by omega)]
  have hmod := Int.emod_nonneg a (show d ≠ 0 by omega)
  have hlt := Int.emod_lt_of_pos a (show 0 < d by omega)
  have he := Int.mul_ediv_add_emod a d
  have hbs : d.sign = 1 := Int.sign_eq_one_of_pos (by omega)
  have hm : Int.tmod a d = a - d * Int.tdiv a d := by have := Int.mul_tdiv_add_tmod a d; omega
  have hq2 : a / d ≤ 9223372036854775807 := by
    by_cases h : 0 ≤ a
    · have := Int.ediv_le_self d h; omega
    · have : a / d < 0 := Int.ediv_neg_of_neg_of_pos (by omega) (by omega)
      omega
  have hq1 : -9223372036854775807 ≤ a / d := by
    rw [Int.le_ediv_iff_mul_le (by omega)]
    have : (-9223372036854775807 : Int) * d ≤ -9223372036854775807 * 1 := Int.mul_le_mul_of_nonpos_left (by omega) (by omega)
    omega
  have ht : Int.tdiv a d = if 0 ≤ a ∨ a % d = 0 then a / d else a / d + 1 := by
    rw [Int.tdiv_eq_ediv, hbs]
    by_cases h : 0 ≤ a
    · rw [if_pos (.inl h), if_pos (.inl h)]; omega
    · by_cases h2 : a % d = 0
      · rw [if_pos (.inr (Int.dvd_of_emod_eq_zero h2)), if_pos (.inr h2)]; omega
      · rw [if_neg, if_neg]
        · rintro (h3 | h3)
          · exact h h3
          · exact h2 h3
        · rintro (h3 | h3)
          · exact h h3
          · exact h2 (Int.emod_eq_zero_of_dvd h3)
  by_cases h : 0 ≤ a ∨ a % d = 0
  · rw [if_pos h] at ht
    rw [hm, ht, if_neg (by omega), w64 (by omega) (by omega)]
  · rw [if_neg h] at ht
    have hmul : d * (a / d + 1) = d * (a / d) + d := by rw [Int.mul_add]; omega
    have hneg : a / d < 0 := Int.ediv_neg_of_neg_of_pos (by omega) (by omega)
    rw [hm, ht, if_pos (by omega), w64 (x := a / d + 1) (by omega) (by omega), w64 (by omega) (by omega)]
    congr 1
    omega
end Go.Proofs.Ytlhdoopmlpnhlaa.Q
namespace Go.Proofs.Ytlhdoopmlpnhlaa.Q
open Go.RowKit Go.Proofs.Ytlhdoopmlpnhlaa.P Go.Proofs.YtlhdoopmlpnhlaaW.PrintWords Go.Proofs.YtlhdoopmlpnhlaaW.PrintLast Go.Proofs.YtlhdoopmlpnhlaaW.PrintMore
open Go.Proofs.Ytlhdoopmlpnhlaa.M
set_option linter.unusedVariables false

theorem pow_62 {n : Nat} (h : n ≤ 62) : (1 : Int) ≤ 2 ^ n ∧ (2 : Int) ^ n ≤ 4611686018427387904 :=
  ⟨by have h1 : (0 : Int) < 2 ^ n := Int.pow_pos (by omega)
      omega, by have := pow_most h; simpa using this⟩
theorem round_two (p P : Int) (hP : 1 ≤ P) : (p + P) / (2 * P) = if p % (2 * P) ≥ P then p / (2 * P) + 1 else p / (2 * P) := by
  have hmod := Int.emod_nonneg p (show 2 * P ≠ 0 by omega)
  have hlt := Int.emod_lt_of_pos p (show 0 < 2 * P by omega)
  have hd := Int.mul_ediv_add_emod p (2 * P)
  split
  · refine (Int.ediv_emod_unique (a := p + P) (b := 2 * P) (r := p % (2 * P) - P) (q := p / (2 * P) + 1) (by omega)).2 ⟨?_, by omega, by omega⟩ |>.1
    rw [Int.mul_add]; omega
  · exact ((Int.ediv_emod_unique (a := p + P) (b := 2 * P) (r := p % (2 * P) + P) (q := p / (2 * P)) (by omega)).2 ⟨by omega, by omega, by omega⟩).1
theorem ref_mul (a b s : Int) (hs0 : -9223372036854775808 ≤ s) (hs1 : s ≤ 9223372036854775807) : Ev (fun k => madrigalref1_Mul.f k a b s) (mul a b s) := by
  have hp := fac_prod a b
  refine Ev.congr (fun k => by rw [madrigalref1_Mul.f]) (Ev.bind (ref_clamp a _ _) (Ev.bind (ref_clamp b _ _) ?_))
  have e : clamp a (-2147483648) 2147483648 * clamp b (-2147483648) 2147483648 = fac a * fac b := rfl
  rw [e, w64 (x := fac a * fac b) (by omega) (by omega)]
  have hno : ∀ t, t = true → Ev (fun k => madrigalref1_Mul.j0 k s (fac a * fac b) t) 0 := by
    intro t ht
    refine Ev.step (fun k => by rw [madrigalref1_Mul.j0]) ?_
    exact evPos ht (Ev.now _)
  unfold mul
  by_cases h1 : s < 0
  · rw [if_neg (show ¬ s = 0 by omega), if_pos h1]
    exact evPos h1 (hno _ rfl)
  · refine evNeg h1 ?_
    by_cases h2 : s > 62
    · rw [if_neg (show ¬ s = 0 by omega), if_neg h1, if_pos h2]
      exact hno _ (decide_eq_true h2)
    · rw [decide_eq_false h2]
      refine Ev.step (fun k => by rw [madrigalref1_Mul.j0]) ?_
      refine evNeg (by simp) (evIte (fun h3 => ?_) (fun h3 => ?_))
      · rw [if_pos h3]; exact Ev.now _
      · rw [if_neg h3, if_neg h1, if_neg h2, w64 (x := s - 1) (by omega) (by omega), uw64 (x := s - 1) (by omega) (by omega), uw64 (x := s) (by omega) (by omega), shl1_64 (by omega) (by omega), shr_64 (by omega)]
        have hs2 : s.toNat = (s - 1).toNat + 1 := by omega
        have e2 : (2 : Int) ^ s.toNat = 2 * 2 ^ (s - 1).toNat := by rw [hs2, pow_next]
        have hq := pow_61 (n := (s - 1).toNat) (by omega)
        have hr := round_two (fac a * fac b) (2 ^ (s - 1).toNat) hq.1
        have hmod := Int.emod_nonneg (fac a * fac b) (show 2 * 2 ^ (s - 1).toNat ≠ 0 by omega)
        have hlt := Int.emod_lt_of_pos (fac a * fac b) (show 0 < 2 * 2 ^ (s - 1).toNat by omega)
        have hd := Int.mul_ediv_add_emod (fac a * fac b) (2 * 2 ^ (s - 1).toNat)
        rw [Int.mul_comm] at hd
        have hq1 : -4611686018427387904 ≤ fac a * fac b / (2 * 2 ^ (s - 1).toNat) ∧ fac a * fac b / (2 * 2 ^ (s - 1).toNat) ≤ 4611686018427387904 := by
          have h := Int.natAbs_ediv_le_natAbs (fac a * fac b) (2 * 2 ^ (s - 1).toNat)
          omega
        rw [shl_64 (by omega) (by rw [e2]; omega) (by rw [e2]; omega), e2, w64 (x := fac a * fac b - _) (by omega) (by omega), w64 (x := _ + 1) (by omega) (by omega), hr]
        refine evPos (by omega) (evPos (by omega) (evIte (fun h4 => ?_) (fun h4 => ?_)))
        · rw [if_pos (by omega)]; exact Ev.now _
        · rw [if_neg (by omega)]; exact Ev.now _
theorem ev_unbind2 {α β : Type} {a : Nat → Option α} {g : Nat → α → Option β} {x : α} {r : β} (h : Ev (fun k => (a k).bind (g k)) r) (ha : Ev a x) : Ev (fun k => g k x) r := by
  obtain ⟨K, h⟩ := h
  obtain ⟨L, ha⟩ := ha
  refine ⟨K + L, fun k hk => ?_⟩
  have h1 : (a k).bind (g k) = some r := h k (by omega)
  rw [ha k (by omega)] at h1
  exact h1
/-- A quotient, down, by a divisor of either sign. -/
def divI (a b s : Int) : Int := if fac b = 0 then 0 else if s < 0 then 0 else if s > 30 then 0 else if fac b < 0 then (-(fac a) * 2 ^ s.toNat) / (-(fac b)) else fac a * 2 ^ s.toNat / fac b
theorem fix_divI (a b s : Int) : Ev (fun k => fix_Div.f k a b s) (divI a b s) := by
  have hb := fac_bounds b
  have ha := fac_bounds a
  have hno : ∀ t, t = true → Ev (fun k => fix_Div.j0 k (fac a) (fac b) s t) 0 := by
    intro t ht
    refine Ev.step (fun k => by rw [fix_Div.j0]) ?_
    exact evPos ht (Ev.now _)
  by_cases h5 : fac b < 0 ∧ 0 ≤ s ∧ s ≤ 30
  · refine Ev.congr (fun k => by rw [fix_Div.f]) (Ev.bind (fix_factor a) (Ev.bind (fix_factor b) (evNeg (show ¬ fac b = 0 by omega) (evNeg (show ¬ s < 0 by omega) ?_))))
    rw [decide_eq_false (show ¬ s > 30 by omega)]
    unfold divI
    rw [if_neg (show ¬ fac b = 0 by omega), if_neg (show ¬ s < 0 by omega), if_neg (show ¬ s > 30 by omega), if_pos h5.1]
    refine Ev.step (fun k => by rw [fix_Div.j0]) ?_
    have hu := up_bounds ha h5.2.2
    have en : -(fac a) * 2 ^ s.toNat = -(fac a * 2 ^ s.toNat) := Int.neg_mul _ _
    rw [shl_64 (x := fac a) (s := s) (by omega) (by omega) (by omega), en]
    generalize fac a * 2 ^ s.toNat = n at hu ⊢
    generalize fac b = d at hb h5 ⊢
    have hq := tdiv_down (n := -n) (d := -d) (by omega)
    have e1 : Int.tdiv (-n) (-d) = Int.tdiv n d := Int.neg_tdiv_neg n d
    have e2 : Int.tmod (-n) (-d) = -Int.tmod n d := by rw [Int.tmod_neg, Int.neg_tmod]
    rw [e1, e2] at hq
    have e3 := Int.natAbs_tdiv n d
    have hle : n.natAbs / d.natAbs ≤ n.natAbs := Nat.div_le_self _ _
    have e4 : (Int.tdiv n d).natAbs ≤ n.natAbs := by rw [e3]; exact hle
    rw [w64 (x := Int.tdiv n d) (by omega) (by omega), w64 (x := Int.tdiv n d - 1) (by omega) (by omega)]
    refine evNeg (by simp) (evPos (by omega) (evNeg (by omega) ?_))
    rw [← hq]
    refine evIte (fun h => ?_) (fun h => ?_)
    · rw [if_pos (show -n.tmod d = 0 by omega)]; exact Ev.now _
    · rw [if_neg (show ¬ -n.tmod d = 0 by omega)]
      have hn0 : n ≠ 0 := fun e => h (by rw [e]; exact Int.zero_tmod d)
      rw [decide_eq_true (show d < 0 by omega)]
      by_cases hn : n < 0
      · rw [decide_eq_true hn, if_neg (show ¬ -n < 0 by omega)]; exact evNeg (by simp) (Ev.now _)
      · rw [decide_eq_false hn, if_pos (show -n < 0 by omega)]; exact evPos (by rfl) (Ev.now _)
  · unfold divI
    by_cases h0 : fac b = 0
    · rw [if_pos h0]
      refine Ev.congr (fun k => by rw [fix_Div.f]) (Ev.bind (fix_factor a) (Ev.bind (fix_factor b) (evPos h0 (hno _ rfl))))
    · rw [if_neg h0]
      by_cases h1 : s < 0
      · rw [if_pos h1]
        refine Ev.congr (fun k => by rw [fix_Div.f]) (Ev.bind (fix_factor a) (Ev.bind (fix_factor b) (evNeg h0 (evPos h1 (hno _ rfl)))))
      · rw [if_neg h1]
        by_cases h2 : s > 30
        · rw [if_pos h2]
          refine Ev.congr (fun k => by rw [fix_Div.f]) (Ev.bind (fix_factor a) (Ev.bind (fix_factor b) (evNeg h0 (evNeg h1 (hno _ (decide_eq_true h2))))))
        · rw [if_neg h2, if_neg (by omega)]
          have ef : fac (fac b) = fac b := fac_id hb.1 hb.2
          have h := fix_div_any a (fac b) s (by omega) (by omega)
          have h1 : Ev (fun k => (fix_factor.f k a).bind fun t126 => ((fix_factor.f k (fac b)).bind fun t127 => (if t127 = 0 then (fix_Div.j0 k t126 t127 s true) else (if s < 0 then (fix_Div.j0 k t126 t127 s true) else (fix_Div.j0 k t126 t127 s (decide (s > 30))))))) (fac a * 2 ^ s.toNat / fac b) := Ev.congr (fun k => by rw [fix_Div.f]) h
          have h2 : Ev (fun k => (fix_factor.f k (fac b)).bind fun t127 => (if t127 = 0 then (fix_Div.j0 k (fac a) t127 s true) else (if s < 0 then (fix_Div.j0 k (fac a) t127 s true) else (fix_Div.j0 k (fac a) t127 s (decide (s > 30)))))) (fac a * 2 ^ s.toNat / fac b) := ev_unbind2 (g := fun k t126 => ((fix_factor.f k (fac b)).bind fun t127 => (if t127 = 0 then (fix_Div.j0 k t126 t127 s true) else (if s < 0 then (fix_Div.j0 k t126 t127 s true) else (fix_Div.j0 k t126 t127 s (decide (s > 30))))))) h1 (fix_factor a)
          have h3 := ev_unbind2 (g := fun k t127 => (if t127 = 0 then (fix_Div.j0 k (fac a) t127 s true) else (if s < 0 then (fix_Div.j0 k (fac a) t127 s true) else (fix_Div.j0 k (fac a) t127 s (decide (s > 30)))))) h2 (evEq (fix_factor (fac b)) ef)
          exact Ev.congr (fun k => by rw [fix_Div.f]) (Ev.bind (fix_factor a) (Ev.bind (fix_factor b) h3))
theorem ref_div (a b s : Int) (hs0 : -9223372036854775808 ≤ s) (hs1 : s ≤ 9223372036854775807) : Ev (fun k => madrigalref1_Div.f k a b s) (divI a b s) := by
  have hb := fac_bounds b
  have ha := fac_bounds a
  have hno : ∀ t, t = true → Ev (fun k => madrigalref1_Div.j0 k (fac a) (fac b) s t) 0 := by
    intro t ht
    refine Ev.step (fun k => by rw [madrigalref1_Div.j0]) ?_
    exact evPos ht (Ev.now _)
  have e1 : clamp a (-2147483648) 2147483648 = fac a := rfl
  have e2 : clamp b (-2147483648) 2147483648 = fac b := rfl
  refine Ev.congr (fun k => by rw [madrigalref1_Div.f]) (Ev.bind (evEq (ref_clamp a _ _) e1) (Ev.bind (evEq (ref_clamp b _ _) e2) ?_))
  unfold divI
  refine evIte (fun h => ?_) (fun h => ?_)
  · rw [if_pos h]; exact hno _ rfl
  · rw [if_neg h]
    refine evIte (fun h1 => ?_) (fun h1 => ?_)
    · rw [if_pos h1]; exact hno _ rfl
    · rw [if_neg h1]
      by_cases h2 : s > 30
      · rw [if_pos h2]; exact hno _ (decide_eq_true h2)
      · rw [if_neg h2, decide_eq_false h2]
        refine Ev.step (fun k => by rw [madrigalref1_Div.j0]) ?_
        have hu := up_bounds ha (show s ≤ 30 by omega)
        have en : -(fac a) * 2 ^ s.toNat = -(fac a * 2 ^ s.toNat) := Int.neg_mul _ _
        rw [uw64 (x := s) (by omega) (by omega), shl1_64 (by omega) (by omega), w64 (x := -(fac a)) (by omega) (by omega), w64 (x := -(fac b)) (by omega) (by omega), en, w64 (x := fac a * 2 ^ s.toNat) (by omega) (by omega), w64 (x := -(fac a * 2 ^ s.toNat)) (by omega) (by omega)]
        refine evNeg (by simp) (evIte (fun h3 => ?_) (fun h3 => ?_))
        · rw [if_pos h3, ref_down (by omega) (by omega) (by omega)]
          exact evPos (by omega) (Ev.bind (Ev.now _) (Ev.now _))
        · rw [if_neg h3, ref_down (by omega) (by omega) (by omega)]
          exact evPos (by omega) (Ev.bind (Ev.now _) (Ev.now _))
end Go.Proofs.Ytlhdoopmlpnhlaa.Q
namespace Go.Proofs.Ytlhdoopmlpnhlaa.Q
open Go.RowKit Go.Proofs.Ytlhdoopmlpnhlaa.P Go.Proofs.YtlhdoopmlpnhlaaW.PrintWords Go.Proofs.YtlhdoopmlpnhlaaW.PrintLast Go.Proofs.YtlhdoopmlpnhlaaW.PrintMore
open Go.Proofs.Ytlhdoopmlpnhlaa.M
set_option linter.unusedVariables false

theorem ref_series_l0 (z : Int) (n : Nat) : ∀ (S A : List Int) (s i : Int), S.length = n → i = A.length → A.length + S.length ≤ 1000 → (∀ c ∈ S, -2147483648 ≤ c ∧ c ≤ 2147483648) →
    Ev (fun k => madrigalref1_series.l0 k z s (A ++ S) i) (ser z s S) := by
  induction n with
  | zero =>
    intro S A s i hn hi hl hS
    have e1 : S = [] := List.eq_nil_of_length_eq_zero hn
    subst e1
    refine Ev.step (fun k => by rw [madrigalref1_series.l0]) ?_
    exact evNeg (by simp; omega) (Ev.now _)
  | succ n ih =>
    intro S A s i hn hi hl hS
    cases S with
    | nil => simp at hn
    | cons c S =>
      simp at hn hl
      have hc := hS c (by simp)
      have hb := mul30_bounds z s
      refine Ev.step (fun k => by rw [madrigalref1_series.l0]) ?_
      refine evPos (by simp; omega) (evPos (by omega) ?_)
      refine Ev.bind (ref_mul z s 30 (by omega) (by omega)) ?_
      rw [rd_mid _ _ _ _ hi, w64 (x := i + 1) (by omega) (by omega), w64 (x := c + _) (by omega) (by omega)]
      have h := ih S (A ++ [c]) (c + mul z s 30) (i + 1) (by omega) (by simp; omega) (by simp; omega) (fun y hy => hS y (by simp [hy]))
      simpa [ser] using h
theorem ref_ser (z s : Int) (l : List Int) (hl : l.length ≤ 100) (h : ∀ c ∈ l, -2147483648 ≤ c ∧ c ≤ 2147483648) : Ev (fun k => madrigalref1_series.f k z s l) (ser z s l) := by
  refine Ev.congr (fun k => by rw [madrigalref1_series.f]) ?_
  have h2 := ref_series_l0 z l.length l [] s 0 rfl rfl (by simp; omega) h
  exact h2
theorem ref_quarter (x : Int) (hx : 0 ≤ x ∧ x ≤ 16384) : Ev (fun k => madrigalref1_quarter.f k x) (qr x) := by
  refine Ev.congr (fun k => by rw [madrigalref1_quarter.f]) ?_
  by_cases h : x ≤ 8192
  · have e : mul (ser (mul (mul x 1686629713 14) (mul x 1686629713 14) 30) (-296) [26631, -1491308, 44739243, -536870912, 1073741824]) 1 15 = qr x := by unfold qr; rw [if_pos h]
    refine evPos h (Ev.bind (ref_mul _ _ _ (by omega) (by omega)) (Ev.bind (ref_mul _ _ _ (by omega) (by omega)) (Ev.bind (ref_ser _ _ _ (by decide) (by decide)) (Ev.bind (ref_mul _ _ _ (by omega) (by omega)) (evEq (Ev.now _) e)))))
  · have e : mul (mul (mul (16384 - x) 1686629713 14) (ser (mul (mul (16384 - x) 1686629713 14) (mul (16384 - x) 1686629713 14) 30) 2959 [-213044, 8947849, -178956971, 1073741824]) 30) 1 15 = qr x := by unfold qr; rw [if_neg h]
    refine evNeg h ?_
    rw [w64 (x := 16384 - x) (by omega) (by omega)]
    exact Ev.bind (ref_mul _ _ _ (by omega) (by omega)) (Ev.bind (ref_mul _ _ _ (by omega) (by omega)) (Ev.bind (ref_ser _ _ _ (by decide) (by decide)) (Ev.bind (ref_mul _ _ _ (by omega) (by omega)) (Ev.bind (ref_mul _ _ _ (by omega) (by omega)) (evEq (Ev.now _) e)))))
theorem ref_cos (a : Int) : Ev (fun k => madrigalref1_Cos.f k a) (cosI a) := by
  have hj : ∀ x, 0 ≤ x → x ≤ 32768 → x = fold a → Ev (fun k => madrigalref1_Cos.j0 k x) (cosI a) := by
    intro x h0 h1 hx
    refine Ev.step (fun k => by rw [madrigalref1_Cos.j0]) ?_
    unfold cosI
    rw [← hx]
    have hq := qr_small (32768 - x)
    refine evIte (fun h => ?_) (fun h => ?_)
    · rw [w64 (x := 32768 - x) (by omega) (by omega), if_pos h]
      refine Ev.bind (ref_quarter _ (by omega)) ?_
      rw [w64 (x := -qr (32768 - x)) (by omega) (by omega)]
      exact Ev.now _
    · rw [if_neg h]
      exact Ev.bind (ref_quarter _ (by omega)) (Ev.now _)
  refine Ev.congr (fun k => by rw [madrigalref1_Cos.f]) ?_
  rw [bits_65535]
  refine evIte (fun h => ?_) (fun h => ?_)
  · rw [w64 (x := 65536 - a % 65536) (by omega) (by omega)]
    exact hj _ (by omega) (by omega) (by unfold fold; rw [if_pos h])
  · exact hj _ (by omega) (by omega) (by unfold fold; rw [if_neg h])
theorem ref_sin (a : Int) : Ev (fun k => madrigalref1_Sin.f k a) (cosI (a % 65536 - 16384)) := by
  refine Ev.congr (fun k => by rw [madrigalref1_Sin.f]) ?_
  rw [bits_65535, w64 (x := a % 65536 - 16384) (by omega) (by omega)]
  exact Ev.bind (ref_cos _) (Ev.now _)
end Go.Proofs.Ytlhdoopmlpnhlaa.Q
namespace Go.Proofs.Ytlhdoopmlpnhlaa.Q
open Go.RowKit Go.Proofs.Ytlhdoopmlpnhlaa.P Go.Proofs.YtlhdoopmlpnhlaaW.PrintWords Go.Proofs.YtlhdoopmlpnhlaaW.PrintLast Go.Proofs.YtlhdoopmlpnhlaaW.PrintMore
open Go.Proofs.Ytlhdoopmlpnhlaa.M
set_option linter.unusedVariables false

theorem bl_half {a : Int} (h : 1 ≤ a) : bl a = bl (a / 2) + 1 := by
  by_cases h1 : a = 1
  · subst h1; decide
  · have lo := bl_lo (a := a / 2) (by omega)
    have hi := bl_hi (a := a / 2) (by omega)
    have g := bl_ge (a := a / 2) (by omega)
    have e : (bl (a / 2)).toNat = (bl (a / 2) - 1).toNat + 1 := by omega
    have h3 := bl_unique (a := a) (n := (bl (a / 2)).toNat) (by rw [e, pow_next']; omega) (by rw [pow_next']; omega)
    omega
where pow_next' {n : Nat} : (2 : Int) ^ (n + 1) = 2 * 2 ^ n := by rw [Int.pow_succ]; omega
theorem ref_len_l0 (n : Nat) : ∀ (a c : Int), a.toNat < n → a ≤ 9223372036854775807 → 0 ≤ c → c + bl a ≤ 1000 → Ev (fun k => madrigalref1_Len.l0 k a c) (c + bl a) := by
  induction n with
  | zero => intro a c h; omega
  | succ n ih =>
    intro a c h h1 h0 hb
    refine Ev.step (fun k => by rw [madrigalref1_Len.l0]) ?_
    by_cases ha : 1 ≤ a
    · have e := bl_half ha
      rw [Int.tdiv_eq_ediv_of_nonneg (by omega), w64 (x := a / 2) (by omega) (by omega)]
      have hb0 : 0 ≤ bl (a / 2) := by unfold bl; split <;> omega
      rw [w64 (x := c + 1) (by omega) (by omega)]
      refine evPos (by omega) (evEq (ih (a / 2) (c + 1) (by omega) (by omega) (by omega) (by omega)) (by omega))
    · have e : bl a = 0 := by unfold bl; rw [if_pos (by omega)]
      exact evNeg (by omega) (evEq (Ev.now c) (by omega))
theorem ref_len (a : Int) (h1 : a ≤ 9223372036854775807) : Ev (fun k => madrigalref1_Len.f k a) (bl a) := by
  have hb := bl_le h1
  refine Ev.congr (fun k => by rw [madrigalref1_Len.f]) ?_
  exact evEq (ref_len_l0 (a.toNat + 1) a 0 (by omega) h1 (by omega) (by omega)) (by omega)
theorem ref_log_l1 (x : Int) (hx : 1 ≤ x ∧ x ≤ 63) (n : Nat) : ∀ (m o i : Int), 1073741824 ≤ m → m < 2147483648 → 0 ≤ o → o * 2 ^ n + 2 ^ n ≤ 1000000 → i + n = 8 → 0 ≤ i →
    Ev (fun k => madrigalref1_Log2.l1 k x m o i) (256 * (x - 1) + l2 n m o) := by
  induction n with
  | zero =>
    intro m o i h0 h1 ho hb hi hi0
    refine Ev.step (fun k => by rw [madrigalref1_Log2.l1]) ?_
    simp at hb
    rw [w64 (x := x - 1) (by omega) (by omega), w64 (x := 256 * (x - 1)) (by omega) (by omega), w64 (x := 256 * (x - 1) + o) (by omega) (by omega)]
    exact evNeg (by omega) (Ev.now _)
  | succ n ih =>
    intro m o i h0 h1 ho hb hi hi0
    refine Ev.step (fun k => by rw [madrigalref1_Log2.l1]) ?_
    refine evPos (by omega) ?_
    have hin := l2_in h0 h1
    have hsq := sq_le (show 0 ≤ m by omega) (show m ≤ 2147483647 by omega)
    have hsq0 : 0 ≤ m * m := Int.mul_nonneg (by omega) (by omega)
    rw [w64 (x := m * m) (by omega) (by omega)]
    have hp : (0 : Int) < 2 ^ n := Int.pow_pos (by omega)
    have ep : (2 : Int) ^ (n + 1) = 2 * 2 ^ n := by rw [Int.pow_succ]; omega
    rw [ep] at hb
    have e0 : o * (2 * 2 ^ n) = o * 2 * 2 ^ n := by rw [Int.mul_assoc]
    have e1 : (o * 2 + 1) * 2 ^ n = o * 2 * 2 ^ n + 2 ^ n := by rw [Int.add_mul]; omega
    have e2 : o * 2 ≤ o * 2 * 2 ^ n := by
      have := Int.mul_le_mul_of_nonneg_left (show (1 : Int) ≤ 2 ^ n by omega) (show 0 ≤ o * 2 by omega)
      omega
    have e3 : 2 * o = o * 2 := by omega
    rw [Int.tdiv_eq_ediv_of_nonneg (by omega), e3]
    unfold l2
    rw [w64 (x := o * 2) (by omega) (by omega), w64 (x := o * 2 + 1) (by omega) (by omega), w64 (x := i + 1) (by omega) (by omega), w64 (x := m * m / 1073741824 / 2) (by omega) (by omega)]
    refine evIte (fun h => ?_) (fun h => ?_)
    · rw [if_pos h]
      exact ih _ _ _ (by omega) (by omega) (by omega) (by omega) (by omega) (by omega)
    · rw [if_neg h]
      exact ih _ _ _ (by omega) (by omega) (by omega) (by omega) (by omega) (by omega)
theorem ref_log_up (x : Int) (hx : 1 ≤ x ∧ x ≤ 63) {r : Int} (n : Nat) : ∀ (m i : Int), i + n = 31 → 1 ≤ i → 0 ≤ m → m * 2 ^ n < 2147483648 → x ≤ 31 → Ev (fun k => madrigalref1_Log2.j1 k x (m * 2 ^ n)) r → Ev (fun k => madrigalref1_Log2.l0 k x m i) r := by
  induction n with
  | zero =>
    intro m i hi h1 hm hb hx2 h
    refine Ev.step (fun k => by rw [madrigalref1_Log2.l0]) ?_
    exact evNeg (by omega) (evNeg (by omega) (by simpa using h))
  | succ n ih =>
    intro m i hi h1 hm hb hx2 h
    have ep : (2 : Int) ^ (n + 1) = 2 * 2 ^ n := by rw [Int.pow_succ]; omega
    have hp : (0 : Int) < 2 ^ n := Int.pow_pos (by omega)
    have e1 : m * 2 ^ (n + 1) = m * 2 * 2 ^ n := by rw [ep, Int.mul_assoc]
    have e2 : m * 2 ≤ m * 2 * 2 ^ n := by
      have := Int.mul_le_mul_of_nonneg_left (show (1 : Int) ≤ 2 ^ n by omega) (show 0 ≤ m * 2 by omega)
      omega
    refine Ev.step (fun k => by rw [madrigalref1_Log2.l0]) ?_
    rw [w64 (x := m * 2) (by omega) (by omega), w64 (x := i + 1) (by omega) (by omega)]
    refine evPos (by omega) (ih (m * 2) (i + 1) (by omega) (by omega) (by omega) (by omega) hx2 ?_)
    rw [← e1]; exact h
theorem ref_log2 (a : Int) (h1 : a ≤ 9223372036854775807) : Ev (fun k => madrigalref1_Log2.f k a) (log2 a) := by
  refine Ev.congr (fun k => by rw [madrigalref1_Log2.f]) ?_
  refine evIte (fun h => ?_) (fun h => ?_)
  · exact evConst (by unfold log2; rw [if_pos h])
  · have ha : 1 ≤ a := by omega
    have g := bl_ge ha
    have g2 := bl_le h1
    have mi := mant_in ha
    refine Ev.bind (ref_len a h1) ?_
    have hj : ∀ m, m = mant a → Ev (fun k => madrigalref1_Log2.j1 k (bl a) m) (log2 a) := by
      intro m hm
      subst hm
      refine Ev.step (fun k => by rw [madrigalref1_Log2.j1]) ?_
      have h := ref_log_l1 (bl a) (by omega) 8 (mant a) 0 0 mi.1 mi.2 (by omega) (by omega) (by omega) (by omega)
      refine evEq h ?_
      have e := l2_add 8 (mant a) 0 (bl a - 1)
      rw [log2_pos ha]
      have e3 : (0 : Int) + (bl a - 1) = bl a - 1 := by omega
      have h256 : (2 : Int) ^ 8 = 256 := by decide
      rw [e3, h256] at e
      omega
    by_cases hb : bl a > 31
    · refine Ev.step (fun k => by rw [madrigalref1_Log2.l0]) ?_
      rw [w64 (x := bl a - 31) (by omega) (by omega), uw64 (x := bl a - 31) (by omega) (by omega), shr_64 (by omega)]
      refine evNeg (by omega) (evPos hb (evPos (by omega) (hj _ ?_)))
      unfold mant; rw [if_pos hb]
    · have em : mant a = a * 2 ^ (31 - bl a).toNat := by unfold mant; rw [if_neg hb]
      refine ref_log_up (bl a) (by omega) (31 - bl a).toNat a (bl a) (by omega) (by omega) (by omega) (by rw [← em]; omega) (by omega) (hj _ em.symm)
end Go.Proofs.Ytlhdoopmlpnhlaa.Q
namespace Go.Proofs.Ytlhdoopmlpnhlaa.M
set_option linter.unusedVariables false
/-- The root, with the powers of two below 2^n still to come. -/
def sqrtL : Nat → Int → Int → Int
  | 0, _, R => R
  | n + 1, a, R => if R * R + 2 * (R * 2 ^ n) + 2 ^ n * 2 ^ n ≤ a then sqrtL n a (R + 2 ^ n) else sqrtL n a R
def root (a : Int) : Int := if a < 0 then 0 else sqrtL 32 a 0
theorem sq_add (R P : Int) : (R + P) * (R + P) = R * R + 2 * (R * P) + P * P := by
  rw [Int.add_mul, Int.mul_add, Int.mul_add, Int.mul_comm P R]; omega
theorem sqrtL_spec : ∀ (n : Nat) (a R : Int), 0 ≤ R → R * R ≤ a → a < (R + 2 ^ n) * (R + 2 ^ n) → 0 ≤ sqrtL n a R ∧ sqrtL n a R * sqrtL n a R ≤ a ∧ a < (sqrtL n a R + 1) * (sqrtL n a R + 1)
  | 0, a, R, h0, h1, h2 => ⟨h0, h1, by simpa [sqrtL] using h2⟩
  | n + 1, a, R, h0, h1, h2 => by
    have hp : (0 : Int) < 2 ^ n := Int.pow_pos (by omega)
    have e := sq_add R (2 ^ n)
    unfold sqrtL
    split
    · refine sqrtL_spec n a (R + 2 ^ n) (by omega) (by omega) ?_
      have e3 : R + 2 ^ n + 2 ^ n = R + 2 ^ (n + 1) := by rw [pow_next]; omega
      rw [e3]; exact h2
    · exact sqrtL_spec n a R h0 h1 (by omega)
theorem root_spec {a : Int} (h0 : 0 ≤ a) (h1 : a ≤ 9223372036854775807) : 0 ≤ root a ∧ root a * root a ≤ a ∧ a < (root a + 1) * (root a + 1) := by
  unfold root
  rw [if_neg (by omega)]
  exact sqrtL_spec 32 a 0 (by omega) (by omega) (by have : ((0 : Int) + 2 ^ 32) * (0 + 2 ^ 32) = 18446744073709551616 := by decide
                                                    omega)
theorem root_nonneg (a : Int) (h1 : a ≤ 9223372036854775807) : 0 ≤ root a := by
  by_cases h : 0 ≤ a
  · exact (root_spec h h1).1
  · unfold root; rw [if_pos (by omega)]; omega
theorem sq_lt {a b : Int} (h0 : 0 ≤ a) (h : a ≤ b) : a * a ≤ b * b := Int.mul_le_mul h h h0 (by omega)
theorem root_mono {a b : Int} (h : a ≤ b) (h1 : b ≤ 9223372036854775807) : root a ≤ root b := by
  by_cases ha : 0 ≤ a
  · have A := root_spec ha (by omega)
    have B := root_spec (a := b) (by omega) h1
    by_cases hc : root b < root a
    · have := sq_lt (a := root b + 1) (b := root a) (by omega) (by omega)
      omega
    · omega
  · have := root_nonneg b h1
    have e : root a = 0 := by unfold root; rw [if_pos (by omega)]
    omega
end Go.Proofs.Ytlhdoopmlpnhlaa.M
namespace Go.Proofs.Ytlhdoopmlpnhlaa.Q
open Go.RowKit Go.Proofs.Ytlhdoopmlpnhlaa.P Go.Proofs.YtlhdoopmlpnhlaaW.PrintWords Go.Proofs.YtlhdoopmlpnhlaaW.PrintLast Go.Proofs.YtlhdoopmlpnhlaaW.PrintMore
open Go.Proofs.Ytlhdoopmlpnhlaa.M
set_option linter.unusedVariables false

def bitN : Nat → Int
  | 0 => 0
  | n + 1 => 2 ^ n * 2 ^ n
theorem bitN_next (n : Nat) : bitN (n + 1) / 4 = bitN n := by
  cases n with
  | zero => decide
  | succ n =>
    show 2 ^ (n + 1) * 2 ^ (n + 1) / 4 = 2 ^ n * 2 ^ n
    have e : (2 : Int) ^ (n + 1) * 2 ^ (n + 1) = 4 * (2 ^ n * 2 ^ n) := by
      rw [pow_next, Int.mul_assoc, Int.mul_left_comm (2 ^ n) 2 (2 ^ n)]; omega
    rw [e]
    exact Int.mul_ediv_cancel_left _ (by omega)
theorem sqrt_l0 (a : Int) (ha : a ≤ 9223372036854775807) (n : Nat) : ∀ (R rest r bit : Int), n ≤ 32 → 0 ≤ R → R * R ≤ a → rest = a - R * R → r = R * 2 ^ n → bit = bitN n →
    Ev (fun k => fix_Sqrt.l0 k rest r bit) (sqrtL n a R) := by
  induction n with
  | zero =>
    intro R rest r bit hn h0 h1 hrest hr hb
    refine Ev.step (fun k => by rw [fix_Sqrt.l0]) ?_
    have e : bit = 0 := hb
    have e2 : r = R := by rw [hr]; simp
    have hR : R ≤ 3037000499 := by
      by_cases hc : 3037000500 ≤ R
      · have := sq_lt (a := 3037000500) (b := R) (by omega) hc
        omega
      · omega
    refine evNeg (by omega) ?_
    rw [w64 (by omega) (by omega), e2]
    exact Ev.now _
  | succ n ih =>
    intro R rest r bit hn h0 h1 hrest hr hb
    have hR : R ≤ 3037000499 := by
      by_cases hc : 3037000500 ≤ R
      · have := sq_lt (a := 3037000500) (b := R) (by omega) hc
        omega
      · omega
    have hp1 : (0 : Int) < 2 ^ n := Int.pow_pos (by omega)
    have hp2 : (2 : Int) ^ n ≤ 2 ^ 31 := pow_most (by omega)
    have eb : bit = 2 ^ n * 2 ^ n := hb
    have er : r = 2 * (R * 2 ^ n) := by rw [hr, pow_next, Int.mul_left_comm]
    have z1 := prod_le (x := 2 ^ n) (y := 2 ^ n) (a := 2147483648) (b := 2147483648) (by omega) (by omega)
    have z0 : 0 < (2 : Int) ^ n * 2 ^ n := Int.mul_pos hp1 hp1
    have y1 := prod_le (x := R) (y := 2 ^ n) (a := 3037000499) (b := 2147483648) (by omega) (by omega)
    have y0 : 0 ≤ R * 2 ^ n := Int.mul_nonneg h0 (by omega)
    have x0 : 0 ≤ R * R := Int.mul_nonneg h0 h0
    have es := sq_add R (2 ^ n)
    have e4 : bit / 4 = bitN n := by rw [hb]; exact bitN_next n
    refine Ev.step (fun k => by rw [fix_Sqrt.l0]) ?_
    refine evPos (by omega) ?_
    rw [uw64 (x := r + bit) (by omega) (by omega)]
    have er2 : r / 2 = R * 2 ^ n := by omega
    unfold sqrtL
    refine evIte (fun h => ?_) (fun h => ?_)
    · rw [if_pos (by omega), uw64 (x := rest - (r + bit)) (by omega) (by omega), uw64 (x := r / 2 + bit) (by omega) (by omega)]
      refine ih (R + 2 ^ n) _ _ _ (by omega) (by omega) (by omega) (by omega) ?_ e4
      rw [Int.add_mul]; omega
    · rw [if_neg (by omega)]
      exact ih R _ _ _ (by omega) h0 h1 hrest er2 e4
theorem fix_sqrt (a : Int) (ha : a ≤ 9223372036854775807) : Ev (fun k => fix_Sqrt.f k a) (root a) := by
  refine Ev.congr (fun k => by rw [fix_Sqrt.f]) ?_
  unfold root
  refine evIte (fun h => ?_) (fun h => ?_)
  · rw [if_pos h]; exact Ev.now _
  · rw [if_neg h, uw64 (x := a) (by omega) (by omega)]
    exact sqrt_l0 a ha 32 0 a 0 _ (by omega) (by omega) (by omega) (by omega) (by omega) (by decide)
end Go.Proofs.Ytlhdoopmlpnhlaa.Q
namespace Go.Proofs.Ytlhdoopmlpnhlaa.Q
open Go.RowKit Go.Proofs.Ytlhdoopmlpnhlaa.P Go.Proofs.YtlhdoopmlpnhlaaW.PrintWords Go.Proofs.YtlhdoopmlpnhlaaW.PrintLast Go.Proofs.YtlhdoopmlpnhlaaW.PrintMore
open Go.Proofs.Ytlhdoopmlpnhlaa.M
set_option linter.unusedVariables false

theorem sqrtL_neg (a : Int) (ha : a < 0) : ∀ (n : Nat), sqrtL n a 0 = 0
  | 0 => rfl
  | n + 1 => by
    have hp : (0 : Int) < 2 ^ n := Int.pow_pos (by omega)
    have h2 : (0 : Int) < 2 ^ n * 2 ^ n := Int.mul_pos hp hp
    unfold sqrtL
    rw [if_neg (by rw [Int.zero_mul, Int.zero_mul]; omega)]
    exact sqrtL_neg a ha n
theorem root_is (a : Int) : root a = sqrtL 32 a 0 := by
  unfold root
  by_cases h : a < 0
  · rw [if_pos h, sqrtL_neg a h]
  · rw [if_neg h]
theorem ref_sqrt_l0 (a : Int) (ha : a ≤ 9223372036854775807) (n : Nat) : ∀ (R i : Int), n ≤ 32 → 0 ≤ R → R ≤ 3037000499 → i = (n : Int) - 1 → Ev (fun k => madrigalref1_Sqrt.l0 k a R i) (sqrtL n a R) := by
  induction n with
  | zero =>
    intro R i hn h0 h1 hi
    refine Ev.step (fun k => by rw [madrigalref1_Sqrt.l0]) ?_
    exact evNeg (by omega) (Ev.now _)
  | succ n ih =>
    intro R i hn h0 h1 hi
    have ei : i.toNat = n := by omega
    have hp1 : (0 : Int) < 2 ^ n := Int.pow_pos (by omega)
    have hp2 : (2 : Int) ^ n ≤ 2 ^ 31 := pow_most (by omega)
    have es := sq_add R (2 ^ n)
    refine Ev.step (fun k => by rw [madrigalref1_Sqrt.l0]) ?_
    rw [uw64 (x := i) (by omega) (by omega), shl1_64 (by omega) (by omega), ei, w64 (x := R + 2 ^ n) (by omega) (by omega), w64 (x := i - 1) (by omega) (by omega)]
    refine evPos (by omega) (evPos (by omega) ?_)
    unfold sqrtL
    by_cases h2 : R + 2 ^ n ≤ 3037000499
    · refine evPos h2 ?_
      have hq := sq_lt (a := R + 2 ^ n) (b := 3037000499) (by omega) h2
      have hq0 : 0 ≤ (R + 2 ^ n) * (R + 2 ^ n) := Int.mul_nonneg (by omega) (by omega)
      rw [w64 (x := (R + 2 ^ n) * (R + 2 ^ n)) (by omega) (by omega)]
      refine evIte (fun h => ?_) (fun h => ?_)
      · rw [if_pos (by omega)]; exact ih _ _ (by omega) (by omega) h2 (by omega)
      · rw [if_neg (by omega)]; exact ih _ _ (by omega) h0 h1 (by omega)
    · have hq := sq_lt (a := 3037000500) (b := R + 2 ^ n) (by omega) (by omega)
      rw [if_neg (by omega)]
      exact evNeg h2 (ih _ _ (by omega) h0 h1 (by omega))
theorem ref_sqrt (a : Int) (ha : a ≤ 9223372036854775807) : Ev (fun k => madrigalref1_Sqrt.f k a) (root a) := by
  refine Ev.congr (fun k => by rw [madrigalref1_Sqrt.f]) ?_
  exact evEq (ref_sqrt_l0 a ha 32 0 31 (by omega) (by omega) (by omega) (by omega)) (root_is a).symm
end Go.Proofs.Ytlhdoopmlpnhlaa.Q
namespace Go.Proofs.Ytlhdoopmlpnhlaa.Q
open Go.RowKit Go.Proofs.Ytlhdoopmlpnhlaa.P Go.Proofs.YtlhdoopmlpnhlaaW.PrintWords Go.Proofs.YtlhdoopmlpnhlaaW.PrintLast Go.Proofs.YtlhdoopmlpnhlaaW.PrintMore
open Go.Proofs.Ytlhdoopmlpnhlaa.M
set_option linter.unusedVariables false

/-- One more. -/
def add1 (s x : Int) : Int := clamp (s + clamp x (-1099511627776) 1099511627776) (-72057594037927936) 72057594037927936
def sum (l : List Int) : Int := l.foldl add1 0
theorem add1_bounds (s x : Int) : -72057594037927936 ≤ add1 s x ∧ add1 s x ≤ 72057594037927936 := clamp_bounds (by omega)
theorem foldl_bounds : ∀ (l : List Int) (s : Int), -72057594037927936 ≤ s ∧ s ≤ 72057594037927936 → -72057594037927936 ≤ l.foldl add1 s ∧ l.foldl add1 s ≤ 72057594037927936
  | [], s, h => h
  | x :: l, s, h => foldl_bounds l (add1 s x) (add1_bounds s x)
theorem sum_bounds (l : List Int) : -72057594037927936 ≤ sum l ∧ sum l ≤ 72057594037927936 := foldl_bounds l 0 (by omega)
theorem fix_sum_l0 (n : Nat) : ∀ (S A : List Int) (s i m : Int), S.length = n → i = A.length → m = ((A.length + S.length : Nat) : Int) → m ≤ 1000000 → -72057594037927936 ≤ s ∧ s ≤ 72057594037927936 →
    Ev (fun k => fix_Sum.l0 k s (A ++ S) m i) (S.foldl add1 s) := by
  induction n with
  | zero =>
    intro S A s i m hn hi hm hl hs
    have e1 : S = [] := List.eq_nil_of_length_eq_zero hn
    subst e1
    refine Ev.step (fun k => by rw [fix_Sum.l0]) ?_
    exact evNeg (by simp at hm; omega) (Ev.now _)
  | succ n ih =>
    intro S A s i m hn hi hm hl hs
    cases S with
    | nil => simp at hn
    | cons x S =>
      simp at hn hm
      refine Ev.step (fun k => by rw [fix_Sum.l0]) ?_
      have hc := clamp_bounds (a := x) (lo := -1099511627776) (hi := 1099511627776) (by omega)
      refine evPos (by omega) (evPos (by omega) (evPos (by simp; omega) ?_))
      rw [rd_mid _ _ _ _ hi, w64 (x := i + 1) (by omega) (by omega)]
      refine Ev.bind (fix_clamp _ _ _) ?_
      rw [w64 (x := s + _) (by omega) (by omega)]
      refine Ev.bind (fix_clamp _ _ _) ?_
      have h := ih S (A ++ [x]) (add1 s x) (i + 1) m (by omega) (by simp; omega) (by simp; omega) hl (add1_bounds s x)
      simpa [add1] using h
theorem fix_sum (l : List Int) (h : l.length ≤ 1000000) : Ev (fun k => fix_Sum.f k l) (sum l) := by
  refine Ev.congr (fun k => by rw [fix_Sum.f]) ?_
  have h := fix_sum_l0 l.length l [] 0 0 l.length rfl rfl (by simp) (by omega) (by omega)
  exact h
/-- The sum as it is. -/
def tot (l : List Int) : Int := l.foldr (· + ·) 0
theorem foldl_tot (l : List Int) : ∀ (s : Int), (∀ x ∈ l, -1099511627776 ≤ x ∧ x ≤ 1099511627776) → -1099511627776 * (1000 - (l.length : Int)) ≤ s ∧ s ≤ 1099511627776 * (1000 - (l.length : Int)) → l.length ≤ 1000 → l.foldl add1 s = s + tot l := by
  induction l with
  | nil => intro s _ _ _; simp [tot]
  | cons x l ih =>
    intro s h hs hl
    have hx := h x (by simp)
    simp only [List.length_cons] at hs hl
    have e : add1 s x = s + x := by
      unfold add1
      rw [clamp_id hx.1 hx.2, clamp_id (by omega) (by omega)]
    rw [List.foldl_cons, e, ih (s + x) (fun y hy => h y (by simp [hy])) (by omega) (by omega)]
    show _ = s + (x + tot l)
    omega
theorem tot_bounds (l : List Int) : (∀ x ∈ l, -1099511627776 ≤ x ∧ x ≤ 1099511627776) → -1099511627776 * (l.length : Int) ≤ tot l ∧ tot l ≤ 1099511627776 * (l.length : Int) := by
  induction l with
  | nil => intro _; simp [tot]
  | cons x l ih =>
    intro h
    have hx := h x (by simp)
    have ih := ih (fun y hy => h y (by simp [hy]))
    have e : tot (x :: l) = x + tot l := rfl
    simp only [List.length_cons]
    omega
theorem tot_cat : ∀ (a b : List Int), tot (a ++ b) = tot a + tot b
  | [], b => by simp [tot]
  | x :: a, b => by
    have ih := tot_cat a b
    show x + tot (a ++ b) = x + tot a + tot b
    omega
end Go.Proofs.Ytlhdoopmlpnhlaa.Q
namespace Go.Proofs.Ytlhdoopmlpnhlaa.Q
open Go.RowKit Go.Proofs.Ytlhdoopmlpnhlaa.P Go.Proofs.YtlhdoopmlpnhlaaW.PrintWords Go.Proofs.YtlhdoopmlpnhlaaW.PrintLast Go.Proofs.YtlhdoopmlpnhlaaW.PrintMore
open Go.Proofs.Ytlhdoopmlpnhlaa.M
set_option linter.unusedVariables false

theorem ref_sum_l0 (n : Nat) : ∀ (S A : List Int) (s i : Int), S.length = n → i = A.length → A.length + S.length ≤ 1000000 → -72057594037927936 ≤ s ∧ s ≤ 72057594037927936 →
    Ev (fun k => madrigalref1_Sum.l0 k (A ++ S) s i) (S.foldl add1 s) := by
  induction n with
  | zero =>
    intro S A s i hn hi hl hs
    have e1 : S = [] := List.eq_nil_of_length_eq_zero hn
    subst e1
    refine Ev.step (fun k => by rw [madrigalref1_Sum.l0]) ?_
    exact evNeg (by simp; omega) (Ev.now _)
  | succ n ih =>
    intro S A s i hn hi hl hs
    cases S with
    | nil => simp at hn
    | cons x S =>
      simp at hn hl
      refine Ev.step (fun k => by rw [madrigalref1_Sum.l0]) ?_
      have hc := clamp_bounds (a := x) (lo := -1099511627776) (hi := 1099511627776) (by omega)
      refine evPos (by simp; omega) (evPos (by omega) ?_)
      rw [rd_mid _ _ _ _ hi, w64 (x := i + 1) (by omega) (by omega)]
      refine Ev.bind (ref_clamp _ _ _) ?_
      rw [w64 (x := s + _) (by omega) (by omega)]
      refine Ev.bind (ref_clamp _ _ _) ?_
      have h := ih S (A ++ [x]) (add1 s x) (i + 1) (by omega) (by simp; omega) (by simp; omega) (add1_bounds s x)
      simpa [add1] using h
theorem ref_sum (l : List Int) (h : l.length ≤ 1000000) : Ev (fun k => madrigalref1_Sum.f k l) (sum l) := by
  refine Ev.congr (fun k => by rw [madrigalref1_Sum.f]) ?_
  have h := ref_sum_l0 l.length l [] 0 0 rfl rfl (by simpa using h) (by omega)
  exact h
end Go.Proofs.Ytlhdoopmlpnhlaa.Q
namespace Go.Proofs.Ytlhdoopmlpnhlaa.Q
open Go.RowKit Go.Proofs.Ytlhdoopmlpnhlaa.P Go.Proofs.YtlhdoopmlpnhlaaW.PrintWords Go.Proofs.YtlhdoopmlpnhlaaW.PrintLast Go.Proofs.YtlhdoopmlpnhlaaW.PrintMore
set_option linter.unusedVariables false

theorem awake1 : Ev (fun k => madrigallaw1_awake.f k) true := Ev.of madrigallaw1_awake.mono (k := 100) (by kernel_rfl)
end Go.Proofs.Ytlhdoopmlpnhlaa.Q
namespace Go.Proofs.Ytlhdoopmlpnhlaa.Pure
open Go.RowKit Go.Proofs.Ytlhdoopmlpnhlaa.P Go.Proofs.YtlhdoopmlpnhlaaW.PrintWords Go.Proofs.YtlhdoopmlpnhlaaW.PrintLast Go.Proofs.YtlhdoopmlpnhlaaW.PrintMore
open Go.Proofs.Ytlhdoopmlpnhlaa.M Go.Proofs.Ytlhdoopmlpnhlaa.Q
set_option linter.unusedVariables false

theorem says_sat (a : Int) : Ev (fun k => fix_Sat16.f k a) (sat a) :=
  Ev.congr (fun k => by rw [fix_Sat16.f]) (Ev.bind (fix_clamp a _ _) (Ev.now _))
theorem says_refsat (a : Int) : Ev (fun k => madrigalref1_Sat16.f k a) (sat a) :=
  Ev.congr (fun k => by rw [madrigalref1_Sat16.f]) (Ev.bind (ref_clamp a _ _) (Ev.now _))
theorem FixSays : madrigallaw1_FixSays.Pure := by
  intro a b c s l ha hb hc hs hl _ _
  simp only [Lit.wf, IntKind.min, IntKind.max, IntKind.signed, IntKind.bits, Bool.and_eq_true, decide_eq_true_eq, if_true] at ha hb hc hs
  refine Ev.rounds (g := fun k => madrigallaw1_FixSays.f k a b c s l) ?_
  refine Ev.congr (fun k => by rw [madrigallaw1_FixSays.f]) (Ev.bind awake1 (evPos rfl ?_))
  refine evIte (fun _ => Ev.now _) (fun h => ?_)
  refine Ev.bind (fix_clamp a b c) (Ev.bind (ref_clamp a b c) (evPos rfl ?_))
  refine Ev.bind (says_sat a) (Ev.bind (says_refsat a) (evPos rfl ?_))
  refine Ev.bind (fix_mul a b s (by omega) (by omega)) (Ev.bind (ref_mul a b s (by omega) (by omega)) (evPos rfl ?_))
  refine Ev.bind (fix_divI a b s) (Ev.bind (ref_div a b s (by omega) (by omega)) (evPos rfl ?_))
  refine Ev.bind (Ev.now _) (evPos (by simp; omega) ?_)
  rw [List.nil_append]
  refine Ev.bind (fix_sum l (by omega)) (Ev.bind (ref_sum l (by omega)) (evPos rfl ?_))
  refine Ev.bind (fix_log2 a (by omega)) (Ev.bind (ref_log2 a (by omega)) (evPos rfl ?_))
  refine Ev.bind (fix_exp2 a) (Ev.bind (ref_exp2 a) (evPos rfl ?_))
  refine Ev.bind (fix_exp2 _) (Ev.bind (ref_exp2 _) (evPos rfl ?_))
  refine Ev.bind (fix_sqrt a (by omega)) (Ev.bind (ref_sqrt a (by omega)) (evPos rfl ?_))
  refine Ev.bind (fix_cos a) (Ev.bind (ref_cos a) (evPos rfl ?_))
  refine Ev.bind (fix_sin a) (Ev.bind (ref_sin a) (evPos rfl ?_))
  exact Ev.bind (fix_len a (by omega)) (Ev.bind (ref_len a (by omega)) (evConst (by simp)))
end Go.Proofs.Ytlhdoopmlpnhlaa.Pure
