/- Blocks are joined as the document says; those that may not be change nothing: for all blocks and overlaps that the statement speaks of, without conditions. -/
import Derived.Test.YtlmacbiahofmcaaPx37
import Derived.Test.YtlmacbiahofmcaaPx20
import Derived.KernelRfl
import Derived.Test.YtlmacbiahofmcaaV0
import Derived.Test.YtlmacbiahofmcaaPx15
import Derived.Test.YtlmacbiahofmcaaPx2
import Derived.Test.YtlmacbiahofmcaaPx3
import Derived.Laws.BitsLemmas
import Derived.Test.YtlmacbiahofmcaaPx6
import Derived.Test.YtlmacbiahofmcaaPx7
import Derived.Test.YtlmacbiahofmcaaPx8
import Derived.Test.YtlmacbiahofmcaaPx10
import Derived.Test.YtlmacbiahofmcaaPx12
import Derived.Test.YtlmacbiahofmcaaPx23
import Derived.Test.YtlmacbiahofmcaaPx24
import Derived.Test.YtlmacbiahofmcaaPx27
import Derived.Test.YtlmacbiahofmcaaPx28
import Derived.Test.YtlmacbiahofmcaaPx32
import Derived.Test.YtlmacbiahofmcaaPx22
import Derived.Test.YtlmacbiahofmcaaPx29
import Derived.Test.YtlmacbiahofmcaaPx30
import Derived.Test.YtlmacbiahofmcaaPx31
import Derived.Test.YtlmacbiahofmcaaPx33
import Derived.Test.YtlmacbiahofmcaaPx14
import Derived.Test.YtlmacbiahofmcaaPx13
import Derived.Test.YtlmacbiahofmcaaPx16
import Derived.Test.YtlmacbiahofmcaaPx18
import Derived.Test.YtlmacbiahofmcaaPx19
namespace Go.Proofs.Ytlmacbiahofmcaa.Pure
open Go.RowKit Go.Proofs.Ytlmacbiahofmcaa.P Go.Proofs.YtlmacbiahofmcaaW.PrintWords Go.Proofs.YtlmacbiahofmcaaW.PrintLast Go.Proofs.YtlmacbiahofmcaaW.PrintMore
theorem awake15 : madrigallaw15_awake.f 400 = some true := by kernel_rfl
theorem awakeEv15 : Ev (fun k => madrigallaw15_awake.f k) true := Ev.of madrigallaw15_awake.mono awake15
end Go.Proofs.Ytlmacbiahofmcaa.Pure
namespace Go.Proofs.Ytlmacbiahofmcaa.Q
open Go.RowKit Go.Proofs.YtlmacbiahofmcaaW.PrintWords Go.Proofs.YtlmacbiahofmcaaW.PrintLast Go.Proofs.YtlmacbiahofmcaaW.PrintMore
set_option linter.unusedVariables false
theorem evPos {α : Type} {c : Prop} [Decidable c] {A B : Nat → Option α} {r : α} (h : c) (hA : Ev A r) : Ev (fun k => if c then A k else B k) r := by
  obtain ⟨K, hA⟩ := hA
  exact ⟨K, fun k hk => by simp only [if_pos h]; exact hA k hk⟩
theorem evNeg {α : Type} {c : Prop} [Decidable c] {A B : Nat → Option α} {r : α} (h : ¬ c) (hB : Ev B r) : Ev (fun k => if c then A k else B k) r := by
  obtain ⟨K, hB⟩ := hB
  exact ⟨K, fun k hk => by simp only [if_neg h]; exact hB k hk⟩
theorem evIte {α : Type} {c : Prop} [Decidable c] {A B : Nat → Option α} {r : α} (hA : c → Ev A r) (hB : ¬ c → Ev B r) : Ev (fun k => if c then A k else B k) r := by
  by_cases h : c
  · exact evPos h (hA h)
  · exact evNeg h (hB h)
theorem evConst {α : Type} {r : α} {o : Option α} (h : o = some r) : Ev (fun _ => o) r := ⟨0, fun _ _ => h⟩
theorem evEq {α : Type} {g : Nat → Option α} {r r' : α} (h : Ev g r) (e : r = r') : Ev g r' := e ▸ h
theorem w64 {x : Int} (h1 : -9223372036854775808 ≤ x) (h2 : x ≤ 9223372036854775807) : wrap64 x = x := by
  unfold wrap64; omega
theorem rd_nat (l : List Int) (n : Nat) : rd l (n : Int) = l.getD n 0 := by
  unfold rd; simp
theorem rd_mid (A : List Int) (c : Int) (B : List Int) (i : Int) (h : i = A.length) : rd (A ++ c :: B) i = c := by
  subst h
  unfold rd
  rw [List.getD_eq_getElem?_getD, Int.toNat_natCast, List.getElem?_append_right (Nat.le_refl _)]
  simp
theorem set_mid (A : List Int) (c : Int) (B : List Int) (v i : Int) (h : i = A.length) : (A ++ c :: B).set i.toNat v = A ++ v :: B := by
  subst h
  rw [Int.toNat_natCast, List.set_append_right _ _ (Nat.le_refl _)]
  simp
theorem rd_at {l : List Int} {i : Nat} (h : i < l.length) : rd l (i : Int) = l[i] := by
  unfold rd
  rw [List.getD_eq_getElem?_getD, Int.toNat_natCast, List.getElem?_eq_getElem h]
  rfl
end Go.Proofs.Ytlmacbiahofmcaa.Q
namespace Go.Proofs.Ytlmacbiahofmcaa.Q
open Go.RowKit Go.Proofs.Ytlmacbiahofmcaa.P Go.Proofs.YtlmacbiahofmcaaW.PrintWords Go.Proofs.YtlmacbiahofmcaaW.PrintLast Go.Proofs.YtlmacbiahofmcaaW.PrintMore
set_option linter.unusedVariables false
theorem same15_l0 (n : Nat) : ∀ (S T A B : List Int) (i : Int), S.length = n → T.length = S.length → B.length = A.length → i = A.length → A.length + S.length ≤ 1000000000 →
    Ev (fun k => madrigallaw15_same.l0 k (A ++ S) (B ++ T) i) (decide (S = T)) := by
  induction n with
  | zero =>
    intro S T A B i hn ht hb hi hl
    have e1 : S = [] := List.eq_nil_of_length_eq_zero hn
    subst e1
    have e2 : T = [] := List.eq_nil_of_length_eq_zero (by simpa using ht)
    subst e2
    refine Ev.step (fun k => by rw [madrigallaw15_same.l0]) ?_
    exact evNeg (by simp; omega) (evConst (by simp))
  | succ n ih =>
    intro S T A B i hn ht hb hi hl
    cases S with
    | nil => simp at hn
    | cons s S =>
      cases T with
      | nil => simp at ht
      | cons t T =>
        simp at hn ht hl
        refine Ev.step (fun k => by rw [madrigallaw15_same.l0]) ?_
        refine evPos (by simp; omega) (evPos (by omega) (evPos (by simp; omega) ?_))
        rw [rd_mid _ _ _ _ hi, rd_mid B t T i (by omega), w64 (x := i + 1) (by omega) (by omega)]
        refine evIte (fun h => ?_) (fun h => evConst (by simp [h]))
        have h2 := ih S T (A ++ [s]) (B ++ [t]) (i + 1) (by omega) (by omega) (by simp; omega) (by simp; omega) (by simp; omega)
        have e : decide (s :: S = t :: T) = decide (S = T) := by apply decide_eq_decide.2; simp [h]
        rw [e]
        simpa using h2
theorem same15 (a b : List Int) (h : a.length ≤ 1000000000) : Ev (fun k => madrigallaw15_same.f k a b) (decide (a = b)) := by
  refine Ev.congr (fun k => by rw [madrigallaw15_same.f]) ?_
  refine evIte (fun h2 => ?_) (fun h2 => evConst ?_)
  · have := same15_l0 a.length a b [] [] 0 rfl (by omega) rfl rfl (by simpa using h)
    simpa using this
  · congr 1; symm; apply decide_eq_false; rintro rfl; exact h2 rfl
end Go.Proofs.Ytlmacbiahofmcaa.Q
namespace Go.Proofs.Ytlmacbiahofmcaa.M
set_option linter.unusedVariables false
def clamp (a lo hi : Int) : Int := if lo > hi ∨ a < lo then lo else if a > hi then hi else a
theorem clamp_bounds {a lo hi : Int} (h : lo ≤ hi) : lo ≤ clamp a lo hi ∧ clamp a lo hi ≤ hi := by
  unfold clamp; repeat' split
  all_goals omega
theorem clamp_id {a lo hi : Int} (h1 : lo ≤ a) (h2 : a ≤ hi) : clamp a lo hi = a := by
  unfold clamp; repeat' split
  all_goals omega
end Go.Proofs.Ytlmacbiahofmcaa.M
namespace Go.Proofs.Ytlmacbiahofmcaa.Q
open Go.RowKit Go.Proofs.Ytlmacbiahofmcaa.P Go.Proofs.YtlmacbiahofmcaaW.PrintWords Go.Proofs.YtlmacbiahofmcaaW.PrintLast Go.Proofs.YtlmacbiahofmcaaW.PrintMore
open Go.Proofs.Ytlmacbiahofmcaa.M
set_option linter.unusedVariables false
theorem fix_clamp (a lo hi : Int) : Ev (fun k => fix_Clamp.f k a lo hi) (clamp a lo hi) := by
  have hj : ∀ b, Ev (fun k => fix_Clamp.j0 k a lo hi b) (if b = true then lo else if a > hi then hi else a) := by
    intro b
    refine Ev.step (fun k => by rw [fix_Clamp.j0]) ?_
    refine evConst ?_
    cases b <;> simp <;> split <;> rfl
  refine Ev.congr (fun k => by rw [fix_Clamp.f]) ?_
  refine evIte (fun h => ?_) (fun h => ?_)
  · exact evEq (hj true) (by unfold clamp; simp [h])
  · exact evEq (hj _) (by unfold clamp; simp [h])
end Go.Proofs.Ytlmacbiahofmcaa.Q
namespace Go.Proofs.Ytlmacbiahofmcaa.M
set_option linter.unusedVariables false
def fac (a : Int) : Int := clamp a (-2147483648) 2147483648
theorem fac_bounds (a : Int) : -2147483648 ≤ fac a ∧ fac a ≤ 2147483648 := clamp_bounds (by omega)
theorem fac_id {a : Int} (h1 : -2147483648 ≤ a) (h2 : a ≤ 2147483648) : fac a = a := clamp_id h1 h2
def mul (a b s : Int) : Int := if s = 0 then fac a * fac b else if s < 0 then 0 else if s > 62 then 0 else (fac a * fac b + 2 ^ (s - 1).toNat) / 2 ^ s.toNat
theorem prod_le {x y : Int} {a b : Nat} (hx : x.natAbs ≤ a) (hy : y.natAbs ≤ b) : -((a * b : Nat) : Int) ≤ x * y ∧ x * y ≤ ((a * b : Nat) : Int) := by
  have h : (x * y).natAbs ≤ a * b := by rw [Int.natAbs_mul]; exact Nat.mul_le_mul hx hy
  omega
theorem fac_prod (a b : Int) : -4611686018427387904 ≤ fac a * fac b ∧ fac a * fac b ≤ 4611686018427387904 := by
  have h1 := fac_bounds a
  have h2 := fac_bounds b
  have h := prod_le (x := fac a) (y := fac b) (a := 2147483648) (b := 2147483648) (by omega) (by omega)
  omega
theorem pow_most {n m : Nat} (h : n ≤ m) : (2 : Int) ^ n ≤ 2 ^ m := by
  have hn : (2 : Nat) ^ n ≤ 2 ^ m := Nat.pow_le_pow_right (by omega) h
  exact_mod_cast hn
theorem pow_61 {n : Nat} (h : n ≤ 61) : (1 : Int) ≤ 2 ^ n ∧ (2 : Int) ^ n ≤ 2305843009213693952 :=
  ⟨by have h1 : (0 : Int) < 2 ^ n := Int.pow_pos (by omega)
      omega, by have := pow_most h; simpa using this⟩
theorem pow_next (n : Nat) : (2 : Int) ^ (n + 1) = 2 * 2 ^ n := by rw [Int.pow_succ]; omega
end Go.Proofs.Ytlmacbiahofmcaa.M
namespace Go.Proofs.Ytlmacbiahofmcaa.Q
open Go.RowKit Go.Proofs.Ytlmacbiahofmcaa.P Go.Proofs.YtlmacbiahofmcaaW.PrintWords Go.Proofs.YtlmacbiahofmcaaW.PrintLast Go.Proofs.YtlmacbiahofmcaaW.PrintMore
open Go.Proofs.Ytlmacbiahofmcaa.M
set_option linter.unusedVariables false
theorem fix_factor (a : Int) : Ev (fun k => fix_factor.f k a) (fac a) := by
  refine Ev.congr (fun k => by rw [fix_factor.f]) ?_
  exact Ev.bind (fix_clamp a _ _) (Ev.now _)
theorem shl1_64 {s : Int} (h0 : 0 ≤ s) (h1 : s ≤ 61) : shl .i64 1 s = 2 ^ s.toNat := by
  have hp := pow_61 (n := s.toNat) (by omega)
  unfold shl
  rw [show IntKind.i64.bits = 64 from rfl, Nat.min_eq_left (by omega), Int.one_mul, i64_w]
  exact w64 (by omega) (by omega)
theorem shr_64 {x s : Int} (h1 : s ≤ 64) : shr .i64 x s = x / 2 ^ s.toNat := by
  unfold shr
  rw [show IntKind.i64.bits = 64 from rfl, Nat.min_eq_left (by omega)]
theorem fix_mul (a b s : Int) (hs0 : -9223372036854775808 ≤ s) (hs1 : s ≤ 9223372036854775807) : Ev (fun k => fix_Mul.f k a b s) (mul a b s) := by
  have hp := fac_prod a b
  refine Ev.congr (fun k => by rw [fix_Mul.f]) (Ev.bind (fix_factor a) (Ev.bind (fix_factor b) ?_))
  unfold mul
  rw [w64 (x := fac a * fac b) (by omega) (by omega)]
  refine evIte (fun h => ?_) (fun h => ?_)
  · rw [if_pos h]; exact Ev.now _
  · rw [if_neg h]
    refine evIte (fun h2 => ?_) (fun h2 => ?_)
    · rw [if_pos h2]; exact Ev.now _
    · rw [if_neg h2]
      refine evIte (fun h3 => ?_) (fun h3 => ?_)
      · rw [if_pos h3]; exact Ev.now _
      · rw [if_neg h3, w64 (x := s - 1) (by omega) (by omega), shl1_64 (by omega) (by omega)]
        have hp2 := pow_61 (n := (s - 1).toNat) (by omega)
        rw [w64 (x := fac a * fac b + _) (by omega) (by omega), shr_64 (by omega)]
        exact evPos (by omega) (evPos (by omega) (Ev.now _))
end Go.Proofs.Ytlmacbiahofmcaa.Q
namespace Go.Proofs.Ytlmacbiahofmcaa.Q
open Go.RowKit
set_option linter.unusedVariables false
theorem bits_low (a : Int) (i : Nat) (hi : i ≤ 62) : Go.bits .and .i64 a (2 ^ i - 1) = a % 2 ^ i := by
  have hp : (0 : Int) < 2 ^ i := Int.pow_pos (by omega)
  have hpn : 0 < 2 ^ i := Nat.two_pow_pos i
  have hc : ((2 : Int) ^ i - 1) = ((2 ^ i - 1 : Nat) : Int) := by rw [Int.natCast_sub hpn]; simp
  have hle : (2 : Nat) ^ i ≤ 2 ^ 62 := Nat.pow_le_pow_right (by omega) hi
  unfold Go.bits
  rw [hc]
  have hb : (BitVec.ofInt 64 ((2 ^ i - 1 : Nat) : Int)).toNat = 2 ^ i - 1 := by
    rw [BitVec.ofInt_natCast, BitVec.toNat_ofNat]
    exact Nat.mod_eq_of_lt (by omega)
  have ha : (BitVec.ofInt 64 a).toNat = (a % 2 ^ 64).toNat := by rw [BitVec.toNat_ofInt]; rfl
  have hand : (BitVec.ofInt 64 a &&& BitVec.ofInt 64 ((2 ^ i - 1 : Nat) : Int)).toNat = (a % 2 ^ i).toNat := by
    rw [BitVec.toNat_and, hb, ha, Nat.and_two_pow_sub_one_eq_mod]
    have hd : (2 : Int) ^ i ∣ 2 ^ 64 := by
      refine ⟨2 ^ (64 - i), ?_⟩
      rw [← Int.pow_add]
      congr 1
      omega
    have h1 : (((a % 2 ^ 64).toNat % 2 ^ i : Nat) : Int) = a % 2 ^ i := by
      rw [Int.natCast_emod, Int.toNat_of_nonneg (Int.emod_nonneg _ (by decide))]
      have : ((2 ^ i : Nat) : Int) = (2 : Int) ^ i := by simp
      rw [this, Int.emod_emod_of_dvd _ hd]
    omega
  show IntKind.i64.wrap ((BitVec.ofInt 64 a &&& BitVec.ofInt 64 ((2 ^ i - 1 : Nat) : Int)).toNat : Int) = a % 2 ^ i
  rw [hand, Int.toNat_of_nonneg (Int.emod_nonneg _ (by omega)), IntKind.wrap_i64]
  have h1 := Int.emod_nonneg a (show (2 : Int) ^ i ≠ 0 by omega)
  have h2 := Int.emod_lt_of_pos a hp
  have h3 : (2 : Int) ^ i ≤ 2 ^ 62 := by exact_mod_cast hle
  have h4 : (2 : Int) ^ 62 = 4611686018427387904 := by decide
  omega
theorem bits_65535 (a : Int) : Go.bits .and .i64 a 65535 = a % 65536 := bits_low a 16 (by omega)
end Go.Proofs.Ytlmacbiahofmcaa.Q
namespace Go.Proofs.Ytlmacbiahofmcaa.M
set_option linter.unusedVariables false
def ser (z s : Int) (l : List Int) : Int := l.foldl (fun s c => c + mul z s 30) s
def qr (x : Int) : Int :=
  if x ≤ 8192 then mul (ser (mul (mul x 1686629713 14) (mul x 1686629713 14) 30) (-296) [26631, -1491308, 44739243, -536870912, 1073741824]) 1 15
  else mul (mul (mul (16384 - x) 1686629713 14) (ser (mul (mul (16384 - x) 1686629713 14) (mul (16384 - x) 1686629713 14) 30) 2959 [-213044, 8947849, -178956971, 1073741824]) 30) 1 15
def fold (a : Int) : Int := if a % 65536 > 32768 then 65536 - a % 65536 else a % 65536
def cosI (a : Int) : Int := if fold a > 16384 then -qr (32768 - fold a) else qr (fold a)
theorem mul30 (a b : Int) : mul a b 30 = (fac a * fac b + 536870912) / 1073741824 := by
  unfold mul; rw [if_neg (by omega), if_neg (by omega), if_neg (by omega)]; rfl
theorem mul30_bounds (a b : Int) : -4294967297 ≤ mul a b 30 ∧ mul a b 30 ≤ 4294967297 := by
  have h := fac_prod a b
  rw [mul30]; omega
theorem mul15_bounds (a b : Int) : -140737488355330 ≤ mul a b 15 ∧ mul a b 15 ≤ 140737488355330 := by
  have h := fac_prod a b
  have e : mul a b 15 = (fac a * fac b + 16384) / 32768 := by
    unfold mul; rw [if_neg (by omega), if_neg (by omega), if_neg (by omega)]; rfl
  rw [e]; omega
theorem qr_small (x : Int) : -140737488355330 ≤ qr x ∧ qr x ≤ 140737488355330 := by
  unfold qr; split
  · exact mul15_bounds _ _
  · exact mul15_bounds _ _
def all (p : Nat → Bool) : Nat → Bool
  | 0 => true
  | n + 1 => cond (p n) (all p n) false
theorem all_at {p : Nat → Bool} : ∀ {n : Nat}, all p n = true → ∀ i, i < n → p i = true
  | 0, _, i, hi => by omega
  | n + 1, h, i, hi => by
    unfold all at h
    cases hp : p n with
    | false => rw [hp] at h; simp at h
    | true =>
      rw [hp] at h
      by_cases e : i = n
      · rw [e]; exact hp
      · exact all_at (by simpa using h) i (by omega)
def okN (c s : Int) : Bool := match c, s with
  | .ofNat c, .ofNat s => Nat.ble c 32768 && Nat.ble s 32768 && Nat.ble (c * c + s * s) 1074003968 && Nat.ble 1073479680 (c * c + s * s)
  | _, _ => false
theorem okN_is {c s : Int} (h : okN c s = true) : 0 ≤ c ∧ c ≤ 32768 ∧ 0 ≤ s ∧ s ≤ 32768 ∧ c * c + s * s ≤ 1074003968 ∧ 1073479680 ≤ c * c + s * s := by
  unfold okN at h
  split at h
  · rename_i a b
    simp only [Bool.and_eq_true] at h
    have h1 := Nat.le_of_ble_eq_true h.1.1.1
    have h2 := Nat.le_of_ble_eq_true h.1.1.2
    have h3 := Nat.le_of_ble_eq_true h.1.2
    have h4 := Nat.le_of_ble_eq_true h.2
    have e : (Int.ofNat a * Int.ofNat a + Int.ofNat b * Int.ofNat b) = ((a * a + b * b : Nat) : Int) := rfl
    rw [e]
    refine ⟨Int.natCast_nonneg _, ?_, Int.natCast_nonneg _, ?_, ?_, ?_⟩
    · show ((a : Nat) : Int) ≤ _; omega
    · show ((b : Nat) : Int) ≤ _; omega
    · omega
    · omega
  · simp at h
end Go.Proofs.Ytlmacbiahofmcaa.M
namespace Go.Proofs.Ytlmacbiahofmcaa.Q
open Go.RowKit Go.Proofs.Ytlmacbiahofmcaa.P Go.Proofs.YtlmacbiahofmcaaW.PrintWords Go.Proofs.YtlmacbiahofmcaaW.PrintLast Go.Proofs.YtlmacbiahofmcaaW.PrintMore
open Go.Proofs.Ytlmacbiahofmcaa.M
set_option linter.unusedVariables false
theorem series_l0 (z : Int) (n : Nat) : ∀ (S A : List Int) (s i m : Int), S.length = n → i = A.length → m = ((A.length + S.length : Nat) : Int) → m ≤ 1000 → (∀ c ∈ S, -2147483648 ≤ c ∧ c ≤ 2147483648) →
    Ev (fun k => fix_series.l0 k z s (A ++ S) m i) (ser z s S) := by
  induction n with
  | zero =>
    intro S A s i m hn hi hm hl hS
    have e1 : S = [] := List.eq_nil_of_length_eq_zero hn
    subst e1
    refine Ev.step (fun k => by rw [fix_series.l0]) ?_
    exact evNeg (by simp at hm; omega) (Ev.now _)
  | succ n ih =>
    intro S A s i m hn hi hm hl hS
    cases S with
    | nil => simp at hn
    | cons c S =>
      simp at hn hm
      have hc := hS c (by simp)
      have hb := mul30_bounds z s
      refine Ev.step (fun k => by rw [fix_series.l0]) ?_
      refine evPos (by omega) (evPos (by omega) (evPos (by simp; omega) ?_))
      refine Ev.bind (fix_mul z s 30 (by omega) (by omega)) ?_
      rw [rd_mid _ _ _ _ hi, w64 (x := i + 1) (by omega) (by omega), w64 (x := c + _) (by omega) (by omega)]
      have h := ih S (A ++ [c]) (c + mul z s 30) (i + 1) m (by omega) (by simp; omega) (by simp; omega) hl (fun y hy => hS y (by simp [hy]))
      simpa [ser] using h
theorem fix_ser (z s : Int) (l : List Int) (hl : l.length ≤ 100) (h : ∀ c ∈ l, -2147483648 ≤ c ∧ c ≤ 2147483648) : Ev (fun k => fix_series.f k z (s :: l)) (ser z s l) := by
  refine Ev.congr (fun k => by rw [fix_series.f]) ?_
  refine evPos (by simp only [List.length_cons]; omega) (evPos (by simp only [List.length_cons]; omega) (Ev.bind (Ev.now _) ?_))
  have h2 := series_l0 z l.length l [] s 0 l.length rfl rfl (by simp) (by omega) h
  exact h2
theorem cos_j1 (x : Int) (hx : 0 ≤ x ∧ x ≤ 16384) (b : Bool) : Ev (fun k => fix_Cos.j1 k x b) (if b = true then -qr x else qr x) := by
  have hq := qr_small x
  refine Ev.step (fun k => by rw [fix_Cos.j1]) ?_
  by_cases h : x ≤ 8192
  · refine evPos h (Ev.bind (fix_mul _ _ _ (by omega) (by omega)) (Ev.bind (fix_mul _ _ _ (by omega) (by omega)) (Ev.bind (fix_ser _ _ _ (by decide) (by decide)) (Ev.bind (fix_mul _ _ _ (by omega) (by omega)) ?_))))
    have e : mul (ser (mul (mul x 1686629713 14) (mul x 1686629713 14) 30) (-296) [26631, -1491308, 44739243, -536870912, 1073741824]) 1 15 = qr x := by unfold qr; rw [if_pos h]
    rw [e, w64 (x := -qr x) (by omega) (by omega)]
    refine evIte (fun hb => ?_) (fun hb => ?_)
    · rw [if_pos hb]; exact Ev.now _
    · rw [if_neg hb]; exact Ev.now _
  · refine evNeg h ?_
    rw [w64 (x := 16384 - x) (by omega) (by omega)]
    refine Ev.bind (fix_mul _ _ _ (by omega) (by omega)) (Ev.bind (fix_mul _ _ _ (by omega) (by omega)) (Ev.bind (fix_ser _ _ _ (by decide) (by decide)) (Ev.bind (fix_mul _ _ _ (by omega) (by omega)) (Ev.bind (fix_mul _ _ _ (by omega) (by omega)) ?_))))
    have e : mul (mul (mul (16384 - x) 1686629713 14) (ser (mul (mul (16384 - x) 1686629713 14) (mul (16384 - x) 1686629713 14) 30) 2959 [-213044, 8947849, -178956971, 1073741824]) 30) 1 15 = qr x := by unfold qr; rw [if_neg h]
    rw [e, w64 (x := -qr x) (by omega) (by omega)]
    refine evIte (fun hb => ?_) (fun hb => ?_)
    · rw [if_pos hb]; exact Ev.now _
    · rw [if_neg hb]; exact Ev.now _
theorem fix_cos (a : Int) : Ev (fun k => fix_Cos.f k a) (cosI a) := by
  have hj : ∀ x, 0 ≤ x → x ≤ 32768 → x = fold a → Ev (fun k => fix_Cos.j0 k x) (cosI a) := by
    intro x h0 h1 hx
    refine Ev.step (fun k => by rw [fix_Cos.j0]) ?_
    unfold cosI
    rw [← hx]
    refine evIte (fun h => ?_) (fun h => ?_)
    · rw [w64 (x := 32768 - x) (by omega) (by omega), if_pos h, decide_eq_true h]
      exact evEq (cos_j1 _ (by omega) true) (if_pos rfl)
    · rw [if_neg h, decide_eq_false h]
      exact evEq (cos_j1 _ (by omega) false) (if_neg (by simp))
  refine Ev.congr (fun k => by rw [fix_Cos.f]) ?_
  rw [bits_65535]
  refine evIte (fun h => ?_) (fun h => ?_)
  · rw [w64 (x := 65536 - a % 65536) (by omega) (by omega)]
    exact hj _ (by omega) (by omega) (by unfold fold; rw [if_pos h])
  · exact hj _ (by omega) (by omega) (by unfold fold; rw [if_neg h])
theorem fix_sin (a : Int) : Ev (fun k => fix_Sin.f k a) (cosI (a % 65536 - 16384)) := by
  refine Ev.congr (fun k => by rw [fix_Sin.f]) ?_
  rw [bits_65535, w64 (x := a % 65536 - 16384) (by omega) (by omega)]
  exact Ev.bind (fix_cos _) (Ev.now _)
end Go.Proofs.Ytlmacbiahofmcaa.Q
namespace Go.Proofs.Ytlmacbiahofmcaa.M
set_option linter.unusedVariables false
def okAt (n : Nat) : Bool := okN (qr (n : Int)) (qr ((16384 - n : Nat) : Int))
theorem circle_0 : all (fun n => okAt (0 + n)) 512 = true := by kernel_rfl
theorem circle_1 : all (fun n => okAt (512 + n)) 512 = true := by kernel_rfl
theorem circle_2 : all (fun n => okAt (1024 + n)) 512 = true := by kernel_rfl
theorem circle_3 : all (fun n => okAt (1536 + n)) 512 = true := by kernel_rfl
theorem circle_4 : all (fun n => okAt (2048 + n)) 512 = true := by kernel_rfl
theorem circle_5 : all (fun n => okAt (2560 + n)) 512 = true := by kernel_rfl
theorem circle_6 : all (fun n => okAt (3072 + n)) 512 = true := by kernel_rfl
theorem circle_7 : all (fun n => okAt (3584 + n)) 512 = true := by kernel_rfl
theorem circle_8 : all (fun n => okAt (4096 + n)) 512 = true := by kernel_rfl
theorem circle_9 : all (fun n => okAt (4608 + n)) 512 = true := by kernel_rfl
theorem circle_10 : all (fun n => okAt (5120 + n)) 512 = true := by kernel_rfl
theorem circle_11 : all (fun n => okAt (5632 + n)) 512 = true := by kernel_rfl
theorem circle_12 : all (fun n => okAt (6144 + n)) 512 = true := by kernel_rfl
theorem circle_13 : all (fun n => okAt (6656 + n)) 512 = true := by kernel_rfl
theorem circle_14 : all (fun n => okAt (7168 + n)) 512 = true := by kernel_rfl
theorem circle_15 : all (fun n => okAt (7680 + n)) 513 = true := by kernel_rfl
theorem circle_all (n : Nat) (h : n < 8193) : okAt n = true := by
  by_cases h0 : n < 512
  · have h' := all_at circle_0 (n - 0) (by omega)
    have e : 0 + (n - 0) = n := by omega
    simp only [e] at h'
    exact h'
  by_cases h1 : n < 1024
  · have h' := all_at circle_1 (n - 512) (by omega)
    have e : 512 + (n - 512) = n := by omega
    simp only [e] at h'
    exact h'
  by_cases h2 : n < 1536
  · have h' := all_at circle_2 (n - 1024) (by omega)
    have e : 1024 + (n - 1024) = n := by omega
    simp only [e] at h'
    exact h'
  by_cases h3 : n < 2048
  · have h' := all_at circle_3 (n - 1536) (by omega)
    have e : 1536 + (n - 1536) = n := by omega
    simp only [e] at h'
    exact h'
  by_cases h4 : n < 2560
  · have h' := all_at circle_4 (n - 2048) (by omega)
    have e : 2048 + (n - 2048) = n := by omega
    simp only [e] at h'
    exact h'
  by_cases h5 : n < 3072
  · have h' := all_at circle_5 (n - 2560) (by omega)
    have e : 2560 + (n - 2560) = n := by omega
    simp only [e] at h'
    exact h'
  by_cases h6 : n < 3584
  · have h' := all_at circle_6 (n - 3072) (by omega)
    have e : 3072 + (n - 3072) = n := by omega
    simp only [e] at h'
    exact h'
  by_cases h7 : n < 4096
  · have h' := all_at circle_7 (n - 3584) (by omega)
    have e : 3584 + (n - 3584) = n := by omega
    simp only [e] at h'
    exact h'
  by_cases h8 : n < 4608
  · have h' := all_at circle_8 (n - 4096) (by omega)
    have e : 4096 + (n - 4096) = n := by omega
    simp only [e] at h'
    exact h'
  by_cases h9 : n < 5120
  · have h' := all_at circle_9 (n - 4608) (by omega)
    have e : 4608 + (n - 4608) = n := by omega
    simp only [e] at h'
    exact h'
  by_cases h10 : n < 5632
  · have h' := all_at circle_10 (n - 5120) (by omega)
    have e : 5120 + (n - 5120) = n := by omega
    simp only [e] at h'
    exact h'
  by_cases h11 : n < 6144
  · have h' := all_at circle_11 (n - 5632) (by omega)
    have e : 5632 + (n - 5632) = n := by omega
    simp only [e] at h'
    exact h'
  by_cases h12 : n < 6656
  · have h' := all_at circle_12 (n - 6144) (by omega)
    have e : 6144 + (n - 6144) = n := by omega
    simp only [e] at h'
    exact h'
  by_cases h13 : n < 7168
  · have h' := all_at circle_13 (n - 6656) (by omega)
    have e : 6656 + (n - 6656) = n := by omega
    simp only [e] at h'
    exact h'
  by_cases h14 : n < 7680
  · have h' := all_at circle_14 (n - 7168) (by omega)
    have e : 7168 + (n - 7168) = n := by omega
    simp only [e] at h'
    exact h'
  have h' := all_at circle_15 (n - 7680) (by omega)
  have e : 7680 + (n - 7680) = n := by omega
  simp only [e] at h'
  exact h'
theorem circle {m : Int} (h0 : 0 ≤ m) (h1 : m ≤ 16384) : 0 ≤ qr m ∧ qr m ≤ 32768 ∧ 0 ≤ qr (16384 - m) ∧ qr (16384 - m) ≤ 32768 ∧ qr m * qr m + qr (16384 - m) * qr (16384 - m) ≤ 1074003968 ∧ 1073479680 ≤ qr m * qr m + qr (16384 - m) * qr (16384 - m) := by
  by_cases h : m ≤ 8192
  · have h2 := okN_is (circle_all m.toNat (by omega))
    have e1 : ((m.toNat : Nat) : Int) = m := Int.toNat_of_nonneg h0
    have e2 : ((16384 - m.toNat : Nat) : Int) = 16384 - m := by omega
    rw [e1, e2] at h2
    exact h2
  · have h2 := okN_is (circle_all (16384 - m).toNat (by omega))
    have e1 : (((16384 - m).toNat : Nat) : Int) = 16384 - m := Int.toNat_of_nonneg (by omega)
    have e2 : ((16384 - (16384 - m).toNat : Nat) : Int) = m := by omega
    rw [e1, e2] at h2
    omega
theorem qr_end : qr 16384 = 0 := by kernel_rfl
theorem cos_pos {a m : Int} (h0 : 0 ≤ m) (h1 : m ≤ 16384) (h : (a - m) % 65536 = 0 ∨ (a + m) % 65536 = 0) : cosI a = qr m := by
  have hf : fold a = m := by
    unfold fold; split <;> omega
  unfold cosI
  rw [hf, if_neg (by omega)]
theorem cos_neg {a m : Int} (h0 : 0 ≤ m) (h1 : m ≤ 16384) (h : (a - 32768 - m) % 65536 = 0 ∨ (a - 32768 + m) % 65536 = 0) : cosI a = -qr m := by
  have hf : fold a = 32768 - m := by
    unfold fold; split <;> omega
  unfold cosI
  rw [hf]
  by_cases e : m = 16384
  · subst e; rw [if_neg (by omega)]; show qr 16384 = -qr 16384; rw [qr_end]; rfl
  · rw [if_pos (by omega)]
    have e2 : 32768 - (32768 - m) = m := by omega
    rw [e2]
theorem quads (a : Int) : ∃ m : Int, 0 ≤ m ∧ m ≤ 16384 ∧ ((a - m) % 65536 = 0 ∨ (a + m) % 65536 = 0 ∨ (a - 32768 - m) % 65536 = 0 ∨ (a - 32768 + m) % 65536 = 0) := by
  by_cases h1 : a % 65536 ≤ 16384
  · exact ⟨a % 65536, by omega, by omega, by omega⟩
  · by_cases h2 : a % 65536 ≤ 32768
    · exact ⟨32768 - a % 65536, by omega, by omega, by omega⟩
    · by_cases h3 : a % 65536 ≤ 49152
      · exact ⟨a % 65536 - 32768, by omega, by omega, by omega⟩
      · exact ⟨65536 - a % 65536, by omega, by omega, by omega⟩
end Go.Proofs.Ytlmacbiahofmcaa.M
namespace Go.Proofs.Ytlmacbiahofmcaa.M
set_option linter.unusedVariables false
def half (s : Int) : Int := (mul s s 15 + 1) / 2
def gw (x : Int) : Int := qr (16384 - half (qr (16384 - x)))
end Go.Proofs.Ytlmacbiahofmcaa.M
namespace Go.Proofs.Ytlmacbiahofmcaa.Q
open Go.RowKit Go.Proofs.Ytlmacbiahofmcaa.P Go.Proofs.YtlmacbiahofmcaaW.PrintWords Go.Proofs.YtlmacbiahofmcaaW.PrintLast Go.Proofs.YtlmacbiahofmcaaW.PrintMore
open Go.Proofs.Ytlmacbiahofmcaa.M
set_option linter.unusedVariables false
theorem qr_in {m : Int} (h0 : 0 ≤ m) (h1 : m ≤ 16384) : 0 ≤ qr m ∧ qr m ≤ 32768 := by
  have := circle h0 h1
  omega
theorem half_in {s : Int} (h : 0 ≤ s ∧ s ≤ 32768) : 0 ≤ half s ∧ half s ≤ 16384 ∧ 0 ≤ mul s s 15 ∧ mul s s 15 ≤ 32768 := by
  have e : mul s s 15 = (s * s + 16384) / 32768 := by
    unfold mul; rw [if_neg (by omega), if_neg (by omega), if_neg (by omega), fac_id (by omega) (by omega)]; rfl
  have h1 := prod_le (x := s) (y := s) (a := 32768) (b := 32768) (by omega) (by omega)
  have h2 : 0 ≤ s * s := Int.mul_nonneg h.1 h.1
  unfold half
  rw [e]
  refine ⟨?_, ?_, ?_, ?_⟩ <;> omega
theorem sin_small {a : Int} (h0 : 0 ≤ a) (h1 : a ≤ 16384) : Ev (fun k => fix_Sin.f k a) (qr (16384 - a)) := by
  have e : a % 65536 = a := by omega
  have h := fix_sin a
  rw [e, cos_pos (m := 16384 - a) (by omega) (by omega) (by omega)] at h
  exact h
def wat (l i : Int) : Int := ((2 * i + 1) * 16384 / l + 1) / 2
theorem wat_q {l i : Int} (hl : 1 ≤ l) (hi : 0 ≤ i ∧ i < l) : 0 ≤ (2 * i + 1) * 16384 / l ∧ (2 * i + 1) * 16384 / l ≤ 32767 := by
  constructor
  · exact Int.ediv_nonneg (by omega) (by omega)
  · have h : (2 * i + 1) * 16384 / l < 32768 := by
      rw [Int.ediv_lt_iff_lt_mul (by omega)]; omega
    omega
theorem wat_in {l i : Int} (hl : 1 ≤ l) (hi : 0 ≤ i ∧ i < l) : 0 ≤ wat l i ∧ wat l i ≤ 16384 := by
  have h := wat_q hl hi
  unfold wat; omega
theorem gw_in {x : Int} (h0 : 0 ≤ x) (h1 : x ≤ 16384) : 0 ≤ gw x ∧ gw x ≤ 32768 := by
  have h2 := qr_in (m := 16384 - x) (by omega) (by omega)
  have h3 := half_in h2
  exact qr_in (by omega) (by omega)
def win (l : Nat) : List Int := (List.range l).map fun i : Nat => gw (wat l (i : Int))
theorem win_l0 (l : Nat) (hl : 1 ≤ l ∧ l ≤ 480) (n : Nat) : ∀ (i : Nat), i + n = l → Ev (fun k => tabs_Window.l0 k (l : Int) ((List.range i).map (fun i : Nat => gw (wat l (i : Int))) ++ List.replicate n 0) (l : Int) (i : Int)) (win l) := by
  induction n with
  | zero =>
    intro i hi
    have e : i = l := by omega
    subst e
    refine Ev.step (fun k => by rw [tabs_Window.l0]) ?_
    refine evNeg (by omega) ?_
    simpa [win] using Ev.now (win i)
  | succ n ih =>
    intro i hi
    refine Ev.step (fun k => by rw [tabs_Window.l0]) ?_
    refine evPos (by omega) (evNeg (by omega) ?_)
    have hq := wat_q (l := (l : Int)) (i := (i : Int)) (by omega) (by omega)
    have hw := wat_in (l := (l : Int)) (i := (i : Int)) (by omega) (by omega)
    rw [w64 (x := 2 * (i : Int)) (by omega) (by omega), w64 (x := 2 * (i : Int) + 1) (by omega) (by omega), w64 (x := (2 * (i : Int) + 1) * 16384) (by omega) (by omega), Int.tdiv_eq_ediv_of_nonneg (show 0 ≤ (2 * (i : Int) + 1) * 16384 by omega), w64 (x := (2 * (i : Int) + 1) * 16384 / l) (by omega) (by omega), w64 (x := (2 * (i : Int) + 1) * 16384 / l + 1) (by omega) (by omega), Int.tdiv_eq_ediv_of_nonneg (show 0 ≤ (2 * (i : Int) + 1) * 16384 / l + 1 by omega)]
    have ew : ((2 * (i : Int) + 1) * 16384 / l + 1) / 2 = wat l i := rfl
    rw [ew, w64 (x := wat l i) (by omega) (by omega)]
    refine Ev.bind (sin_small hw.1 hw.2) (Ev.bind (fix_mul _ _ 15 (by omega) (by omega)) ?_)
    have h2 := qr_in (m := 16384 - wat l i) (by omega) (by omega)
    have h3 := half_in h2
    have hm : 0 ≤ mul (qr (16384 - wat l i)) (qr (16384 - wat l i)) 15 ∧ mul (qr (16384 - wat l i)) (qr (16384 - wat l i)) 15 ≤ 40000 := by omega
    rw [w64 (x := mul _ _ 15 + 1) (by omega) (by omega), Int.tdiv_eq_ediv_of_nonneg (by omega)]
    have eh : (mul (qr (16384 - wat l i)) (qr (16384 - wat l i)) 15 + 1) / 2 = half (qr (16384 - wat l i)) := rfl
    rw [eh, w64 (x := half _) (by omega) (by omega)]
    refine Ev.bind (sin_small h3.1 h3.2.1) (evPos (by omega) (evPos (by simp; omega) ?_))
    rw [w64 (x := (i : Int) + 1) (by omega) (by omega), List.replicate_succ, set_mid ((List.range i).map (fun i : Nat => gw (wat l (i : Int)))) 0 (List.replicate n 0) _ i (by simp)]
    have h := ih (i + 1) (by omega)
    rw [List.range_succ, List.map_append] at h
    simpa [gw] using h
theorem tabs_window (l : Int) (h : 1 ≤ l ∧ l ≤ 480) : Ev (fun k => tabs_Window.f k l) (win l.toNat) := by
  obtain ⟨n, rfl⟩ : ∃ n : Nat, l = n := ⟨l.toNat, by omega⟩
  rw [Int.toNat_natCast]
  refine Ev.congr (fun k => by rw [tabs_Window.f]) (evNeg (by omega) ?_)
  rw [decide_eq_false (by omega)]
  refine Ev.step (fun k => by rw [tabs_Window.j0]) ?_
  refine evNeg (by simp) (evPos (by omega) (evPos (by omega) (Ev.bind (Ev.now _) ?_)))
  rw [Int.toNat_natCast]
  have h2 := win_l0 n (by omega) n 0 (by omega)
  simpa using h2
theorem win_length (l : Nat) : (win l).length = l := by simp [win]
theorem rd_win (l : Nat) (i : Int) (h0 : 0 ≤ i) (h1 : i < l) : rd (win l) i = gw (wat l i) := by
  obtain ⟨n, rfl⟩ : ∃ n : Nat, i = n := ⟨i.toNat, by omega⟩
  rw [rd_at (l := win l) (i := n) (by rw [win_length]; omega)]
  simp [win]
end Go.Proofs.Ytlmacbiahofmcaa.Q
namespace Go.Proofs.Ytlmacbiahofmcaa.Q
open Go.RowKit Go.Proofs.Ytlmacbiahofmcaa.P Go.Proofs.YtlmacbiahofmcaaW.PrintWords Go.Proofs.YtlmacbiahofmcaaW.PrintLast Go.Proofs.YtlmacbiahofmcaaW.PrintMore
open Go.Proofs.Ytlmacbiahofmcaa.M
set_option linter.unusedVariables false
abbrev Good15 (n l : Int) : Prop := 4 ≤ n ∧ n ≤ 480 ∧ 2 ≤ l ∧ l ≤ n ∧ (n - l) % 2 = 0
theorem good15 (n l : Int) : mdct_Good.f n l = some (decide (Good15 n l)) := by
  by_cases h : Good15 n l
  · rw [decide_eq_true h]
    obtain ⟨h1, h2, h3, h4, h5⟩ := h
    unfold mdct_Good.f
    rw [if_pos (show n ≥ 4 by omega), if_pos h2, if_pos (show l ≥ 2 by omega), if_pos h4, w64 (by omega) (by omega), Int.tmod_eq_emod_of_nonneg (by omega), h5]
    rfl
  · rw [decide_eq_false h]
    unfold mdct_Good.f
    by_cases h1 : n ≥ 4
    · rw [if_pos h1]
      by_cases h2 : n ≤ 480
      · rw [if_pos h2]
        by_cases h3 : l ≥ 2
        · rw [if_pos h3]
          by_cases h4 : l ≤ n
          · rw [if_pos h4, w64 (by omega) (by omega), Int.tmod_eq_emod_of_nonneg (by omega)]
            have h5 : ¬ (n - l) % 2 = 0 := fun h5 => h ⟨h1, h2, h3, h4, h5⟩
            rw [beq_eq_false_iff_ne.mpr h5]
          · rw [if_neg h4]
        · rw [if_neg h3]
      · rw [if_neg h2]
    · rw [if_neg h1]
theorem set_map_range (N k : Nat) (f : Nat → Int) (v : Int) : ((List.range N).map f).set k v = (List.range N).map fun j => if j = k then v else f j := by
  apply List.ext_getElem (by simp)
  intro i h1 h2
  simp only [List.length_set, List.length_map, List.length_range] at h1
  rw [List.getElem_set]
  by_cases h : k = i
  · subst h
    simp
  · have h' : ¬ i = k := fun e => h e.symm
    simp [h, h']
theorem map_range_congr {N : Nat} {f g : Nat → Int} (h : ∀ j, j < N → f j = g j) : (List.range N).map f = (List.range N).map g := List.map_congr_left fun j hj => h j (List.mem_range.mp hj)
theorem getD_map_range (N i : Nat) (f : Nat → Int) : ((List.range N).map f).getD i 0 = if i < N then f i else 0 := by
  rw [List.getD_eq_getElem?_getD, List.getElem?_map]
  by_cases h : i < N
  · rw [List.getElem?_range h, if_pos h]
    rfl
  · rw [List.getElem?_eq_none (by simpa using h), if_neg h]
    rfl
def wv (l i : Nat) : Int := gw (wat (l : Int) (i : Int))
theorem wv_in {l i : Nat} (hl : 1 ≤ l) (hi : i < l) : 0 ≤ wv l i ∧ wv l i ≤ 32768 := by
  have h := wat_in (l := (l : Int)) (i := (i : Int)) (by omega) (by omega)
  exact gw_in h.1 h.2
theorem rd_wv (l : Nat) (i : Nat) (hi : i < l) : rd (win l) (i : Int) = wv l i := rd_win l i (by omega) (by omega)
def shI (n l z i j : Nat) : Int := if z ≤ j ∧ j < z + i then wv l (j - z) else if 2 * n ≤ j + z + i ∧ j + z < 2 * n then wv l (2 * n - 1 - z - j) else 0
def shJ (n l z i j : Nat) : Int := if z + l ≤ j ∧ j < z + l + i then 32768 else shI n l z l j
def shAt (n l j : Nat) : Int := shJ n l ((n - l) / 2) (2 * n - 2 * ((n - l) / 2) - 2 * l) j
def shape15 (n l : Nat) : List Int := (List.range (2 * n)).map (shAt n l)
theorem shape15_len (n l : Nat) : (shape15 n l).length = 2 * n := by simp [shape15]
theorem shape15_getD (n l i : Nat) : (shape15 n l).getD i 0 = if i < 2 * n then shAt n l i else 0 := getD_map_range _ _ _
theorem shI_step (n l z i j : Nat) (hz : 2 * z + l ≤ n) (hi : i < l) : (if j = 2 * n - 1 - z - i then wv l i else if j = z + i then wv l i else shI n l z i j) = shI n l z (i + 1) j := by
  unfold shI
  by_cases h1 : j = 2 * n - 1 - z - i
  · rw [if_pos h1, if_neg (by omega), if_pos (by omega)]
    congr 1
    omega
  · rw [if_neg h1]
    by_cases h2 : j = z + i
    · rw [if_pos h2, if_pos (by omega)]
      congr 1
      omega
    · rw [if_neg h2]
      by_cases h3 : z ≤ j ∧ j < z + i
      · rw [if_pos h3, if_pos (by omega)]
      · rw [if_neg h3]
        by_cases h4 : 2 * n ≤ j + z + i ∧ j + z < 2 * n
        · rw [if_pos h4, if_neg (by omega), if_pos (by omega)]
        · rw [if_neg h4, if_neg (by omega), if_neg (by omega)]
theorem shJ_step (n l z i j : Nat) : (if j = z + l + i then 32768 else shJ n l z i j) = shJ n l z (i + 1) j := by
  unfold shJ
  by_cases h1 : j = z + l + i
  · rw [if_pos h1, if_pos (by omega)]
  · rw [if_neg h1]
    by_cases h2 : z + l ≤ j ∧ j < z + l + i
    · rw [if_pos h2, if_pos (by omega)]
    · rw [if_neg h2, if_neg (by omega)]
theorem shJ_zero (n l z j : Nat) : shJ n l z 0 j = shI n l z l j := by
  unfold shJ
  rw [if_neg (by omega)]
theorem shI_zero (n l z j : Nat) : shI n l z 0 j = 0 := by
  unfold shI
  rw [if_neg (by omega), if_neg (by omega)]
theorem shape_l1 (n l z : Nat) (hn : n ≤ 480) (hz : 2 * z + l ≤ n) : ∀ (r i : Nat), i + r = 2 * n - 2 * z - 2 * l →
    Ev (fun k => mdct_Shape.l1 k (n : Int) (l : Int) ((List.range (2 * n)).map (shJ n l z i)) (z : Int) (((z + l + i : Nat) : Int))) ((List.range (2 * n)).map (shJ n l z (2 * n - 2 * z - 2 * l)), 0) := by
  intro r
  induction r with
  | zero =>
    intro i hi
    obtain rfl : i = 2 * n - 2 * z - 2 * l := by omega
    refine Ev.step (fun k => by rw [mdct_Shape.l1]) ?_
    rw [w64 (x := 2 * (n : Int)) (by omega) (by omega), w64 (x := 2 * (n : Int) - z) (by omega) (by omega), w64 (x := 2 * (n : Int) - z - l) (by omega) (by omega)]
    exact evNeg (by omega) (evConst rfl)
  | succ r ih =>
    intro i hi
    refine Ev.step (fun k => by rw [mdct_Shape.l1]) ?_
    rw [w64 (x := 2 * (n : Int)) (by omega) (by omega), w64 (x := 2 * (n : Int) - z) (by omega) (by omega), w64 (x := 2 * (n : Int) - z - l) (by omega) (by omega), w64 (x := ((z + l + i : Nat) : Int) + 1) (by omega) (by omega)]
    refine evPos (by omega) (evPos (by omega) (evPos (by simp; omega) ?_))
    rw [Int.toNat_natCast, set_map_range, map_range_congr (g := shJ n l z (i + 1)) (fun j _ => shJ_step n l z i j)]
    have := ih (i + 1) (by omega)
    have e : (((z + l + i : Nat) : Int) + 1) = ((z + l + (i + 1) : Nat) : Int) := by omega
    rw [e]
    exact this
theorem shape_l0 (n l z : Nat) (hn : n ≤ 480) (hz : 2 * z + l ≤ n) : ∀ (r i : Nat), i + r = l →
    Ev (fun k => mdct_Shape.l0 k (n : Int) (l : Int) ((List.range (2 * n)).map (shI n l z i)) (win l) (z : Int) (l : Int) (i : Int)) ((List.range (2 * n)).map (shJ n l z (2 * n - 2 * z - 2 * l)), 0) := by
  intro r
  induction r with
  | zero =>
    intro i hi
    obtain rfl : i = l := by omega
    refine Ev.step (fun k => by rw [mdct_Shape.l0]) (evNeg (by omega) ?_)
    rw [w64 (x := (z : Int) + i) (by omega) (by omega)]
    have := shape_l1 n i z hn hz (2 * n - 2 * z - 2 * i) 0 (by omega)
    rw [map_range_congr (g := shI n i z i) (fun j _ => shJ_zero n i z j)] at this
    have e : ((z : Int) + (i : Int)) = ((z + i + 0 : Nat) : Int) := by omega
    rw [e]
    exact this
  | succ r ih =>
    intro i hi
    refine Ev.step (fun k => by rw [mdct_Shape.l0]) ?_
    rw [win_length, w64 (x := (z : Int) + i) (by omega) (by omega), w64 (x := 2 * (n : Int)) (by omega) (by omega), w64 (x := 2 * (n : Int) - 1) (by omega) (by omega), w64 (x := 2 * (n : Int) - 1 - z) (by omega) (by omega), w64 (x := 2 * (n : Int) - 1 - z - i) (by omega) (by omega), w64 (x := (i : Int) + 1) (by omega) (by omega)]
    refine evPos (by omega) (evPos (by omega) (evPos (by omega) (evPos (by omega) (evPos (by simp; omega) (evPos (by omega) (evPos (by simp; omega) ?_))))))
    have e1 : ((z : Int) + (i : Int)).toNat = z + i := by omega
    have e2 : (2 * (n : Int) - 1 - (z : Int) - (i : Int)).toNat = 2 * n - 1 - z - i := by omega
    rw [e1, e2, rd_wv l i (by omega), set_map_range, set_map_range, map_range_congr (g := shI n l z (i + 1)) (fun j _ => shI_step n l z i j hz (by omega))]
    have := ih (i + 1) (by omega)
    simpa using this
theorem shape_ev (n l : Nat) (h : Good15 n l) : Ev (fun k => mdct_Shape.f k (n : Int) (l : Int)) (shape15 n l, 0) := by
  obtain ⟨h1, h2, h3, h4, h5⟩ := h
  refine Ev.congr (fun k => by rw [mdct_Shape.f]) (Ev.bind (evConst (good15 n l)) ?_)
  refine evPos (decide_eq_true ⟨h1, h2, h3, h4, h5⟩) ?_
  rw [w64 (x := 2 * (n : Int)) (by omega) (by omega), w64 (x := (n : Int) - l) (by omega) (by omega), Int.tdiv_eq_ediv_of_nonneg (by omega), w64 (x := ((n : Int) - l) / 2) (by omega) (by omega)]
  refine evPos (by omega) (evPos (by omega) (Ev.bind (tabs_window l (by omega)) ?_))
  have e1 : (2 * (n : Int)).toNat = 2 * n := by omega
  have e2 : ((n : Int) - (l : Int)) / 2 = (((n - l) / 2 : Nat) : Int) := by omega
  have e3 : List.replicate (2 * n) (0 : Int) = (List.range (2 * n)).map (shI n l ((n - l) / 2) 0) := by
    rw [map_range_congr (g := fun _ => 0) (fun j _ => shI_zero n l _ j)]
    exact (List.eq_replicate_iff.mpr ⟨by simp, fun b hb => by obtain ⟨_, _, e⟩ := List.mem_map.mp hb; exact e.symm⟩).symm
  rw [e1, e2, e3, Int.toNat_natCast, win_length]
  exact shape_l0 n l ((n - l) / 2) (by omega) (by omega) l 0 (by omega)
theorem shAt_in {n l j : Nat} (h : Good15 n l) (hj : j < 2 * n) : 0 ≤ shAt n l j ∧ shAt n l j ≤ 32768 := by
  obtain ⟨h1, h2, h3, h4, h5⟩ := h
  unfold shAt shJ shI
  split
  · omega
  · split
    · exact wv_in (by omega) (by omega)
    · split
      · exact wv_in (by omega) (by omega)
      · omega
end Go.Proofs.Ytlmacbiahofmcaa.Q
namespace Go.Proofs.Ytlmacbiahofmcaa.Q
open Go.RowKit Go.Proofs.Ytlmacbiahofmcaa.P Go.Proofs.YtlmacbiahofmcaaW.PrintWords Go.Proofs.YtlmacbiahofmcaaW.PrintLast Go.Proofs.YtlmacbiahofmcaaW.PrintMore
open Go.Proofs.Ytlmacbiahofmcaa.M
set_option linter.unusedVariables false
def tabAt (n p : Nat) : Int := cosI ((((p * 16384 / n : Nat) : Int) + 1) / 2)
def tab15 (n : Nat) : List Int := (List.range (8 * n)).map (tabAt n)
theorem tab15_len (n : Nat) : (tab15 n).length = 8 * n := by simp [tab15]
theorem cosI_in (a : Int) : -32768 ≤ cosI a ∧ cosI a ≤ 32768 := by
  obtain ⟨m, h0, h1, h⟩ := quads a
  have hq := circle h0 h1
  rcases h with h | h | h | h
  · rw [cos_pos h0 h1 (Or.inl h)]; omega
  · rw [cos_pos h0 h1 (Or.inr h)]; omega
  · rw [cos_neg h0 h1 (Or.inl h)]; omega
  · rw [cos_neg h0 h1 (Or.inr h)]; omega
theorem tab15_in (n i : Nat) : -32768 ≤ (tab15 n).getD i 0 ∧ (tab15 n).getD i 0 ≤ 32768 := by
  unfold tab15
  rw [getD_map_range]
  split
  · exact cosI_in _
  · omega
theorem waves_l0 (n : Nat) (h1 : 4 ≤ n) (h2 : n ≤ 480) : ∀ (r i : Nat), i + r = 8 * n →
    Ev (fun k => mdct_waves.l0 k (n : Int) ((List.range i).map (tabAt n) ++ List.replicate r 0) ((8 * n : Nat) : Int) (i : Int)) (tab15 n) := by
  intro r
  induction r with
  | zero =>
    intro i hi
    obtain rfl : i = 8 * n := by omega
    refine Ev.step (fun k => by rw [mdct_waves.l0]) (evNeg (by omega) (evConst ?_))
    simp [tab15]
  | succ r ih =>
    intro i hi
    refine Ev.step (fun k => by rw [mdct_waves.l0]) (evPos (by omega) (evNeg (by omega) ?_))
    have e3 : Int.tdiv ((i : Int) * 65536) 4 = (i : Int) * 16384 := by rw [Int.tdiv_eq_ediv_of_nonneg (by omega)]; omega
    have e1 : Int.tdiv ((i : Int) * 16384) (n : Int) = ((i * 16384 / n : Nat) : Int) := by
      rw [Int.tdiv_eq_ediv_of_nonneg (by omega)]
      simp
    have e2 : i * 16384 / n ≤ i * 16384 := Nat.div_le_self _ _
    rw [w64 (x := (i : Int) * 65536) (by omega) (by omega), e3, w64 (x := (i : Int) * 16384) (by omega) (by omega), e1]
    generalize hq : i * 16384 / n = q at *
    rw [w64 (x := (q : Int)) (by omega) (by omega), w64 (x := (q : Int) + 1) (by omega) (by omega), Int.tdiv_eq_ediv_of_nonneg (by omega), w64 (x := ((q : Int) + 1) / 2) (by omega) (by omega), w64 (x := (i : Int) + 1) (by omega) (by omega)]
    refine Ev.bind (fix_cos _) (evPos (by omega) (evPos (by simp; omega) ?_))
    have e4 : cosI (((q : Int) + 1) / 2) = tabAt n i := by unfold tabAt; rw [hq]
    rw [e4, List.replicate_succ, set_mid ((List.range i).map (tabAt n)) 0 (List.replicate r 0) _ i (by simp)]
    have h := ih (i + 1) (by omega)
    rw [List.range_succ, List.map_append] at h
    simpa using h
theorem waves_ev (n : Nat) (h1 : 4 ≤ n) (h2 : n ≤ 480) : Ev (fun k => mdct_waves.f k (n : Int)) (tab15 n) := by
  refine Ev.congr (fun k => by rw [mdct_waves.f]) ?_
  rw [w64 (x := 8 * (n : Int)) (by omega) (by omega)]
  have e : (8 * (n : Int)).toNat = 8 * n := by omega
  rw [e]
  refine evPos (by omega) (evPos (by omega) ?_)
  refine Ev.congr (fun k => by rw [Option.bind_some]) ?_
  have := waves_l0 n h1 h2 (8 * n) 0 (by omega)
  simpa using this
def dot (v t : List Int) (M p st : Nat) (s : Int) : Nat → Int
  | 0 => s
  | i + 1 => dot v t M p st s i + v.getD i 0 * t.getD ((p + i * st) % M) 0
theorem mul_in {u v A B : Int} (hA : 0 ≤ A) (hu : -A ≤ u ∧ u ≤ A) (hv : -B ≤ v ∧ v ≤ B) (hB : 0 ≤ B) : -(A * B) ≤ u * v ∧ u * v ≤ A * B := by
  have h1 : u * v ≤ A * B ∧ -(A * B) ≤ u * v := by
    rcases Int.le_total 0 u with h | h
    · have a1 : u * v ≤ u * B := Int.mul_le_mul_of_nonneg_left hv.2 h
      have a2 : u * B ≤ A * B := Int.mul_le_mul_of_nonneg_right hu.2 hB
      have a3 : u * (-B) ≤ u * v := Int.mul_le_mul_of_nonneg_left hv.1 h
      rw [Int.mul_neg] at a3
      omega
    · have a1 : u * v ≤ u * (-B) := Int.mul_le_mul_of_nonpos_left h hv.1
      have a2 : (-A) * B ≤ u * B := Int.mul_le_mul_of_nonneg_right hu.1 hB
      have a3 : u * B ≤ u * v := Int.mul_le_mul_of_nonpos_left h hv.2
      rw [Int.mul_neg] at a1
      rw [Int.neg_mul] at a2
      omega
  exact ⟨h1.2, h1.1⟩
theorem dot_in {v t : List Int} {M p st : Nat} {s A : Int} (hA : 0 ≤ A) (hv : ∀ i, -A ≤ v.getD i 0 ∧ v.getD i 0 ≤ A) (ht : ∀ i, -32768 ≤ t.getD i 0 ∧ t.getD i 0 ≤ 32768) : ∀ i : Nat, -(A * 32768 * i) ≤ dot v t M p st s i - s ∧ dot v t M p st s i - s ≤ A * 32768 * i
  | 0 => by simp [dot]
  | i + 1 => by
    have ih := dot_in hA hv ht (M := M) (p := p) (st := st) (s := s) i
    have h := mul_in hA (hv i) (ht ((p + i * st) % M)) (by omega)
    simp only [dot]
    have e : A * 32768 * ((i + 1 : Nat) : Int) = A * 32768 * (i : Int) + A * 32768 := by
      push_cast
      rw [Int.mul_add, Int.mul_one]
    rw [e]
    omega
theorem next_mod {p i st M : Nat} (hM : 0 < M) (hst : st < M) : (if (p + i * st) % M + st ≥ M then (p + i * st) % M + st - M else (p + i * st) % M + st) = (p + (i + 1) * st) % M := by
  have h : (p + (i + 1) * st) % M = ((p + i * st) % M + st) % M := by
    rw [Nat.add_mul, Nat.one_mul, ← Nat.add_assoc, Nat.add_mod (p + i * st) st M, Nat.mod_eq_of_lt hst]
  have h2 := Nat.mod_lt (p + i * st) hM
  rw [h]
  generalize (p + i * st) % M = q at *
  split
  · rw [Nat.mod_eq_sub_mod (by omega), Nat.mod_eq_of_lt (by omega)]
  · rw [Nat.mod_eq_of_lt (by omega)]
theorem mul15_in {a b : Int} (ha : 0 ≤ a ∧ a ≤ 32768) (hb : -16777216 ≤ b ∧ b ≤ 16777216) : -16777216 ≤ mul a b 15 ∧ mul a b 15 ≤ 16777216 := by
  unfold mul
  rw [if_neg (by omega), if_neg (by omega), if_neg (by omega)]
  have e1 : fac a = a := clamp_id (by omega) (by omega)
  have e2 : fac b = b := clamp_id (by omega) (by omega)
  rw [e1, e2]
  have h := mul_in (u := a) (v := b) (A := 32768) (B := 16777216) (by omega) (by omega) hb (by omega)
  have e3 : (2 : Int) ^ ((15 : Int) - 1).toNat = 16384 := by decide
  have e4 : (2 : Int) ^ (15 : Int).toNat = 32768 := by decide
  rw [e3, e4]
  omega
end Go.Proofs.Ytlmacbiahofmcaa.Q
namespace Go.Proofs.Ytlmacbiahofmcaa.Q
open Go.RowKit Go.Proofs.Ytlmacbiahofmcaa.P Go.Proofs.YtlmacbiahofmcaaW.PrintWords Go.Proofs.YtlmacbiahofmcaaW.PrintLast Go.Proofs.YtlmacbiahofmcaaW.PrintMore
open Go.Proofs.Ytlmacbiahofmcaa.M
set_option linter.unusedVariables false
theorem down15 {a d : Int} (hd : 1 ≤ d) (h0 : -9223372036854775807 ≤ a) (h1 : a ≤ 9223372036854775807) : mdct_down.f a d = some (a / d) := by
  unfold mdct_down.f
  rw [if_neg (by omega)]
  rcases Int.le_total 0 a with h | h
  · rw [Int.tmod_eq_emod_of_nonneg h, Int.tdiv_eq_ediv_of_nonneg h]
    have := Int.emod_nonneg a (show d ≠ 0 by omega)
    have h2 := Int.ediv_le_self d h
    have h3 : 0 ≤ a / d := Int.ediv_nonneg h (by omega)
    rw [if_neg (by omega), w64 (by omega) (by omega)]
  · obtain ⟨b, rfl⟩ : ∃ b, a = -b := ⟨-a, by omega⟩
    have hb : 0 ≤ b := by omega
    rw [Int.neg_tmod, Int.neg_tdiv, Int.tmod_eq_emod_of_nonneg hb, Int.tdiv_eq_ediv_of_nonneg hb]
    have e1 := Int.emod_nonneg b (show d ≠ 0 by omega)
    have e2 := Int.emod_lt_of_pos b (show 0 < d by omega)
    have e3 := Int.mul_ediv_add_emod b d
    have e4 : 0 ≤ b / d := Int.ediv_nonneg hb (by omega)
    have e5 := Int.ediv_le_self d hb
    by_cases hz : b % d = 0
    · rw [if_neg (by omega), w64 (by omega) (by omega)]
      congr 1
      rw [Int.neg_ediv_of_dvd (Int.dvd_of_emod_eq_zero hz)]
    · rw [if_pos (by omega), w64 (x := -(b / d)) (by omega) (by omega), w64 (by omega) (by omega)]
      congr 1
      symm
      have e6 : -b = (-(b / d) - 1) * d + (d - b % d) := by
        rw [Int.sub_mul, Int.neg_mul, Int.one_mul, Int.mul_comm (b / d) d]
        omega
      rw [e6, Int.add_comm, Int.add_mul_ediv_right _ _ (by omega), Int.ediv_eq_zero_of_lt (by omega) (by omega)]
      omega
def c34 (v : Int) : Int := clamp v (-17179869184) 17179869184
def invG (f : List Int) : List Int := f.map c34
theorem invG_in (f : List Int) (i : Nat) : -17179869184 ≤ (invG f).getD i 0 ∧ (invG f).getD i 0 ≤ 17179869184 := by
  unfold invG
  rw [List.getD_eq_getElem?_getD, List.getElem?_map]
  cases f[i]? with
  | none => simp
  | some v => exact clamp_bounds (by omega)
def invS (n : Nat) (f : List Int) (j : Nat) : Int := dot (invG f) (tab15 n) (8 * n) ((2 * j + 1 + n) % (8 * n)) (2 * (2 * j + 1 + n) % (8 * n)) 0 n
def invAt (n l : Nat) (f : List Int) (j : Nat) : Int := mul (shAt n l j) (clamp ((2 * invS n f j + 16384 * n) / (32768 * n)) (-16777216) 16777216) 15
def inv15 (n l : Nat) (f : List Int) : List Int := (List.range (2 * n)).map (invAt n l f)
theorem inv15_len (n l : Nat) (f : List Int) : (inv15 n l f).length = 2 * n := by simp [inv15]
theorem invS_in {n : Nat} (h1 : 4 ≤ n) (h2 : n ≤ 480) (f : List Int) (j : Nat) : -270215977642229760 ≤ invS n f j ∧ invS n f j ≤ 270215977642229760 := by
  have hb := dot_in (v := invG f) (t := tab15 n) (M := 8 * n) (p := (2 * j + 1 + n) % (8 * n)) (st := 2 * (2 * j + 1 + n) % (8 * n)) (s := 0) (A := 17179869184) (by omega) (invG_in f) (tab15_in n) n
  unfold invS
  omega
theorem inv_l2 (n l : Nat) (h : Good15 n l) (f : List Int) (hf : f.length = n) (out : List Int) (j : Nat) (hj : j < 2 * n) (ho : out.length = 2 * n) {R : List Int × Int}
    (hr : Ev (fun k => mdct_Inverse.l1 k (n : Int) (shape15 n l) (invG f) (tab15 n) (out.set j (invAt n l f j)) ((2 * n : Nat) : Int) ((j : Int) + 1)) R) (p st : Nat) (hp : p = (2 * j + 1 + n) % (8 * n)) (hst : st = 2 * (2 * j + 1 + n) % (8 * n)) :
    ∀ (r i : Nat), i + r = n → Ev (fun k => mdct_Inverse.l2 k (n : Int) (shape15 n l) (invG f) (tab15 n) out (j : Int) (dot (invG f) (tab15 n) (8 * n) p st 0 i) (((p + i * st) % (8 * n) : Nat) : Int) (st : Int) ((2 * n : Nat) : Int) (j : Int) (n : Int) (i : Int)) R := by
  obtain ⟨h1, h2, h3, h4, h5⟩ := id h
  have hb := dot_in (v := invG f) (t := tab15 n) (M := 8 * n) (p := p) (st := st) (s := 0) (A := 17179869184) (by omega) (invG_in f) (tab15_in n)
  have hgl : (invG f).length = n := by simp [invG, hf]
  intro r
  induction r with
  | zero =>
    intro i hi
    obtain rfl : i = n := by omega
    have hS := invS_in (n := i) (by omega) (by omega) f j
    have e : dot (invG f) (tab15 i) (8 * i) p st 0 i = invS i f j := by unfold invS; rw [hp, hst]
    refine Ev.step (fun k => by rw [mdct_Inverse.l2]) (evNeg (by omega) (evPos (by omega) (evPos (by rw [shape15_len]; omega) ?_)))
    rw [e, rd_nat, shape15_getD, if_pos hj]
    have hA : invAt i l f j = mul (shAt i l j) (clamp ((2 * invS i f j + 16384 * i) / (32768 * i)) (-16777216) 16777216) 15 := rfl
    generalize invS i f j = S at *
    rw [w64 (x := 2 * S) (by omega) (by omega), w64 (x := 16384 * (i : Int)) (by omega) (by omega), w64 (x := 2 * S + 16384 * (i : Int)) (by omega) (by omega), w64 (x := 32768 * (i : Int)) (by omega) (by omega), w64 (x := (j : Int) + 1) (by omega) (by omega), down15 (by omega) (by omega) (by omega)]
    refine Ev.congr (fun k => by rw [Option.bind_some]) (Ev.bind (fix_clamp _ _ _) (Ev.bind (fix_mul _ _ 15 (by omega) (by omega)) ?_))
    refine evPos (by omega) ?_
    rw [Int.toNat_natCast, ← hA]
    exact hr
  | succ r ih =>
    intro i hi
    have hM : 0 < 8 * n := by omega
    have hst2 : st < 8 * n := by rw [hst]; exact Nat.mod_lt _ hM
    have hq := Nat.mod_lt (p + i * st) hM
    have hnm := next_mod (p := p) (i := i) hM hst2
    have hn := ih (i + 1) (by omega)
    rw [← hnm] at hn
    have b0 := hb i
    have b1 := hb (i + 1)
    have hm := mul_in (u := (invG f).getD i 0) (v := (tab15 n).getD ((p + i * st) % (8 * n)) 0) (A := 17179869184) (B := 32768) (by omega) (invG_in f i) (tab15_in n _) (by omega)
    have ed : dot (invG f) (tab15 n) (8 * n) p st 0 (i + 1) = dot (invG f) (tab15 n) (8 * n) p st 0 i + (invG f).getD i 0 * (tab15 n).getD ((p + i * st) % (8 * n)) 0 := rfl
    refine Ev.step (fun k => by rw [mdct_Inverse.l2]) ?_
    rw [rd_nat, rd_nat]
    generalize hQ : (p + i * st) % (8 * n) = q at *
    generalize hD : dot (invG f) (tab15 n) (8 * n) p st 0 i = D at *
    generalize hE : dot (invG f) (tab15 n) (8 * n) p st 0 (i + 1) = E at *
    generalize hU : (invG f).getD i 0 * (tab15 n).getD q 0 = U at *
    rw [w64 (x := U) (by omega) (by omega), w64 (x := D + U) (by omega) (by omega), w64 (x := (q : Int) + st) (by omega) (by omega), w64 (x := (i : Int) + 1) (by omega) (by omega), tab15_len, hgl, ← ed, w64 (x := (q : Int) + st - ((8 * n : Nat) : Int)) (by omega) (by omega)]
    refine evPos (by omega) (evPos (by omega) (evPos (by omega) (evPos (by omega) (evPos (by omega) ?_))))
    have ei : ((i + 1 : Nat) : Int) = (i : Int) + 1 := by omega
    rw [ei] at hn
    refine evIte (fun hc => ?_) (fun hc => ?_)
    · rw [if_pos (by omega)] at hn
      have e : ((q + st - 8 * n : Nat) : Int) = (q : Int) + st - ((8 * n : Nat) : Int) := by omega
      rw [e] at hn
      exact hn
    · rw [if_neg (by omega)] at hn
      have e : ((q + st : Nat) : Int) = (q : Int) + st := by omega
      rw [e] at hn
      exact hn
theorem inv_l1 (n l : Nat) (h : Good15 n l) (f : List Int) (hf : f.length = n) : ∀ (r i : Nat), i + r = 2 * n → Ev (fun k => mdct_Inverse.l1 k (n : Int) (shape15 n l) (invG f) (tab15 n) ((List.range i).map (invAt n l f) ++ List.replicate r 0) ((2 * n : Nat) : Int) (i : Int)) (inv15 n l f, 0) := by
  obtain ⟨h1, h2, h3, h4, h5⟩ := id h
  have hgl : (invG f).length = n := by simp [invG, hf]
  intro r
  induction r with
  | zero =>
    intro i hi
    obtain rfl : i = 2 * n := by omega
    refine Ev.step (fun k => by rw [mdct_Inverse.l1]) (evNeg (by omega) (evConst ?_))
    simp [inv15]
  | succ r ih =>
    intro i hi
    refine Ev.step (fun k => by rw [mdct_Inverse.l1]) ?_
    rw [w64 (x := 8 * (n : Int)) (by omega) (by omega), w64 (x := 2 * (i : Int)) (by omega) (by omega), w64 (x := 2 * (i : Int) + 1) (by omega) (by omega), w64 (x := 2 * (i : Int) + 1 + n) (by omega) (by omega), w64 (x := 2 * (2 * (i : Int) + 1 + n)) (by omega) (by omega)]
    have e1 : 2 * (i : Int) + 1 + (n : Int) = ((2 * i + 1 + n : Nat) : Int) := by omega
    have e2 : 2 * (2 * (i : Int) + 1 + n) = ((2 * (2 * i + 1 + n) : Nat) : Int) := by omega
    have e3 : 8 * (n : Int) = ((8 * n : Nat) : Int) := by omega
    rw [e2, e1, e3, Int.tmod_eq_emod_of_nonneg (Int.natCast_nonneg _), Int.tmod_eq_emod_of_nonneg (Int.natCast_nonneg _), ← Int.natCast_emod, ← Int.natCast_emod, hgl]
    refine evPos (by omega) (evNeg (by omega) ?_)
    have hr := ih (i + 1) (by omega)
    rw [List.range_succ, List.map_append] at hr
    have hs := inv_l2 n l h f hf ((List.range i).map (invAt n l f) ++ List.replicate (r + 1) 0) i (by omega) (by simp; omega) (R := (inv15 n l f, 0)) (by
      have e4 : ((List.range i).map (invAt n l f) ++ List.replicate (r + 1) 0).set i (invAt n l f i) = (List.range i).map (invAt n l f) ++ invAt n l f i :: List.replicate r 0 := by
        have := set_mid ((List.range i).map (invAt n l f)) 0 (List.replicate r 0) (invAt n l f i) (i : Int) (by simp)
        rw [Int.toNat_natCast] at this
        rw [List.replicate_succ]
        exact this
      rw [e4]
      simpa using hr) _ _ rfl rfl n 0 (by omega)
    have e5 : dot (invG f) (tab15 n) (8 * n) ((2 * i + 1 + n) % (8 * n)) (2 * (2 * i + 1 + n) % (8 * n)) 0 0 = 0 := rfl
    simp only [e5, Nat.zero_mul, Nat.add_zero, Nat.mod_mod] at hs
    exact hs
theorem inv_l0 (n l : Nat) (h : Good15 n l) (f : List Int) (hf : f.length = n) : ∀ (r : Nat) (S A : List Int), S.length = r → f = A ++ S →
    Ev (fun k => mdct_Inverse.l0 k (n : Int) (shape15 n l) (A.map c34 ++ List.replicate r 0) f (n : Int) (A.length : Int)) (inv15 n l f, 0) := by
  obtain ⟨h1, h2, h3, h4, h5⟩ := id h
  intro r
  induction r with
  | zero =>
    intro S A hS he
    obtain rfl : S = [] := List.eq_nil_of_length_eq_zero hS
    have he : f = A := by simpa using he
    subst he
    refine Ev.step (fun k => by rw [mdct_Inverse.l0]) (evNeg (by omega) (Ev.bind (waves_ev n (by omega) (by omega)) ?_))
    rw [w64 (x := 2 * (n : Int)) (by omega) (by omega)]
    refine evPos (by omega) (evPos (by omega) ?_)
    refine Ev.congr (fun k => by rw [Option.bind_some]) ?_
    have e : (2 * (n : Int)).toNat = 2 * n := by omega
    rw [e]
    have := inv_l1 n l h f hf (2 * n) 0 (by omega)
    simpa [invG] using this
  | succ r ih =>
    intro S A hS he
    cases S with
    | nil => simp at hS
    | cons s S =>
      simp at hS
      have hlen : f.length = A.length + S.length + 1 := by rw [he]; simp; omega
      refine Ev.step (fun k => by rw [mdct_Inverse.l0]) (evPos (by omega) (evPos (by omega) (evPos (by omega) ?_)))
      have e3 : rd f (A.length : Int) = s := by rw [he]; exact rd_mid _ _ _ _ rfl
      rw [e3, w64 (x := (A.length : Int) + 1) (by omega) (by omega)]
      refine Ev.bind (fix_clamp _ _ _) (evPos (by simp; omega) ?_)
      have e4 : clamp s (-17179869184) 17179869184 = c34 s := rfl
      rw [e4, List.replicate_succ, set_mid (A.map c34) 0 (List.replicate r 0) _ (A.length : Int) (by simp)]
      have := ih S (A ++ [s]) (by omega) (by simpa using he)
      simpa using this
theorem inv_ev (n l : Nat) (h : Good15 n l) (f : List Int) (hf : f.length = n) : Ev (fun k => mdct_Inverse.f k f (l : Int)) (inv15 n l f, 0) := by
  obtain ⟨h1, h2, h3, h4, h5⟩ := id h
  refine Ev.congr (fun k => by rw [mdct_Inverse.f]) ?_
  rw [hf]
  refine Ev.bind (shape_ev n l h) (evPos rfl (evPos (by omega) (evPos (by omega) ?_)))
  rw [Int.toNat_natCast]
  have := inv_l0 n l h f hf n f [] hf rfl
  simpa using this
theorem invAt_in {n l j : Nat} (h : Good15 n l) (f : List Int) (hj : j < 2 * n) : -16777216 ≤ invAt n l f j ∧ invAt n l f j ≤ 16777216 := mul15_in (shAt_in h hj) (clamp_bounds (by omega))
end Go.Proofs.Ytlmacbiahofmcaa.Q
namespace Go.Proofs.Ytlmacbiahofmcaa.Q
open Go.RowKit Go.Proofs.Ytlmacbiahofmcaa.P Go.Proofs.YtlmacbiahofmcaaW.PrintWords Go.Proofs.YtlmacbiahofmcaaW.PrintLast Go.Proofs.YtlmacbiahofmcaaW.PrintMore
open Go.Proofs.Ytlmacbiahofmcaa.M
set_option linter.unusedVariables false
theorem ref_clamp (a lo hi : Int) : Ev (fun k => madrigalref1_Clamp.f k a lo hi) (clamp a lo hi) := by
  have hj : ∀ b, Ev (fun k => madrigalref1_Clamp.j0 k a lo hi b) (if b = true then lo else if a > hi then hi else a) := by
    intro b
    refine Ev.step (fun k => by rw [madrigalref1_Clamp.j0]) ?_
    refine evConst ?_
    cases b <;> simp <;> split <;> rfl
  refine Ev.congr (fun k => by rw [madrigalref1_Clamp.f]) ?_
  refine evIte (fun h => ?_) (fun h => ?_)
  · exact evEq (hj true) (by unfold clamp; simp [h])
  · exact evEq (hj _) (by unfold clamp; simp [h])
end Go.Proofs.Ytlmacbiahofmcaa.Q
namespace Go.Proofs.Ytlmacbiahofmcaa.Q
open Go.RowKit Go.Proofs.Ytlmacbiahofmcaa.P Go.Proofs.YtlmacbiahofmcaaW.PrintWords Go.Proofs.YtlmacbiahofmcaaW.PrintLast Go.Proofs.YtlmacbiahofmcaaW.PrintMore
open Go.Proofs.Ytlmacbiahofmcaa.M
set_option linter.unusedVariables false
theorem shl_64 {x s : Int} (h1 : s ≤ 64) (a0 : -9223372036854775808 ≤ x * 2 ^ s.toNat) (a1 : x * 2 ^ s.toNat ≤ 9223372036854775807) : shl .i64 x s = x * 2 ^ s.toNat := by
  unfold shl
  rw [show IntKind.i64.bits = 64 from rfl, Nat.min_eq_left (by omega), i64_w]
  exact w64 a0 a1
theorem uw64 {x : Int} (h0 : 0 ≤ x) (h1 : x < 18446744073709551616) : IntKind.u64.wrap x = x := by
  show x % 18446744073709551616 = x
  exact Int.emod_eq_of_lt h0 h1
theorem round_two (p P : Int) (hP : 1 ≤ P) : (p + P) / (2 * P) = if p % (2 * P) ≥ P then p / (2 * P) + 1 else p / (2 * P) := by
  have hmod := Int.emod_nonneg p (show 2 * P ≠ 0 by omega)
  have hlt := Int.emod_lt_of_pos p (show 0 < 2 * P by omega)
  have hd := Int.mul_ediv_add_emod p (2 * P)
  split
  · refine (Int.ediv_emod_unique (a := p + P) (b := 2 * P) (r := p % (2 * P) - P) (q := p / (2 * P) + 1) (by omega)).2 ⟨?_, by omega, by omega⟩ |>.1
    rw [Int.mul_add]; omega
  · exact ((Int.ediv_emod_unique (a := p + P) (b := 2 * P) (r := p % (2 * P) + P) (q := p / (2 * P)) (by omega)).2 ⟨by omega, by omega, by omega⟩).1
theorem ref_mul (a b s : Int) (hs0 : -9223372036854775808 ≤ s) (hs1 : s ≤ 9223372036854775807) : Ev (fun k => madrigalref1_Mul.f k a b s) (mul a b s) := by
  have hp := fac_prod a b
  refine Ev.congr (fun k => by rw [madrigalref1_Mul.f]) (Ev.bind (ref_clamp a _ _) (Ev.bind (ref_clamp b _ _) ?_))
  have e : clamp a (-2147483648) 2147483648 * clamp b (-2147483648) 2147483648 = fac a * fac b := rfl
  rw [e, w64 (x := fac a * fac b) (by omega) (by omega)]
  have hno : ∀ t, t = true → Ev (fun k => madrigalref1_Mul.j0 k s (fac a * fac b) t) 0 := by
    intro t ht
    refine Ev.step (fun k => by rw [madrigalref1_Mul.j0]) ?_
    exact evPos ht (Ev.now _)
  unfold mul
  by_cases h1 : s < 0
  · rw [if_neg (show ¬ s = 0 by omega), if_pos h1]
    exact evPos h1 (hno _ rfl)
  · refine evNeg h1 ?_
    by_cases h2 : s > 62
    · rw [if_neg (show ¬ s = 0 by omega), if_neg h1, if_pos h2]
      exact hno _ (decide_eq_true h2)
    · rw [decide_eq_false h2]
      refine Ev.step (fun k => by rw [madrigalref1_Mul.j0]) ?_
      refine evNeg (by simp) (evIte (fun h3 => ?_) (fun h3 => ?_))
      · rw [if_pos h3]; exact Ev.now _
      · rw [if_neg h3, if_neg h1, if_neg h2, w64 (x := s - 1) (by omega) (by omega), uw64 (x := s - 1) (by omega) (by omega), uw64 (x := s) (by omega) (by omega), shl1_64 (by omega) (by omega), shr_64 (by omega)]
        have hs2 : s.toNat = (s - 1).toNat + 1 := by omega
        have e2 : (2 : Int) ^ s.toNat = 2 * 2 ^ (s - 1).toNat := by rw [hs2, pow_next]
        have hq := pow_61 (n := (s - 1).toNat) (by omega)
        have hr := round_two (fac a * fac b) (2 ^ (s - 1).toNat) hq.1
        have hmod := Int.emod_nonneg (fac a * fac b) (show 2 * 2 ^ (s - 1).toNat ≠ 0 by omega)
        have hlt := Int.emod_lt_of_pos (fac a * fac b) (show 0 < 2 * 2 ^ (s - 1).toNat by omega)
        have hd := Int.mul_ediv_add_emod (fac a * fac b) (2 * 2 ^ (s - 1).toNat)
        rw [Int.mul_comm] at hd
        have hq1 : -4611686018427387904 ≤ fac a * fac b / (2 * 2 ^ (s - 1).toNat) ∧ fac a * fac b / (2 * 2 ^ (s - 1).toNat) ≤ 4611686018427387904 := by
          have h := Int.natAbs_ediv_le_natAbs (fac a * fac b) (2 * 2 ^ (s - 1).toNat)
          omega
        rw [shl_64 (by omega) (by rw [e2]; omega) (by rw [e2]; omega), e2, w64 (x := fac a * fac b - _) (by omega) (by omega), w64 (x := _ + 1) (by omega) (by omega), hr]
        refine evPos (by omega) (evPos (by omega) (evIte (fun h4 => ?_) (fun h4 => ?_)))
        · rw [if_pos (by omega)]; exact Ev.now _
        · rw [if_neg (by omega)]; exact Ev.now _
end Go.Proofs.Ytlmacbiahofmcaa.Q
namespace Go.Proofs.Ytlmacbiahofmcaa.Q
open Go.RowKit Go.Proofs.Ytlmacbiahofmcaa.P Go.Proofs.YtlmacbiahofmcaaW.PrintWords Go.Proofs.YtlmacbiahofmcaaW.PrintLast Go.Proofs.YtlmacbiahofmcaaW.PrintMore
open Go.Proofs.Ytlmacbiahofmcaa.M
set_option linter.unusedVariables false
theorem ref_series_l0 (z : Int) (n : Nat) : ∀ (S A : List Int) (s i : Int), S.length = n → i = A.length → A.length + S.length ≤ 1000 → (∀ c ∈ S, -2147483648 ≤ c ∧ c ≤ 2147483648) →
    Ev (fun k => madrigalref1_series.l0 k z s (A ++ S) i) (ser z s S) := by
  induction n with
  | zero =>
    intro S A s i hn hi hl hS
    have e1 : S = [] := List.eq_nil_of_length_eq_zero hn
    subst e1
    refine Ev.step (fun k => by rw [madrigalref1_series.l0]) ?_
    exact evNeg (by simp; omega) (Ev.now _)
  | succ n ih =>
    intro S A s i hn hi hl hS
    cases S with
    | nil => simp at hn
    | cons c S =>
      simp at hn hl
      have hc := hS c (by simp)
      have hb := mul30_bounds z s
      refine Ev.step (fun k => by rw [madrigalref1_series.l0]) ?_
      refine evPos (by simp; omega) (evPos (by omega) ?_)
      refine Ev.bind (ref_mul z s 30 (by omega) (by omega)) ?_
      rw [rd_mid _ _ _ _ hi, w64 (x := i + 1) (by omega) (by omega), w64 (x := c + _) (by omega) (by omega)]
      have h := ih S (A ++ [c]) (c + mul z s 30) (i + 1) (by omega) (by simp; omega) (by simp; omega) (fun y hy => hS y (by simp [hy]))
      simpa [ser] using h
theorem ref_ser (z s : Int) (l : List Int) (hl : l.length ≤ 100) (h : ∀ c ∈ l, -2147483648 ≤ c ∧ c ≤ 2147483648) : Ev (fun k => madrigalref1_series.f k z s l) (ser z s l) := by
  refine Ev.congr (fun k => by rw [madrigalref1_series.f]) ?_
  have h2 := ref_series_l0 z l.length l [] s 0 rfl rfl (by simp; omega) h
  exact h2
theorem ref_quarter (x : Int) (hx : 0 ≤ x ∧ x ≤ 16384) : Ev (fun k => madrigalref1_quarter.f k x) (qr x) := by
  refine Ev.congr (fun k => by rw [madrigalref1_quarter.f]) ?_
  by_cases h : x ≤ 8192
  · have e : mul (ser (mul (mul x 1686629713 14) (mul x 1686629713 14) 30) (-296) [26631, -1491308, 44739243, -536870912, 1073741824]) 1 15 = qr x := by unfold qr; rw [if_pos h]
    refine evPos h (Ev.bind (ref_mul _ _ _ (by omega) (by omega)) (Ev.bind (ref_mul _ _ _ (by omega) (by omega)) (Ev.bind (ref_ser _ _ _ (by decide) (by decide)) (Ev.bind (ref_mul _ _ _ (by omega) (by omega)) (evEq (Ev.now _) e)))))
  · have e : mul (mul (mul (16384 - x) 1686629713 14) (ser (mul (mul (16384 - x) 1686629713 14) (mul (16384 - x) 1686629713 14) 30) 2959 [-213044, 8947849, -178956971, 1073741824]) 30) 1 15 = qr x := by unfold qr; rw [if_neg h]
    refine evNeg h ?_
    rw [w64 (x := 16384 - x) (by omega) (by omega)]
    exact Ev.bind (ref_mul _ _ _ (by omega) (by omega)) (Ev.bind (ref_mul _ _ _ (by omega) (by omega)) (Ev.bind (ref_ser _ _ _ (by decide) (by decide)) (Ev.bind (ref_mul _ _ _ (by omega) (by omega)) (Ev.bind (ref_mul _ _ _ (by omega) (by omega)) (evEq (Ev.now _) e)))))
theorem ref_cos (a : Int) : Ev (fun k => madrigalref1_Cos.f k a) (cosI a) := by
  have hj : ∀ x, 0 ≤ x → x ≤ 32768 → x = fold a → Ev (fun k => madrigalref1_Cos.j0 k x) (cosI a) := by
    intro x h0 h1 hx
    refine Ev.step (fun k => by rw [madrigalref1_Cos.j0]) ?_
    unfold cosI
    rw [← hx]
    have hq := qr_small (32768 - x)
    refine evIte (fun h => ?_) (fun h => ?_)
    · rw [w64 (x := 32768 - x) (by omega) (by omega), if_pos h]
      refine Ev.bind (ref_quarter _ (by omega)) ?_
      rw [w64 (x := -qr (32768 - x)) (by omega) (by omega)]
      exact Ev.now _
    · rw [if_neg h]
      exact Ev.bind (ref_quarter _ (by omega)) (Ev.now _)
  refine Ev.congr (fun k => by rw [madrigalref1_Cos.f]) ?_
  rw [bits_65535]
  refine evIte (fun h => ?_) (fun h => ?_)
  · rw [w64 (x := 65536 - a % 65536) (by omega) (by omega)]
    exact hj _ (by omega) (by omega) (by unfold fold; rw [if_pos h])
  · exact hj _ (by omega) (by omega) (by unfold fold; rw [if_neg h])
theorem ref_sin (a : Int) : Ev (fun k => madrigalref1_Sin.f k a) (cosI (a % 65536 - 16384)) := by
  refine Ev.congr (fun k => by rw [madrigalref1_Sin.f]) ?_
  rw [bits_65535, w64 (x := a % 65536 - 16384) (by omega) (by omega)]
  exact Ev.bind (ref_cos _) (Ev.now _)
end Go.Proofs.Ytlmacbiahofmcaa.Q
namespace Go.Proofs.Ytlmacbiahofmcaa.Q
open Go.RowKit Go.Proofs.Ytlmacbiahofmcaa.P Go.Proofs.YtlmacbiahofmcaaW.PrintWords Go.Proofs.YtlmacbiahofmcaaW.PrintLast Go.Proofs.YtlmacbiahofmcaaW.PrintMore
open Go.Proofs.Ytlmacbiahofmcaa.M
set_option linter.unusedVariables false
theorem ref_sin_small {a : Int} (h0 : 0 ≤ a) (h1 : a ≤ 16384) : Ev (fun k => madrigalref1_Sin.f k a) (qr (16384 - a)) := by
  have e : a % 65536 = a := by omega
  have h := ref_sin a
  rw [e, cos_pos (m := 16384 - a) (by omega) (by omega) (by omega)] at h
  exact h
theorem ref_win_l0 (l : Nat) (hl : 1 ≤ l ∧ l ≤ 480) (n : Nat) : ∀ (i : Nat), i + n = l → Ev (fun k => madrigalref1_Window.l0 k (l : Int) ((List.range i).map (fun i : Nat => gw (wat l (i : Int)))) (i : Int)) (win l) := by
  have hd : decide ((l : Int) ≤ 480) = true := decide_eq_true (by omega)
  induction n with
  | zero =>
    intro i hi
    have e : i = l := by omega
    subst e
    refine Ev.step (fun k => by rw [madrigalref1_Window.l0]) ?_
    refine evNeg (by omega) ?_
    refine Ev.step (fun k => by rw [madrigalref1_Window.j1]) ?_
    exact evNeg (by simp) (Ev.now _)
  | succ n ih =>
    intro i hi
    refine Ev.step (fun k => by rw [madrigalref1_Window.l0]) ?_
    refine evPos (by omega) ?_
    rw [hd]
    refine Ev.step (fun k => by rw [madrigalref1_Window.j1]) ?_
    refine evPos rfl (evNeg (by omega) ?_)
    have hq := wat_q (l := (l : Int)) (i := (i : Int)) (by omega) (by omega)
    have hw := wat_in (l := (l : Int)) (i := (i : Int)) (by omega) (by omega)
    rw [w64 (x := 2 * (i : Int)) (by omega) (by omega), w64 (x := 2 * (i : Int) + 1) (by omega) (by omega), w64 (x := (2 * (i : Int) + 1) * 16384) (by omega) (by omega), Int.tdiv_eq_ediv_of_nonneg (show 0 ≤ (2 * (i : Int) + 1) * 16384 by omega), w64 (x := (2 * (i : Int) + 1) * 16384 / l) (by omega) (by omega), w64 (x := (2 * (i : Int) + 1) * 16384 / l + 1) (by omega) (by omega), Int.tdiv_eq_ediv_of_nonneg (show 0 ≤ (2 * (i : Int) + 1) * 16384 / l + 1 by omega)]
    have ew : ((2 * (i : Int) + 1) * 16384 / l + 1) / 2 = wat l i := rfl
    rw [ew, w64 (x := wat l i) (by omega) (by omega)]
    refine Ev.bind (ref_sin_small hw.1 hw.2) (Ev.bind (ref_mul _ _ 15 (by omega) (by omega)) ?_)
    have h2 := qr_in (m := 16384 - wat l i) (by omega) (by omega)
    have h3 := half_in h2
    have hm : 0 ≤ mul (qr (16384 - wat l i)) (qr (16384 - wat l i)) 15 ∧ mul (qr (16384 - wat l i)) (qr (16384 - wat l i)) 15 ≤ 40000 := by omega
    rw [w64 (x := mul _ _ 15 + 1) (by omega) (by omega), Int.tdiv_eq_ediv_of_nonneg (by omega)]
    have eh : (mul (qr (16384 - wat l i)) (qr (16384 - wat l i)) 15 + 1) / 2 = half (qr (16384 - wat l i)) := rfl
    rw [eh, w64 (x := half _) (by omega) (by omega)]
    refine Ev.bind (ref_sin_small h3.1 h3.2.1) (evPos (by simp; omega) ?_)
    rw [w64 (x := (i : Int) + 1) (by omega) (by omega)]
    have h := ih (i + 1) (by omega)
    rw [List.range_succ, List.map_append] at h
    simpa [gw] using h
theorem ref_window (l : Int) (h : 1 ≤ l ∧ l ≤ 480) : Ev (fun k => madrigalref1_Window.f k l) (win l.toNat) := by
  obtain ⟨n, rfl⟩ : ∃ n : Nat, l = n := ⟨l.toNat, by omega⟩
  rw [Int.toNat_natCast]
  refine Ev.congr (fun k => by rw [madrigalref1_Window.f]) ?_
  have h2 := ref_win_l0 n (by omega) n 0 (by omega)
  simpa using h2
end Go.Proofs.Ytlmacbiahofmcaa.Q
namespace Go.Proofs.Ytlmacbiahofmcaa.Q
open Go.RowKit Go.Proofs.Ytlmacbiahofmcaa.P Go.Proofs.YtlmacbiahofmcaaW.PrintWords Go.Proofs.YtlmacbiahofmcaaW.PrintLast Go.Proofs.YtlmacbiahofmcaaW.PrintMore
set_option linter.unusedVariables false
theorem ref_down {a d : Int} (hd : 1 ≤ d) (h0 : -9223372036854775807 ≤ a) (h1 : a ≤ 9223372036854775807) : madrigalref1_Down.f a d = some (a / d) := by
  unfold madrigalref1_Down.f
  rw [if_neg (by omega)]
  have hmod := Int.emod_nonneg a (show d ≠ 0 by omega)
  have hlt := Int.emod_lt_of_pos a (show 0 < d by omega)
  have he := Int.mul_ediv_add_emod a d
  have hbs : d.sign = 1 := Int.sign_eq_one_of_pos (by omega)
  have hm : Int.tmod a d = a - d * Int.tdiv a d := by have := Int.mul_tdiv_add_tmod a d; omega
  have hq2 : a / d ≤ 9223372036854775807 := by
    by_cases h : 0 ≤ a
    · have := Int.ediv_le_self d h; omega
    · have : a / d < 0 := Int.ediv_neg_of_neg_of_pos (by omega) (by omega)
      omega
  have hq1 : -9223372036854775807 ≤ a / d := by
    rw [Int.le_ediv_iff_mul_le (by omega)]
    have : (-9223372036854775807 : Int) * d ≤ -9223372036854775807 * 1 := Int.mul_le_mul_of_nonpos_left (by omega) (by omega)
    omega
  have ht : Int.tdiv a d = if 0 ≤ a ∨ a % d = 0 then a / d else a / d + 1 := by
    rw [Int.tdiv_eq_ediv, hbs]
    by_cases h : 0 ≤ a
    · rw [if_pos (.inl h), if_pos (.inl h)]; omega
    · by_cases h2 : a % d = 0
      · rw [if_pos (.inr (Int.dvd_of_emod_eq_zero h2)), if_pos (.inr h2)]; omega
      · rw [if_neg, if_neg]
        · rintro (h3 | h3)
          · exact h h3
          · exact h2 h3
        · rintro (h3 | h3)
          · exact h h3
          · exact h2 (Int.emod_eq_zero_of_dvd h3)
  by_cases h : 0 ≤ a ∨ a % d = 0
  · rw [if_pos h] at ht
    rw [hm, ht, if_neg (by omega), w64 (by omega) (by omega)]
  · rw [if_neg h] at ht
    have hmul : d * (a / d + 1) = d * (a / d) + d := by rw [Int.mul_add]; omega
    have hneg : a / d < 0 := Int.ediv_neg_of_neg_of_pos (by omega) (by omega)
    rw [hm, ht, if_pos (by omega), w64 (x := a / d + 1) (by omega) (by omega), w64 (by omega) (by omega)]
    congr 1
    omega
end Go.Proofs.Ytlmacbiahofmcaa.Q
namespace Go.Proofs.Ytlmacbiahofmcaa.Q
open Go.RowKit Go.Proofs.Ytlmacbiahofmcaa.P Go.Proofs.YtlmacbiahofmcaaW.PrintWords Go.Proofs.YtlmacbiahofmcaaW.PrintLast Go.Proofs.YtlmacbiahofmcaaW.PrintMore
open Go.Proofs.Ytlmacbiahofmcaa.M
set_option linter.unusedVariables false
theorem goodref15 (n l : Int) : madrigalref10_GoodBlock.f n l = some (decide (Good15 n l)) := by
  have e : madrigalref10_GoodBlock.f n l = mdct_Good.f n l := rfl
  rw [e, good15]
theorem keep15 (v : Int) : Ev (fun k => madrigalref10_keep.f k v) (clamp v (-16777216) 16777216) := by
  refine Ev.congr (fun k => by rw [madrigalref10_keep.f]) ?_
  exact Ev.bind (ref_clamp _ _ _) (evConst rfl)
theorem rshape_l1 (n l z : Nat) (hn : n ≤ 480) (hz : 2 * z + l ≤ n) : ∀ (r i : Nat), i + r = 2 * n - 2 * z - 2 * l →
    Ev (fun k => madrigalref10_Shape.l1 k (n : Int) (l : Int) ((List.range (2 * n)).map (shJ n l z i)) (z : Int) (((z + l + i : Nat) : Int))) ((List.range (2 * n)).map (shJ n l z (2 * n - 2 * z - 2 * l))) := by
  intro r
  induction r with
  | zero =>
    intro i hi
    obtain rfl : i = 2 * n - 2 * z - 2 * l := by omega
    refine Ev.step (fun k => by rw [madrigalref10_Shape.l1]) ?_
    rw [w64 (x := 2 * (n : Int)) (by omega) (by omega), w64 (x := 2 * (n : Int) - z) (by omega) (by omega), w64 (x := 2 * (n : Int) - z - l) (by omega) (by omega)]
    exact evNeg (by omega) (evConst rfl)
  | succ r ih =>
    intro i hi
    refine Ev.step (fun k => by rw [madrigalref10_Shape.l1]) ?_
    rw [w64 (x := 2 * (n : Int)) (by omega) (by omega), w64 (x := 2 * (n : Int) - z) (by omega) (by omega), w64 (x := 2 * (n : Int) - z - l) (by omega) (by omega), w64 (x := ((z + l + i : Nat) : Int) + 1) (by omega) (by omega)]
    refine evPos (by omega) (evPos (by omega) (evPos (by simp; omega) ?_))
    rw [Int.toNat_natCast, set_map_range, map_range_congr (g := shJ n l z (i + 1)) (fun j _ => shJ_step n l z i j)]
    have := ih (i + 1) (by omega)
    have e : (((z + l + i : Nat) : Int) + 1) = ((z + l + (i + 1) : Nat) : Int) := by omega
    rw [e]
    exact this
theorem rshape_l0 (n l z : Nat) (hn : n ≤ 480) (hz : 2 * z + l ≤ n) : ∀ (r i : Nat), i + r = l →
    Ev (fun k => madrigalref10_Shape.l0 k (n : Int) (l : Int) (win l) ((List.range (2 * n)).map (shI n l z i)) (z : Int) (i : Int)) ((List.range (2 * n)).map (shJ n l z (2 * n - 2 * z - 2 * l))) := by
  intro r
  induction r with
  | zero =>
    intro i hi
    obtain rfl : i = l := by omega
    refine Ev.step (fun k => by rw [madrigalref10_Shape.l0]) (evNeg (by omega) ?_)
    rw [w64 (x := (z : Int) + i) (by omega) (by omega)]
    have := rshape_l1 n i z hn hz (2 * n - 2 * z - 2 * i) 0 (by omega)
    rw [map_range_congr (g := shI n i z i) (fun j _ => shJ_zero n i z j)] at this
    have e : ((z : Int) + (i : Int)) = ((z + i + 0 : Nat) : Int) := by omega
    rw [e]
    exact this
  | succ r ih =>
    intro i hi
    refine Ev.step (fun k => by rw [madrigalref10_Shape.l0]) ?_
    rw [win_length, w64 (x := (z : Int) + i) (by omega) (by omega), w64 (x := 2 * (n : Int)) (by omega) (by omega), w64 (x := 2 * (n : Int) - 1) (by omega) (by omega), w64 (x := 2 * (n : Int) - 1 - z) (by omega) (by omega), w64 (x := 2 * (n : Int) - 1 - z - i) (by omega) (by omega), w64 (x := (i : Int) + 1) (by omega) (by omega)]
    refine evPos (by omega) (evPos (by omega) (evPos (by omega) (evPos (by omega) (evPos (by simp; omega) (evPos (by omega) (evPos (by simp; omega) ?_))))))
    have e1 : ((z : Int) + (i : Int)).toNat = z + i := by omega
    have e2 : (2 * (n : Int) - 1 - (z : Int) - (i : Int)).toNat = 2 * n - 1 - z - i := by omega
    rw [e1, e2, rd_wv l i (by omega), set_map_range, set_map_range, map_range_congr (g := shI n l z (i + 1)) (fun j _ => shI_step n l z i j hz (by omega))]
    have := ih (i + 1) (by omega)
    simpa using this
theorem rshape_ev (n l : Nat) (h : Good15 n l) : Ev (fun k => madrigalref10_Shape.f k (n : Int) (l : Int)) (shape15 n l) := by
  obtain ⟨h1, h2, h3, h4, h5⟩ := h
  refine Ev.congr (fun k => by rw [madrigalref10_Shape.f]) (Ev.bind (ref_window l (by omega)) ?_)
  rw [w64 (x := 2 * (n : Int)) (by omega) (by omega), w64 (x := (n : Int) - l) (by omega) (by omega), Int.tdiv_eq_ediv_of_nonneg (by omega), w64 (x := ((n : Int) - l) / 2) (by omega) (by omega)]
  refine evPos (by omega) (evPos (by omega) ?_)
  have e1 : (2 * (n : Int)).toNat = 2 * n := by omega
  have e2 : ((n : Int) - (l : Int)) / 2 = (((n - l) / 2 : Nat) : Int) := by omega
  have e3 : List.replicate (2 * n) (0 : Int) = (List.range (2 * n)).map (shI n l ((n - l) / 2) 0) := by
    rw [map_range_congr (g := fun _ => 0) (fun j _ => shI_zero n l _ j)]
    exact (List.eq_replicate_iff.mpr ⟨by simp, fun b hb => by obtain ⟨_, _, e⟩ := List.mem_map.mp hb; exact e.symm⟩).symm
  rw [e1, e2, e3, Int.toNat_natCast]
  exact rshape_l0 n l ((n - l) / 2) (by omega) (by omega) l 0 (by omega)
theorem rtab_l0 (n : Nat) (h1 : 4 ≤ n) (h2 : n ≤ 480) : ∀ (r i : Nat), i + r = 8 * n →
    Ev (fun k => madrigalref10_table.l0 k (n : Int) ((List.range i).map (tabAt n) ++ List.replicate r 0) (i : Int)) (tab15 n) := by
  intro r
  induction r with
  | zero =>
    intro i hi
    obtain rfl : i = 8 * n := by omega
    refine Ev.step (fun k => by rw [madrigalref10_table.l0]) ?_
    rw [w64 (x := 8 * (n : Int)) (by omega) (by omega)]
    refine evNeg (by omega) (evConst ?_)
    simp [tab15]
  | succ r ih =>
    intro i hi
    refine Ev.step (fun k => by rw [madrigalref10_table.l0]) ?_
    rw [w64 (x := 8 * (n : Int)) (by omega) (by omega)]
    refine evPos (by omega) (evNeg (by omega) ?_)
    have e1 : Int.tdiv ((i : Int) * 16384) (n : Int) = ((i * 16384 / n : Nat) : Int) := by
      rw [Int.tdiv_eq_ediv_of_nonneg (by omega)]
      simp
    have e2 : i * 16384 / n ≤ i * 16384 := Nat.div_le_self _ _
    rw [w64 (x := (i : Int) * 16384) (by omega) (by omega), e1]
    generalize hq : i * 16384 / n = q at *
    rw [w64 (x := (q : Int)) (by omega) (by omega), w64 (x := (q : Int) + 1) (by omega) (by omega), Int.tdiv_eq_ediv_of_nonneg (by omega), w64 (x := ((q : Int) + 1) / 2) (by omega) (by omega), w64 (x := (i : Int) + 1) (by omega) (by omega)]
    refine Ev.bind (ref_cos _) (evPos (by omega) (evPos (by simp; omega) ?_))
    have e4 : cosI (((q : Int) + 1) / 2) = tabAt n i := by unfold tabAt; rw [hq]
    rw [e4, List.replicate_succ, set_mid ((List.range i).map (tabAt n)) 0 (List.replicate r 0) _ i (by simp)]
    have h := ih (i + 1) (by omega)
    rw [List.range_succ, List.map_append] at h
    simpa using h
theorem rtab_ev (n : Nat) (h1 : 4 ≤ n) (h2 : n ≤ 480) : Ev (fun k => madrigalref10_table.f k (n : Int)) (tab15 n) := by
  refine Ev.congr (fun k => by rw [madrigalref10_table.f]) ?_
  rw [w64 (x := 8 * (n : Int)) (by omega) (by omega)]
  have e : (8 * (n : Int)).toNat = 8 * n := by omega
  rw [e]
  refine evPos (by omega) (evPos (by omega) ?_)
  have := rtab_l0 n h1 h2 (8 * n) 0 (by omega)
  simpa using this
theorem rinv_l2 (n l : Nat) (h : Good15 n l) (f : List Int) (hf : f.length = n) (out : List Int) (j : Nat) (hj : j < 2 * n) (ho : out.length ≤ 2 * n) {R : List Int}
    (hr : Ev (fun k => madrigalref10_Inverse.l1 k (n : Int) (shape15 n l) (tab15 n) (out ++ [invAt n l f j]) (invG f) ((j : Int) + 1)) R) (p st : Nat) (hp : p = (2 * j + 1 + n) % (8 * n)) (hst : st = 2 * (2 * j + 1 + n) % (8 * n)) :
    ∀ (r i : Nat), i + r = n → Ev (fun k => madrigalref10_Inverse.l2 k (n : Int) (shape15 n l) (tab15 n) out (invG f) (j : Int) (dot (invG f) (tab15 n) (8 * n) p st 0 i) (((p + i * st) % (8 * n) : Nat) : Int) (st : Int) (i : Int)) R := by
  obtain ⟨h1, h2, h3, h4, h5⟩ := id h
  have hb := dot_in (v := invG f) (t := tab15 n) (M := 8 * n) (p := p) (st := st) (s := 0) (A := 17179869184) (by omega) (invG_in f) (tab15_in n)
  have hgl : (invG f).length = n := by simp [invG, hf]
  intro r
  induction r with
  | zero =>
    intro i hi
    obtain rfl : i = n := by omega
    have hS := invS_in (n := i) (by omega) (by omega) f j
    have e : dot (invG f) (tab15 i) (8 * i) p st 0 i = invS i f j := by unfold invS; rw [hp, hst]
    refine Ev.step (fun k => by rw [madrigalref10_Inverse.l2]) (evNeg (by omega) ?_)
    rw [e, rd_nat, shape15_getD, if_pos hj]
    have hA : invAt i l f j = mul (shAt i l j) (clamp ((2 * invS i f j + 16384 * i) / (32768 * i)) (-16777216) 16777216) 15 := rfl
    generalize invS i f j = S at *
    rw [w64 (x := 2 * S) (by omega) (by omega), w64 (x := (i : Int) * 16384) (by omega) (by omega), w64 (x := 2 * S + (i : Int) * 16384) (by omega) (by omega), w64 (x := (i : Int) * 32768) (by omega) (by omega), w64 (x := (j : Int) + 1) (by omega) (by omega), ref_down (by omega) (by omega) (by omega), shape15_len]
    refine Ev.congr (fun k => by rw [Option.bind_some]) (Ev.bind (keep15 _) ?_)
    refine evPos (by omega) (evPos (by omega) (Ev.bind (ref_mul _ _ 15 (by omega) (by omega)) ?_))
    refine evPos (by omega) ?_
    rw [Int.mul_comm (i : Int) 16384, Int.mul_comm (i : Int) 32768, ← hA]
    exact hr
  | succ r ih =>
    intro i hi
    have hM : 0 < 8 * n := by omega
    have hst2 : st < 8 * n := by rw [hst]; exact Nat.mod_lt _ hM
    have hq := Nat.mod_lt (p + i * st) hM
    have hnm := next_mod (p := p) (i := i) hM hst2
    have hn := ih (i + 1) (by omega)
    rw [← hnm] at hn
    have b0 := hb i
    have b1 := hb (i + 1)
    have hm := mul_in (u := (invG f).getD i 0) (v := (tab15 n).getD ((p + i * st) % (8 * n)) 0) (A := 17179869184) (B := 32768) (by omega) (invG_in f i) (tab15_in n _) (by omega)
    have ed : dot (invG f) (tab15 n) (8 * n) p st 0 (i + 1) = dot (invG f) (tab15 n) (8 * n) p st 0 i + (invG f).getD i 0 * (tab15 n).getD ((p + i * st) % (8 * n)) 0 := rfl
    refine Ev.step (fun k => by rw [madrigalref10_Inverse.l2]) ?_
    rw [rd_nat, rd_nat]
    generalize hQ : (p + i * st) % (8 * n) = q at *
    generalize hD : dot (invG f) (tab15 n) (8 * n) p st 0 i = D at *
    generalize hE : dot (invG f) (tab15 n) (8 * n) p st 0 (i + 1) = E at *
    generalize hU : (invG f).getD i 0 * (tab15 n).getD q 0 = U at *
    rw [w64 (x := 8 * (n : Int)) (by omega) (by omega), w64 (x := U) (by omega) (by omega), w64 (x := D + U) (by omega) (by omega), w64 (x := (q : Int) + st) (by omega) (by omega), w64 (x := (i : Int) + 1) (by omega) (by omega), tab15_len, hgl, ← ed, w64 (x := (q : Int) + st - 8 * (n : Int)) (by omega) (by omega)]
    refine evPos (by omega) (evPos (by omega) (evPos (by omega) (evPos (by omega) (evPos (by omega) ?_))))
    have ei : ((i + 1 : Nat) : Int) = (i : Int) + 1 := by omega
    rw [ei] at hn
    refine evIte (fun hc => ?_) (fun hc => ?_)
    · rw [if_pos (by omega)] at hn
      have e : ((q + st - 8 * n : Nat) : Int) = (q : Int) + st - 8 * (n : Int) := by omega
      rw [e] at hn
      exact hn
    · rw [if_neg (by omega)] at hn
      have e : ((q + st : Nat) : Int) = (q : Int) + st := by omega
      rw [e] at hn
      exact hn
theorem rinv_l1 (n l : Nat) (h : Good15 n l) (f : List Int) (hf : f.length = n) : ∀ (r i : Nat), i + r = 2 * n → Ev (fun k => madrigalref10_Inverse.l1 k (n : Int) (shape15 n l) (tab15 n) ((List.range i).map (invAt n l f)) (invG f) (i : Int)) (inv15 n l f) := by
  obtain ⟨h1, h2, h3, h4, h5⟩ := id h
  intro r
  induction r with
  | zero =>
    intro i hi
    obtain rfl : i = 2 * n := by omega
    refine Ev.step (fun k => by rw [madrigalref10_Inverse.l1]) ?_
    rw [w64 (x := 2 * (n : Int)) (by omega) (by omega)]
    exact evNeg (by omega) (evConst rfl)
  | succ r ih =>
    intro i hi
    refine Ev.step (fun k => by rw [madrigalref10_Inverse.l1]) ?_
    rw [w64 (x := 2 * (n : Int)) (by omega) (by omega), w64 (x := 8 * (n : Int)) (by omega) (by omega), w64 (x := 2 * (i : Int)) (by omega) (by omega), w64 (x := 2 * (i : Int) + 1) (by omega) (by omega), w64 (x := 2 * (i : Int) + 1 + n) (by omega) (by omega), w64 (x := 2 * (2 * (i : Int) + 1 + n)) (by omega) (by omega)]
    have e1 : 2 * (i : Int) + 1 + (n : Int) = ((2 * i + 1 + n : Nat) : Int) := by omega
    have e2 : 2 * (2 * (i : Int) + 1 + n) = ((2 * (2 * i + 1 + n) : Nat) : Int) := by omega
    have e3 : 8 * (n : Int) = ((8 * n : Nat) : Int) := by omega
    rw [e2, e1, e3, Int.tmod_eq_emod_of_nonneg (Int.natCast_nonneg _), Int.tmod_eq_emod_of_nonneg (Int.natCast_nonneg _), ← Int.natCast_emod, ← Int.natCast_emod]
    refine evPos (by omega) (evNeg (by omega) ?_)
    have hr := ih (i + 1) (by omega)
    rw [List.range_succ, List.map_append] at hr
    have hs := rinv_l2 n l h f hf ((List.range i).map (invAt n l f)) i (by omega) (by simp; omega) (R := inv15 n l f) (by simpa using hr) _ _ rfl rfl n 0 (by omega)
    have e5 : dot (invG f) (tab15 n) (8 * n) ((2 * i + 1 + n) % (8 * n)) (2 * (2 * i + 1 + n) % (8 * n)) 0 0 = 0 := rfl
    simp only [e5, Nat.zero_mul, Nat.add_zero, Nat.mod_mod] at hs
    exact hs
theorem rinv_l0 (n l : Nat) (h : Good15 n l) (f : List Int) (hf : f.length = n) : ∀ (r : Nat) (S A : List Int), S.length = r → f = A ++ S →
    Ev (fun k => madrigalref10_Inverse.l0 k f (n : Int) (shape15 n l) (tab15 n) (A.map c34 ++ List.replicate r 0) (A.length : Int)) (inv15 n l f) := by
  obtain ⟨h1, h2, h3, h4, h5⟩ := id h
  intro r
  induction r with
  | zero =>
    intro S A hS he
    obtain rfl : S = [] := List.eq_nil_of_length_eq_zero hS
    have he : f = A := by simpa using he
    subst he
    refine Ev.step (fun k => by rw [madrigalref10_Inverse.l0]) (evNeg (by omega) ?_)
    have := rinv_l1 n l h f hf (2 * n) 0 (by omega)
    simpa [invG] using this
  | succ r ih =>
    intro S A hS he
    cases S with
    | nil => simp at hS
    | cons s S =>
      simp at hS
      have hlen : f.length = A.length + S.length + 1 := by rw [he]; simp; omega
      refine Ev.step (fun k => by rw [madrigalref10_Inverse.l0]) (evPos (by omega) (evPos (by omega) (evPos (by omega) ?_)))
      have e3 : rd f (A.length : Int) = s := by rw [he]; exact rd_mid _ _ _ _ rfl
      rw [e3, w64 (x := (A.length : Int) + 1) (by omega) (by omega)]
      refine Ev.bind (ref_clamp _ _ _) ?_
      refine evPos (by simp; omega) ?_
      have e4 : clamp s (-17179869184) 17179869184 = c34 s := rfl
      rw [e4, List.replicate_succ, set_mid (A.map c34) 0 (List.replicate r 0) _ (A.length : Int) (by simp)]
      have := ih S (A ++ [s]) (by omega) (by simpa using he)
      simpa using this
theorem rinv_ev (n l : Nat) (h : Good15 n l) (f : List Int) (hf : f.length = n) : Ev (fun k => madrigalref10_Inverse.f k f (l : Int)) (inv15 n l f) := by
  obtain ⟨h1, h2, h3, h4, h5⟩ := id h
  refine Ev.congr (fun k => by rw [madrigalref10_Inverse.f]) ?_
  rw [hf]
  refine Ev.bind (rshape_ev n l h) (Ev.bind (rtab_ev n (by omega) (by omega)) ?_)
  refine evPos (by omega) (evPos (by omega) ?_)
  rw [Int.toNat_natCast]
  have := rinv_l0 n l h f hf n f [] hf rfl
  simpa using this
end Go.Proofs.Ytlmacbiahofmcaa.Q
namespace Go.Proofs.Ytlmacbiahofmcaa.Q
open Go.RowKit Go.Proofs.Ytlmacbiahofmcaa.P Go.Proofs.YtlmacbiahofmcaaW.PrintWords Go.Proofs.YtlmacbiahofmcaaW.PrintLast Go.Proofs.YtlmacbiahofmcaaW.PrintMore
open Go.Proofs.Ytlmacbiahofmcaa.M
set_option linter.unusedVariables false
theorem eq15_l0 (n : Nat) : ∀ (S T A B : List Int) (m i : Int), S.length = n → T.length = S.length → B.length = A.length → i = A.length → m = ((A.length + S.length : Nat) : Int) → A.length + S.length ≤ 1000000000 →
    Ev (fun k => slices_Equal_int64_int64.l0 k (A ++ S) (B ++ T) m i) (decide (S = T)) := by
  induction n with
  | zero =>
    intro S T A B m i hn ht hb hi hm hl
    have e1 : S = [] := List.eq_nil_of_length_eq_zero hn
    subst e1
    have e2 : T = [] := List.eq_nil_of_length_eq_zero (by simpa using ht)
    subst e2
    simp at hm
    refine Ev.step (fun k => by rw [slices_Equal_int64_int64.l0]) ?_
    exact evNeg (by omega) (evConst (by simp))
  | succ n ih =>
    intro S T A B m i hn ht hb hi hm hl
    cases S with
    | nil => simp at hn
    | cons s S =>
      cases T with
      | nil => simp at ht
      | cons t T =>
        simp at hn ht hl hm
        refine Ev.step (fun k => by rw [slices_Equal_int64_int64.l0]) ?_
        refine evPos (by omega) (evPos (by omega) (evPos (by simp; omega) (evPos (by simp; omega) ?_)))
        rw [rd_mid _ _ _ _ hi, rd_mid B t T i (by omega), w64 (x := i + 1) (by omega) (by omega)]
        refine evIte (fun h => ?_) (fun h => evConst (by simp [h]))
        have h2 := ih S T (A ++ [s]) (B ++ [t]) m (i + 1) (by omega) (by omega) (by simp; omega) (by simp; omega) (by simp; omega) (by simp; omega)
        have e : decide (s :: S = t :: T) = decide (S = T) := by apply decide_eq_decide.2; simp [h]
        rw [e]
        simpa using h2
theorem eq15 (a b : List Int) (h : a.length ≤ 1000000000) : Ev (fun k => slices_Equal_int64_int64.f k a b) (decide (a = b)) := by
  refine Ev.congr (fun k => by rw [slices_Equal_int64_int64.f]) ?_
  refine evIte (fun h2 => ?_) (fun h2 => evConst ?_)
  · have := eq15_l0 a.length a b [] [] (a.length : Int) 0 rfl (by omega) rfl rfl (by simp) (by simpa using h)
    simpa using this
  · congr 1; symm; apply decide_eq_false; rintro rfl; exact h2 rfl
theorem joinsame15 (n l : Int) (a : List Int) (h : a.length ≤ 1000000000) : Ev (fun k => mdct_Joiner_Same.f k n l a n l a) true := by
  refine Ev.congr (fun k => by rw [mdct_Joiner_Same.f]) (evPos rfl (evPos rfl ?_))
  exact evEq (eq15 a a h) (by simp)
theorem new15 {n l : Nat} (h : Good15 n l) : mdct_New1.f (n : Int) (l : Int) = some ((n : Int), (l : Int), List.replicate n 0, 0) := by
  obtain ⟨h1, h2, h3, h4, h5⟩ := id h
  unfold mdct_New1.f
  rw [good15, decide_eq_true h]
  simp only [Option.bind_some, if_true]
  rw [if_pos (by omega), if_pos (by omega), Int.toNat_natCast]
theorem reset15 {n : Nat} (l : Int) (kept : List Int) (h : n ≤ 480) : mdct_Joiner_Reset.f (n : Int) l kept = some ((n : Int), l, List.replicate n 0) := by
  unfold mdct_Joiner_Reset.f
  rw [if_pos (by omega), if_pos (by omega), Int.toNat_natCast]
theorem copy15 (n l : Int) (kept : List Int) (h : kept.length ≤ 1000000000) : mdct_Joiner_Copy.f n l kept = some (n, l, kept) := by
  unfold mdct_Joiner_Copy.f slices_Clone_int64_int64.f
  rw [if_pos (by omega)]
  rfl
def In24 (z : List Int) : Prop := ∀ i, -16777216 ≤ z.getD i 0 ∧ z.getD i 0 ≤ 16777216
def nextAt (n l : Nat) (kept f : List Int) (k : Nat) : Int := clamp (kept.getD k 0 + invAt n l f k) (-16777216) 16777216
def next15 (n l : Nat) (kept f : List Int) : List Int := (List.range n).map (nextAt n l kept f)
theorem next15_len (n l : Nat) (kept f : List Int) : (next15 n l kept f).length = n := by simp [next15]
theorem inv15_in {n l : Nat} (h : Good15 n l) (f : List Int) : In24 (inv15 n l f) := by
  intro i
  unfold inv15
  rw [getD_map_range]
  split
  · exact invAt_in h f (by assumption)
  · omega
theorem getD_drop' (z : List Int) (n i : Nat) : (z.drop n).getD i 0 = z.getD (n + i) 0 := by
  rw [List.getD_eq_getElem?_getD, List.getD_eq_getElem?_getD, List.getElem?_drop]
theorem in24_drop {z : List Int} (h : In24 z) (n : Nat) : In24 (z.drop n) := by
  intro i
  rw [getD_drop']
  exact h _
theorem in24_zeros (n : Nat) : In24 (List.replicate n 0) := by
  intro i
  rw [List.getD_eq_getElem?_getD, List.getElem?_replicate]
  split <;> simp
theorem inv15_getD (n l : Nat) (f : List Int) (i : Nat) (hi : i < 2 * n) : (inv15 n l f).getD i 0 = invAt n l f i := by
  unfold inv15
  rw [getD_map_range, if_pos hi]
theorem next_l0 (n l : Nat) (h : Good15 n l) (f kept : List Int) (hk : kept.length = n) (hb : In24 kept) : ∀ (r i : Nat), i + r = n →
    Ev (fun k => mdct_Joiner_Next.l0 k (inv15 n l f) ((List.range i).map (nextAt n l kept f) ++ List.replicate r 0) (n : Int) (i : Int) (n : Int) (l : Int) kept) (next15 n l kept f, 0, (n : Int), (l : Int), (inv15 n l f).drop n) := by
  obtain ⟨h1, h2, h3, h4, h5⟩ := id h
  intro r
  induction r with
  | zero =>
    intro i hi
    obtain rfl : i = n := by omega
    refine Ev.step (fun k => by rw [mdct_Joiner_Next.l0]) ?_
    refine evNeg (by omega) (evPos (by omega) (evPos (by rw [inv15_len]; omega) (evConst ?_)))
    rw [Int.toNat_natCast]
    simp [next15]
  | succ r ih =>
    intro i hi
    refine Ev.step (fun k => by rw [mdct_Joiner_Next.l0]) ?_
    have b1 := hb i
    have b2 := invAt_in h f (j := i) (by omega)
    rw [rd_nat, rd_nat, inv15_getD n l f i (by omega), w64 (x := kept.getD i 0 + invAt n l f i) (by omega) (by omega), w64 (x := (i : Int) + 1) (by omega) (by omega)]
    refine evPos (by omega) (evPos (by omega) (evPos (by omega) (evPos (by rw [inv15_len]; omega) (Ev.bind (fix_clamp _ _ _) ?_))))
    refine evPos (by simp; omega) ?_
    have e4 : clamp (kept.getD i 0 + invAt n l f i) (-16777216) 16777216 = nextAt n l kept f i := rfl
    rw [e4, List.replicate_succ, set_mid ((List.range i).map (nextAt n l kept f)) 0 (List.replicate r 0) _ i (by simp)]
    have hr := ih (i + 1) (by omega)
    rw [List.range_succ, List.map_append] at hr
    simpa using hr
theorem next_ev (n l : Nat) (h : Good15 n l) (f kept : List Int) (hf : f.length = n) (hk : kept.length = n) (hb : In24 kept) :
    Ev (fun k => mdct_Joiner_Next.f k (n : Int) (l : Int) kept f) (next15 n l kept f, 0, (n : Int), (l : Int), (inv15 n l f).drop n) := by
  obtain ⟨h1, h2, h3, h4, h5⟩ := id h
  refine Ev.congr (fun k => by rw [mdct_Joiner_Next.f]) ?_
  refine evPos (by omega) (Ev.bind (inv_ev n l h f hf) (evPos rfl ?_))
  refine evPos (by omega) (evPos (by omega) ?_)
  refine Ev.congr (fun k => by rw [Option.bind_some]) ?_
  rw [Int.toNat_natCast]
  have := next_l0 n l h f kept hk hb n 0 (by omega)
  simpa using this
theorem next_bad (n l : Int) (f kept : List Int) (hf : ¬ (f.length : Int) = n) : Ev (fun k => mdct_Joiner_Next.f k n l kept f) ([], 1, n, l, kept) := by
  refine Ev.congr (fun k => by rw [mdct_Joiner_Next.f]) ?_
  exact evNeg hf (evConst rfl)
end Go.Proofs.Ytlmacbiahofmcaa.Q
namespace Go.Proofs.Ytlmacbiahofmcaa.Pure
open Go.RowKit Go.Proofs.Ytlmacbiahofmcaa.P Go.Proofs.YtlmacbiahofmcaaW.PrintWords Go.Proofs.YtlmacbiahofmcaaW.PrintLast Go.Proofs.YtlmacbiahofmcaaW.PrintMore Go.Proofs.Ytlmacbiahofmcaa.Q Go.Proofs.Ytlmacbiahofmcaa.M
set_option linter.unusedVariables false
theorem rnext_l0 (n l : Nat) (h : Good15 n l) (f kept : List Int) (hk : kept.length = n) (hb : In24 kept) : ∀ (r i : Nat), i + r = n →
    Ev (fun k => madrigalref10_Joiner_Next.l0 k (inv15 n l f) (n : Int) ((List.range i).map (nextAt n l kept f)) (i : Int) (l : Int) kept) (next15 n l kept f, (l : Int), (inv15 n l f).drop n) := by
  obtain ⟨h1, h2, h3, h4, h5⟩ := id h
  intro r
  induction r with
  | zero =>
    intro i hi
    obtain rfl : i = n := by omega
    refine Ev.step (fun k => by rw [madrigalref10_Joiner_Next.l0]) ?_
    refine evNeg (by omega) ?_
    refine Ev.congr (fun k => by rw [Option.bind_some]) ?_
    refine evPos (by omega) (evPos (by rw [inv15_len]; omega) ?_)
    refine Ev.congr (fun k => by rw [Option.bind_some]) ?_
    refine evPos (by rw [Int.toNat_natCast, List.length_drop, inv15_len]; simp; omega) (evConst ?_)
    rw [Int.toNat_natCast]
    rfl
  | succ r ih =>
    intro i hi
    refine Ev.step (fun k => by rw [madrigalref10_Joiner_Next.l0]) ?_
    have b1 := hb i
    have b2 := invAt_in h f (j := i) (by omega)
    rw [rd_nat, rd_nat, inv15_getD n l f i (by omega), w64 (x := kept.getD i 0 + invAt n l f i) (by omega) (by omega), w64 (x := (i : Int) + 1) (by omega) (by omega)]
    refine evPos (by omega) (evPos (by omega) (evPos (by omega) (evPos (by rw [inv15_len]; omega) (Ev.bind (keep15 _) ?_))))
    refine evPos (by simp; omega) ?_
    have hr := ih (i + 1) (by omega)
    rw [List.range_succ, List.map_append] at hr
    simpa [nextAt] using hr
theorem rnext_ev (n l : Nat) (h : Good15 n l) (f kept : List Int) (hf : f.length = n) (hk : kept.length = n) (hb : In24 kept) :
    Ev (fun k => madrigalref10_Joiner_Next.f k (l : Int) kept f) (next15 n l kept f, (l : Int), (inv15 n l f).drop n) := by
  refine Ev.congr (fun k => by rw [madrigalref10_Joiner_Next.f]) (Ev.bind (rinv_ev n l h f hf) ?_)
  rw [hk]
  have := rnext_l0 n l h f kept hk hb n 0 (by omega)
  simpa using this
theorem joins_l0 (n l : Nat) (h : Good15 n l) (bs : List (List Int)) (hbs : bs.length ≤ 6) : ∀ (r i : Nat) (kept : List Int), i + r = bs.length → kept.length = n → In24 kept →
    Ev (fun k => madrigallaw15_MdctJoins.l0 k (n : Int) (l : Int) bs (i : Int) (n : Int) (l : Int) kept (l : Int) kept) true := by
  obtain ⟨h1, h2, h3, h4, h5⟩ := id h
  intro r
  induction r with
  | zero =>
    intro i kept hi hk hb
    refine Ev.step (fun k => by rw [madrigallaw15_MdctJoins.l0]) (evNeg (by omega) ?_)
    rw [reset15 _ _ (by omega), new15 h]
    simp only [Option.bind_some]
    refine evPos (by rw [good15, decide_eq_true h]) ?_
    exact Ev.bind (joinsame15 _ _ _ (by simp; omega)) (evConst rfl)
  | succ r ih =>
    intro i kept hi hk hb
    refine Ev.step (fun k => by rw [madrigallaw15_MdctJoins.l0]) (evPos (by omega) ?_)
    rw [copy15 _ _ _ (by omega), w64 (x := (i : Int) + 1) (by omega) (by omega)]
    refine Ev.congr (fun k => by rw [Option.bind_some]) (evPos (by omega) ?_)
    have ei : (i : Int) + 1 = ((i + 1 : Nat) : Int) := by omega
    rw [ei]
    generalize rd_L1 bs (i : Int) = f
    by_cases hf : f.length = n
    · refine Ev.bind (next_ev n l h f kept hf hk hb) (evPos (by omega) (evPos rfl (Ev.bind (rnext_ev n l h f kept hf hk hb) ?_)))
      refine Ev.bind (same15 _ _ (by rw [next15_len]; omega)) (evPos (by simp) ?_)
      exact ih (i + 1) _ (by omega) (by rw [List.length_drop, inv15_len]; omega) (in24_drop (inv15_in h f) n)
    · refine Ev.bind (next_bad _ _ f kept (by omega)) ?_
      refine evNeg (by omega) (evPos rfl (evPos rfl (Ev.bind (joinsame15 _ _ kept (by omega)) (evPos rfl ?_))))
      exact ih (i + 1) kept (by omega) hk hb
theorem MdctJoins : madrigallaw15_MdctJoins.Pure := by
  intro n l bs
  intros
  have hyes : Ev (fun k => madrigallaw15_MdctJoins.j0 k n l bs true) true := Ev.step (fun k => by rw [madrigallaw15_MdctJoins.j0]) (evPos rfl (evConst rfl))
  refine Ev.rounds (Ev.congr (fun k => by rw [madrigallaw15_MdctJoins.f]) (Ev.bind awakeEv15 (evPos rfl ?_)))
  refine evIte (fun _ => hyes) (fun h160 => ?_)
  by_cases h6 : (bs.length : Int) > 6
  · rw [decide_eq_true h6]; exact hyes
  rw [decide_eq_false h6]
  refine Ev.step (fun k => by rw [madrigallaw15_MdctJoins.j0]) (evNeg (by simp) ?_)
  by_cases hg : Good15 n l
  · obtain ⟨h1, h2, h3, h4, h5⟩ := id hg
    obtain ⟨a, rfl⟩ : ∃ a : Nat, n = a := ⟨n.toNat, by omega⟩
    obtain ⟨b, rfl⟩ : ∃ b : Nat, l = b := ⟨l.toNat, by omega⟩
    refine evPos (by rw [good15, decide_eq_true hg]) ?_
    rw [new15 hg]
    refine Ev.congr (fun k => by rw [Option.bind_some]) (Ev.bind (evConst (goodref15 _ _)) (evPos (decide_eq_true hg) ?_))
    have e : madrigalref10_NewJoiner.f (a : Int) (b : Int) = some ((b : Int), List.replicate a 0) := by
      unfold madrigalref10_NewJoiner.f
      rw [if_pos (by omega), if_pos (by omega), Int.toNat_natCast]
    rw [e]
    refine Ev.congr (fun k => by rw [Option.bind_some]) ?_
    exact joins_l0 a b hg bs (by omega) bs.length 0 (List.replicate a 0) (by omega) (by simp) (in24_zeros a)
  · refine evNeg (by rw [good15]; simp [hg]) ?_
    have e : mdct_New0.f n l = some 1 := by
      unfold mdct_New0.f
      rw [good15]
      simp [hg]
    rw [e]
    refine Ev.congr (fun k => by rw [Option.bind_some]) (Ev.bind (evConst (goodref15 _ _)) ?_)
    exact evNeg (by simp [hg]) (evConst rfl)
end Go.Proofs.Ytlmacbiahofmcaa.Pure
