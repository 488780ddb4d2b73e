/- Every table is what the document says, for any numbers: without conditions. -/
import Derived.Test.YtkhcckemcamcbaaPx31
import Derived.Test.YtkhcckemcamcbaaWMore
import Derived.Test.YtkhcckemcamcbaaWLast
import Derived.Test.YtkhcckemcamcbaaPx9
import Derived.Test.YtkhcckemcamcbaaPx10
import Derived.Laws.BitsLemmas
import Derived.KernelRfl
import Derived.Test.YtkhcckemcamcbaaPx13
import Derived.Test.YtkhcckemcamcbaaPx14
import Derived.Test.YtkhcckemcamcbaaPx23
import Derived.Test.YtkhcckemcamcbaaPx24
import Derived.Test.YtkhcckemcamcbaaPx27
import Derived.Test.YtkhcckemcamcbaaPx28
import Derived.Test.YtkhcckemcamcbaaPx22
import Derived.Test.YtkhcckemcamcbaaPx16
namespace Go.Proofs.Ytkhcckemcamcbaa.Q
open Go.RowKit Go.Proofs.YtkhcckemcamcbaaW.PrintWords Go.Proofs.YtkhcckemcamcbaaW.PrintLast Go.Proofs.YtkhcckemcamcbaaW.PrintMore
set_option linter.unusedVariables false

theorem evPos {α : Type} {c : Prop} [Decidable c] {A B : Nat → Option α} {r : α} (h : c) (hA : Ev A r) : Ev (fun k => if c then A k else B k) r := by
  obtain ⟨K, hA⟩ := hA
  exact ⟨K, fun k hk => by simp only [if_pos h]; exact hA k hk⟩
theorem evNeg {α : Type} {c : Prop} [Decidable c] {A B : Nat → Option α} {r : α} (h : ¬ c) (hB : Ev B r) : Ev (fun k => if c then A k else B k) r := by
  obtain ⟨K, hB⟩ := hB
  exact ⟨K, fun k hk => by simp only [if_neg h]; exact hB k hk⟩
theorem evIte {α : Type} {c : Prop} [Decidable c] {A B : Nat → Option α} {r : α} (hA : c → Ev A r) (hB : ¬ c → Ev B r) : Ev (fun k => if c then A k else B k) r := by
  by_cases h : c
  · exact evPos h (hA h)
  · exact evNeg h (hB h)
theorem evConst {α : Type} {r : α} {o : Option α} (h : o = some r) : Ev (fun _ => o) r := ⟨0, fun _ _ => h⟩
theorem evEq {α : Type} {g : Nat → Option α} {r r' : α} (h : Ev g r) (e : r = r') : Ev g r' := e ▸ h
theorem w64 {x : Int} (h1 : -9223372036854775808 ≤ x) (h2 : x ≤ 9223372036854775807) : wrap64 x = x := by
  unfold wrap64; omega
theorem rd_mem {l : List Int} {i : Int} (h0 : 0 ≤ i) (h1 : i < l.length) : rd l i ∈ l := by
  unfold rd
  have h : i.toNat < l.length := by omega
  rw [List.getD_eq_getElem?_getD, List.getElem?_eq_getElem h]
  exact List.getElem_mem h
theorem rd_nat (l : List Int) (n : Nat) : rd l (n : Int) = l.getD n 0 := by
  unfold rd; simp
theorem rd_mid (A : List Int) (c : Int) (B : List Int) (i : Int) (h : i = A.length) : rd (A ++ c :: B) i = c := by
  subst h
  unfold rd
  rw [List.getD_eq_getElem?_getD, Int.toNat_natCast, List.getElem?_append_right (Nat.le_refl _)]
  simp
theorem set_mid (A : List Int) (c : Int) (B : List Int) (v i : Int) (h : i = A.length) : (A ++ c :: B).set i.toNat v = A ++ v :: B := by
  subst h
  rw [Int.toNat_natCast, List.set_append_right _ _ (Nat.le_refl _)]
  simp
theorem rd_at {l : List Int} {i : Nat} (h : i < l.length) : rd l (i : Int) = l[i] := by
  unfold rd
  rw [List.getD_eq_getElem?_getD, Int.toNat_natCast, List.getElem?_eq_getElem h]
  rfl
theorem rd_in {l : List Int} {i : Int} (h0 : 0 ≤ i) (h : i.toNat < l.length) : rd l i = l[i.toNat] := by
  unfold rd
  rw [List.getD_eq_getElem?_getD, List.getElem?_eq_getElem h]
  rfl
end Go.Proofs.Ytkhcckemcamcbaa.Q
namespace Go.Proofs.Ytkhcckemcamcbaa.M
set_option linter.unusedVariables false
/-- Numbers brought between two others. -/
def clamp (a lo hi : Int) : Int := if lo > hi ∨ a < lo then lo else if a > hi then hi else a
theorem clamp_bounds {a lo hi : Int} (h : lo ≤ hi) : lo ≤ clamp a lo hi ∧ clamp a lo hi ≤ hi := by
  unfold clamp; repeat' split
  all_goals omega
theorem clamp_id {a lo hi : Int} (h1 : lo ≤ a) (h2 : a ≤ hi) : clamp a lo hi = a := by
  unfold clamp; repeat' split
  all_goals omega
/-- A number brought into 16 bits. -/
def sat (a : Int) : Int := clamp a (-32768) 32767
theorem sat_bounds (a : Int) : -32768 ≤ sat a ∧ sat a ≤ 32767 := clamp_bounds (by omega)
/-- How many bits a number has. -/
def bl (a : Int) : Int := if a ≤ 0 then 0 else (Nat.log2 a.toNat : Int) + 1
theorem bl_pos {a : Int} (h : 1 ≤ a) : bl a = (Nat.log2 a.toNat : Int) + 1 := by unfold bl; rw [if_neg (by omega)]
theorem bl_lo {a : Int} (h : 1 ≤ a) : (2 : Int) ^ (bl a - 1).toNat ≤ a := by
  rw [bl_pos h]
  have h1 : 2 ^ Nat.log2 a.toNat ≤ a.toNat := Nat.log2_self_le (by omega)
  have e : ((Nat.log2 a.toNat : Int) + 1 - 1).toNat = Nat.log2 a.toNat := by omega
  rw [e]
  have h2 : ((2 ^ Nat.log2 a.toNat : Nat) : Int) ≤ (a.toNat : Int) := by exact_mod_cast h1
  rw [Int.toNat_of_nonneg (by omega)] at h2
  simpa using h2
theorem bl_hi {a : Int} (h : 1 ≤ a) : a < (2 : Int) ^ (bl a).toNat := by
  rw [bl_pos h]
  have h1 : a.toNat < 2 ^ (Nat.log2 a.toNat + 1) := Nat.lt_log2_self
  have e : ((Nat.log2 a.toNat : Int) + 1).toNat = Nat.log2 a.toNat + 1 := by omega
  rw [e]
  have h2 : (a.toNat : Int) < ((2 ^ (Nat.log2 a.toNat + 1) : Nat) : Int) := by exact_mod_cast h1
  rw [Int.toNat_of_nonneg (by omega)] at h2
  simpa using h2
theorem bl_ge {a : Int} (h : 1 ≤ a) : 1 ≤ bl a := by rw [bl_pos h]; omega
theorem bl_unique {a : Int} {n : Nat} (h1 : (2 : Int) ^ n ≤ a) (h2 : a < (2 : Int) ^ (n + 1)) : bl a = n + 1 := by
  have hp : (0 : Int) < (2 : Int) ^ n := Int.pow_pos (by omega)
  have h : 1 ≤ a := by omega
  rw [bl_pos h]
  have e1 : 2 ^ n ≤ a.toNat := by
    have : ((2 ^ n : Nat) : Int) ≤ (a.toNat : Int) := by rw [Int.toNat_of_nonneg (by omega)]; simpa using h1
    exact_mod_cast this
  have e2 : a.toNat < 2 ^ (n + 1) := by
    have : (a.toNat : Int) < ((2 ^ (n + 1) : Nat) : Int) := by rw [Int.toNat_of_nonneg (by omega)]; simpa using h2
    exact_mod_cast this
  have hn : a.toNat ≠ 0 := by omega
  have f1 : n ≤ Nat.log2 a.toNat := (Nat.le_log2 hn).2 e1
  have f2 : Nat.log2 a.toNat < n + 1 := (Nat.log2_lt hn).2 e2
  omega
end Go.Proofs.Ytkhcckemcamcbaa.M
namespace Go.Proofs.Ytkhcckemcamcbaa.Q
open Go.RowKit Go.Proofs.Ytkhcckemcamcbaa.P Go.Proofs.YtkhcckemcamcbaaW.PrintWords Go.Proofs.YtkhcckemcamcbaaW.PrintLast Go.Proofs.YtkhcckemcamcbaaW.PrintMore
open Go.Proofs.Ytkhcckemcamcbaa.M
set_option linter.unusedVariables false

theorem fix_clamp (a lo hi : Int) : Ev (fun k => fix_Clamp.f k a lo hi) (clamp a lo hi) := by
  have hj : ∀ b, Ev (fun k => fix_Clamp.j0 k a lo hi b) (if b = true then lo else if a > hi then hi else a) := by
    intro b
    refine Ev.step (fun k => by rw [fix_Clamp.j0]) ?_
    refine evConst ?_
    cases b <;> simp <;> split <;> rfl
  refine Ev.congr (fun k => by rw [fix_Clamp.f]) ?_
  refine evIte (fun h => ?_) (fun h => ?_)
  · exact evEq (hj true) (by unfold clamp; simp [h])
  · exact evEq (hj _) (by unfold clamp; simp [h])
end Go.Proofs.Ytkhcckemcamcbaa.Q
namespace Go.Proofs.Ytkhcckemcamcbaa.M
set_option linter.unusedVariables false
/-- A factor, in its bounds. -/
def fac (a : Int) : Int := clamp a (-2147483648) 2147483648
theorem fac_bounds (a : Int) : -2147483648 ≤ fac a ∧ fac a ≤ 2147483648 := clamp_bounds (by omega)
theorem fac_id {a : Int} (h1 : -2147483648 ≤ a) (h2 : a ≤ 2147483648) : fac a = a := clamp_id h1 h2
/-- A product, divided by a power of two, rounded. -/
def mul (a b s : Int) : Int := if s = 0 then fac a * fac b else if s < 0 then 0 else if s > 62 then 0 else (fac a * fac b + 2 ^ (s - 1).toNat) / 2 ^ s.toNat
theorem prod_le {x y : Int} {a b : Nat} (hx : x.natAbs ≤ a) (hy : y.natAbs ≤ b) : -((a * b : Nat) : Int) ≤ x * y ∧ x * y ≤ ((a * b : Nat) : Int) := by
  have h : (x * y).natAbs ≤ a * b := by rw [Int.natAbs_mul]; exact Nat.mul_le_mul hx hy
  omega
theorem fac_prod (a b : Int) : -4611686018427387904 ≤ fac a * fac b ∧ fac a * fac b ≤ 4611686018427387904 := by
  have h1 := fac_bounds a
  have h2 := fac_bounds b
  have h := prod_le (x := fac a) (y := fac b) (a := 2147483648) (b := 2147483648) (by omega) (by omega)
  omega
theorem pow_most {n m : Nat} (h : n ≤ m) : (2 : Int) ^ n ≤ 2 ^ m := by
  have hn : (2 : Nat) ^ n ≤ 2 ^ m := Nat.pow_le_pow_right (by omega) h
  exact_mod_cast hn
theorem pow_61 {n : Nat} (h : n ≤ 61) : (1 : Int) ≤ 2 ^ n ∧ (2 : Int) ^ n ≤ 2305843009213693952 :=
  ⟨by have h1 : (0 : Int) < 2 ^ n := Int.pow_pos (by omega)
      omega, by have := pow_most h; simpa using this⟩
theorem pow_next (n : Nat) : (2 : Int) ^ (n + 1) = 2 * 2 ^ n := by rw [Int.pow_succ]; omega
theorem fac_mono {a b : Int} (h : a ≤ b) : fac a ≤ fac b := by
  unfold fac clamp; repeat' split
  all_goals omega
theorem mul_mono {a b c s : Int} (h : a ≤ b) (hc : 0 ≤ c) : mul a c s ≤ mul b c s := by
  have h0 : 0 ≤ fac c := by
    unfold fac clamp; repeat' split
    all_goals omega
  have hf : fac a * fac c ≤ fac b * fac c := Int.mul_le_mul_of_nonneg_right (fac_mono h) h0
  unfold mul; split
  · exact hf
  · split
    · exact Int.le_refl _
    · split
      · exact Int.le_refl _
      · exact Int.ediv_le_ediv (Int.pow_pos (by omega)) (by omega)
end Go.Proofs.Ytkhcckemcamcbaa.M
namespace Go.Proofs.Ytkhcckemcamcbaa.Q
open Go.RowKit Go.Proofs.Ytkhcckemcamcbaa.P Go.Proofs.YtkhcckemcamcbaaW.PrintWords Go.Proofs.YtkhcckemcamcbaaW.PrintLast Go.Proofs.YtkhcckemcamcbaaW.PrintMore
open Go.Proofs.Ytkhcckemcamcbaa.M
set_option linter.unusedVariables false

theorem fix_factor (a : Int) : Ev (fun k => fix_factor.f k a) (fac a) := by
  refine Ev.congr (fun k => by rw [fix_factor.f]) ?_
  exact Ev.bind (fix_clamp a _ _) (Ev.now _)
theorem shl1_64 {s : Int} (h0 : 0 ≤ s) (h1 : s ≤ 61) : shl .i64 1 s = 2 ^ s.toNat := by
  have hp := pow_61 (n := s.toNat) (by omega)
  unfold shl
  rw [show IntKind.i64.bits = 64 from rfl, Nat.min_eq_left (by omega), Int.one_mul, i64_w]
  exact w64 (by omega) (by omega)
theorem shr_64 {x s : Int} (h1 : s ≤ 64) : shr .i64 x s = x / 2 ^ s.toNat := by
  unfold shr
  rw [show IntKind.i64.bits = 64 from rfl, Nat.min_eq_left (by omega)]
theorem fix_mul (a b s : Int) (hs0 : -9223372036854775808 ≤ s) (hs1 : s ≤ 9223372036854775807) : Ev (fun k => fix_Mul.f k a b s) (mul a b s) := by
  have hp := fac_prod a b
  refine Ev.congr (fun k => by rw [fix_Mul.f]) (Ev.bind (fix_factor a) (Ev.bind (fix_factor b) ?_))
  unfold mul
  rw [w64 (x := fac a * fac b) (by omega) (by omega)]
  refine evIte (fun h => ?_) (fun h => ?_)
  · rw [if_pos h]; exact Ev.now _
  · rw [if_neg h]
    refine evIte (fun h2 => ?_) (fun h2 => ?_)
    · rw [if_pos h2]; exact Ev.now _
    · rw [if_neg h2]
      refine evIte (fun h3 => ?_) (fun h3 => ?_)
      · rw [if_pos h3]; exact Ev.now _
      · rw [if_neg h3, w64 (x := s - 1) (by omega) (by omega), shl1_64 (by omega) (by omega)]
        have hp2 := pow_61 (n := (s - 1).toNat) (by omega)
        rw [w64 (x := fac a * fac b + _) (by omega) (by omega), shr_64 (by omega)]
        exact evPos (by omega) (evPos (by omega) (Ev.now _))
end Go.Proofs.Ytkhcckemcamcbaa.Q
namespace Go.Proofs.Ytkhcckemcamcbaa.Q
open Go.RowKit
set_option linter.unusedVariables false

theorem bits_low (a : Int) (i : Nat) (hi : i ≤ 62) : Go.bits .and .i64 a (2 ^ i - 1) = a % 2 ^ i := by
  have hp : (0 : Int) < 2 ^ i := Int.pow_pos (by omega)
  have hpn : 0 < 2 ^ i := Nat.two_pow_pos i
  have hc : ((2 : Int) ^ i - 1) = ((2 ^ i - 1 : Nat) : Int) := by rw [Int.natCast_sub hpn]; simp
  have hle : (2 : Nat) ^ i ≤ 2 ^ 62 := Nat.pow_le_pow_right (by omega) hi
  unfold Go.bits
  rw [hc]
  have hb : (BitVec.ofInt 64 ((2 ^ i - 1 : Nat) : Int)).toNat = 2 ^ i - 1 := by
    rw [BitVec.ofInt_natCast, BitVec.toNat_ofNat]
    exact Nat.mod_eq_of_lt (by omega)
  have ha : (BitVec.ofInt 64 a).toNat = (a % 2 ^ 64).toNat := by rw [BitVec.toNat_ofInt]; rfl
  have hand : (BitVec.ofInt 64 a &&& BitVec.ofInt 64 ((2 ^ i - 1 : Nat) : Int)).toNat = (a % 2 ^ i).toNat := by
    rw [BitVec.toNat_and, hb, ha, Nat.and_two_pow_sub_one_eq_mod]
    have hd : (2 : Int) ^ i ∣ 2 ^ 64 := by
      refine ⟨2 ^ (64 - i), ?_⟩
      rw [← Int.pow_add]
      congr 1
      omega
    have h1 : (((a % 2 ^ 64).toNat % 2 ^ i : Nat) : Int) = a % 2 ^ i := by
      rw [Int.natCast_emod, Int.toNat_of_nonneg (Int.emod_nonneg _ (by decide))]
      have : ((2 ^ i : Nat) : Int) = (2 : Int) ^ i := by simp
      rw [this, Int.emod_emod_of_dvd _ hd]
    omega
  show IntKind.i64.wrap ((BitVec.ofInt 64 a &&& BitVec.ofInt 64 ((2 ^ i - 1 : Nat) : Int)).toNat : Int) = a % 2 ^ i
  rw [hand, Int.toNat_of_nonneg (Int.emod_nonneg _ (by omega)), IntKind.wrap_i64]
  have h1 := Int.emod_nonneg a (show (2 : Int) ^ i ≠ 0 by omega)
  have h2 := Int.emod_lt_of_pos a hp
  have h3 : (2 : Int) ^ i ≤ 2 ^ 62 := by exact_mod_cast hle
  have h4 : (2 : Int) ^ 62 = 4611686018427387904 := by decide
  omega
theorem bits_255 (a : Int) : Go.bits .and .i64 a 255 = a % 256 := bits_low a 8 (by omega)
theorem bits_1 (a : Int) : Go.bits .and .i64 a 1 = a % 2 := bits_low a 1 (by omega)
theorem bits_65535 (a : Int) : Go.bits .and .i64 a 65535 = a % 65536 := bits_low a 16 (by omega)
theorem bits_7 (a : Int) : Go.bits .and .i64 a 7 = a % 8 := bits_low a 3 (by omega)
theorem bits_8191 (a : Int) : Go.bits .and .i64 a 8191 = a % 8192 := bits_low a 13 (by omega)
end Go.Proofs.Ytkhcckemcamcbaa.Q
namespace Go.Proofs.Ytkhcckemcamcbaa.M
set_option linter.unusedVariables false
/-- A polynomial's value. -/
def ser (z s : Int) (l : List Int) : Int := l.foldl (fun s c => c + mul z s 30) s
/-- A cosine of a quarter's 16384ths. -/
def qr (x : Int) : Int :=
  if x ≤ 8192 then mul (ser (mul (mul x 1686629713 14) (mul x 1686629713 14) 30) (-296) [26631, -1491308, 44739243, -536870912, 1073741824]) 1 15
  else mul (mul (mul (16384 - x) 1686629713 14) (ser (mul (mul (16384 - x) 1686629713 14) (mul (16384 - x) 1686629713 14) 30) 2959 [-213044, 8947849, -178956971, 1073741824]) 30) 1 15
def fold (a : Int) : Int := if a % 65536 > 32768 then 65536 - a % 65536 else a % 65536
def cosI (a : Int) : Int := if fold a > 16384 then -qr (32768 - fold a) else qr (fold a)
theorem mul30 (a b : Int) : mul a b 30 = (fac a * fac b + 536870912) / 1073741824 := by
  unfold mul; rw [if_neg (by omega), if_neg (by omega), if_neg (by omega)]; rfl
theorem mul30_bounds (a b : Int) : -4294967297 ≤ mul a b 30 ∧ mul a b 30 ≤ 4294967297 := by
  have h := fac_prod a b
  rw [mul30]; omega
theorem mul15_bounds (a b : Int) : -140737488355330 ≤ mul a b 15 ∧ mul a b 15 ≤ 140737488355330 := by
  have h := fac_prod a b
  have e : mul a b 15 = (fac a * fac b + 16384) / 32768 := by
    unfold mul; rw [if_neg (by omega), if_neg (by omega), if_neg (by omega)]; rfl
  rw [e]; omega
theorem qr_small (x : Int) : -140737488355330 ≤ qr x ∧ qr x ≤ 140737488355330 := by
  unfold qr; split
  · exact mul15_bounds _ _
  · exact mul15_bounds _ _
/-- Does it hold of all below? -/
def all (p : Nat → Bool) : Nat → Bool
  | 0 => true
  | n + 1 => cond (p n) (all p n) false
theorem all_at {p : Nat → Bool} : ∀ {n : Nat}, all p n = true → ∀ i, i < n → p i = true
  | 0, _, i, hi => by omega
  | n + 1, h, i, hi => by
    unfold all at h
    cases hp : p n with
    | false => rw [hp] at h; simp at h
    | true =>
      rw [hp] at h
      by_cases e : i = n
      · rw [e]; exact hp
      · exact all_at (by simpa using h) i (by omega)
def okN (c s : Int) : Bool := match c, s with
  | .ofNat c, .ofNat s => Nat.ble c 32768 && Nat.ble s 32768 && Nat.ble (c * c + s * s) 1074003968 && Nat.ble 1073479680 (c * c + s * s)
  | _, _ => false
theorem okN_is {c s : Int} (h : okN c s = true) : 0 ≤ c ∧ c ≤ 32768 ∧ 0 ≤ s ∧ s ≤ 32768 ∧ c * c + s * s ≤ 1074003968 ∧ 1073479680 ≤ c * c + s * s := by
  unfold okN at h
  split at h
  · rename_i a b
    simp only [Bool.and_eq_true] at h
    have h1 := Nat.le_of_ble_eq_true h.1.1.1
    have h2 := Nat.le_of_ble_eq_true h.1.1.2
    have h3 := Nat.le_of_ble_eq_true h.1.2
    have h4 := Nat.le_of_ble_eq_true h.2
    have e : (Int.ofNat a * Int.ofNat a + Int.ofNat b * Int.ofNat b) = ((a * a + b * b : Nat) : Int) := rfl
    rw [e]
    refine ⟨Int.natCast_nonneg _, ?_, Int.natCast_nonneg _, ?_, ?_, ?_⟩
    · show ((a : Nat) : Int) ≤ _; omega
    · show ((b : Nat) : Int) ≤ _; omega
    · omega
    · omega
  · simp at h
end Go.Proofs.Ytkhcckemcamcbaa.M
namespace Go.Proofs.Ytkhcckemcamcbaa.Q
open Go.RowKit Go.Proofs.Ytkhcckemcamcbaa.P Go.Proofs.YtkhcckemcamcbaaW.PrintWords Go.Proofs.YtkhcckemcamcbaaW.PrintLast Go.Proofs.YtkhcckemcamcbaaW.PrintMore
open Go.Proofs.Ytkhcckemcamcbaa.M
set_option linter.unusedVariables false

theorem series_l0 (z : Int) (n : Nat) : ∀ (S A : List Int) (s i m : Int), S.length = n → i = A.length → m = ((A.length + S.length : Nat) : Int) → m ≤ 1000 → (∀ c ∈ S, -2147483648 ≤ c ∧ c ≤ 2147483648) →
    Ev (fun k => fix_series.l0 k z s (A ++ S) m i) (ser z s S) := by
  induction n with
  | zero =>
    intro S A s i m hn hi hm hl hS
    have e1 : S = [] := List.eq_nil_of_length_eq_zero hn
    subst e1
    refine Ev.step (fun k => by rw [fix_series.l0]) ?_
    exact evNeg (by simp at hm; omega) (Ev.now _)
  | succ n ih =>
    intro S A s i m hn hi hm hl hS
    cases S with
    | nil => simp at hn
    | cons c S =>
      simp at hn hm
      have hc := hS c (by simp)
      have hb := mul30_bounds z s
      refine Ev.step (fun k => by rw [fix_series.l0]) ?_
      refine evPos (by omega) (evPos (by omega) (evPos (by simp; omega) ?_))
      refine Ev.bind (fix_mul z s 30 (by omega) (by omega)) ?_
      rw [rd_mid _ _ _ _ hi, w64 (x := i + 1) (by omega) (by omega), w64 (x := c + _) (by omega) (by omega)]
      have h := ih S (A ++ [c]) (c + mul z s 30) (i + 1) m (by omega) (by simp; omega) (by simp; omega) hl (fun y hy => hS y (by simp [hy]))
      simpa [ser] using h
theorem fix_ser (z s : Int) (l : List Int) (hl : l.length ≤ 100) (h : ∀ c ∈ l, -2147483648 ≤ c ∧ c ≤ 2147483648) : Ev (fun k => fix_series.f k z (s :: l)) (ser z s l) := by
  refine Ev.congr (fun k => by rw [fix_series.f]) ?_
  refine evPos (by simp only [List.length_cons]; omega) (evPos (by simp only [List.length_cons]; omega) (Ev.bind (Ev.now _) ?_))
  have h2 := series_l0 z l.length l [] s 0 l.length rfl rfl (by simp) (by omega) h
  exact h2
theorem cos_j1 (x : Int) (hx : 0 ≤ x ∧ x ≤ 16384) (b : Bool) : Ev (fun k => fix_Cos.j1 k x b) (if b = true then -qr x else qr x) := by
  have hq := qr_small x
  refine Ev.step (fun k => by rw [fix_Cos.j1]) ?_
  by_cases h : x ≤ 8192
  · refine evPos h (Ev.bind (fix_mul _ _ _ (by omega) (by omega)) (Ev.bind (fix_mul _ _ _ (by omega) (by omega)) (Ev.bind (fix_ser _ _ _ (by decide) (by decide)) (Ev.bind (fix_mul _ _ _ (by omega) (by omega)) ?_))))
    have e : mul (ser (mul (mul x 1686629713 14) (mul x 1686629713 14) 30) (-296) [26631, -1491308, 44739243, -536870912, 1073741824]) 1 15 = qr x := by unfold qr; rw [if_pos h]
    rw [e, w64 (x := -qr x) (by omega) (by omega)]
    refine evIte (fun hb => ?_) (fun hb => ?_)
    · rw [if_pos hb]; exact Ev.now _
    · rw [if_neg hb]; exact Ev.now _
  · refine evNeg h ?_
    rw [w64 (x := 16384 - x) (by omega) (by omega)]
    refine Ev.bind (fix_mul _ _ _ (by omega) (by omega)) (Ev.bind (fix_mul _ _ _ (by omega) (by omega)) (Ev.bind (fix_ser _ _ _ (by decide) (by decide)) (Ev.bind (fix_mul _ _ _ (by omega) (by omega)) (Ev.bind (fix_mul _ _ _ (by omega) (by omega)) ?_))))
    have e : mul (mul (mul (16384 - x) 1686629713 14) (ser (mul (mul (16384 - x) 1686629713 14) (mul (16384 - x) 1686629713 14) 30) 2959 [-213044, 8947849, -178956971, 1073741824]) 30) 1 15 = qr x := by unfold qr; rw [if_neg h]
    rw [e, w64 (x := -qr x) (by omega) (by omega)]
    refine evIte (fun hb => ?_) (fun hb => ?_)
    · rw [if_pos hb]; exact Ev.now _
    · rw [if_neg hb]; exact Ev.now _
theorem fix_cos (a : Int) : Ev (fun k => fix_Cos.f k a) (cosI a) := by
  have hj : ∀ x, 0 ≤ x → x ≤ 32768 → x = fold a → Ev (fun k => fix_Cos.j0 k x) (cosI a) := by
    intro x h0 h1 hx
    refine Ev.step (fun k => by rw [fix_Cos.j0]) ?_
    unfold cosI
    rw [← hx]
    refine evIte (fun h => ?_) (fun h => ?_)
    · rw [w64 (x := 32768 - x) (by omega) (by omega), if_pos h, decide_eq_true h]
      exact evEq (cos_j1 _ (by omega) true) (if_pos rfl)
    · rw [if_neg h, decide_eq_false h]
      exact evEq (cos_j1 _ (by omega) false) (if_neg (by simp))
  refine Ev.congr (fun k => by rw [fix_Cos.f]) ?_
  rw [bits_65535]
  refine evIte (fun h => ?_) (fun h => ?_)
  · rw [w64 (x := 65536 - a % 65536) (by omega) (by omega)]
    exact hj _ (by omega) (by omega) (by unfold fold; rw [if_pos h])
  · exact hj _ (by omega) (by omega) (by unfold fold; rw [if_neg h])
theorem fix_sin (a : Int) : Ev (fun k => fix_Sin.f k a) (cosI (a % 65536 - 16384)) := by
  refine Ev.congr (fun k => by rw [fix_Sin.f]) ?_
  rw [bits_65535, w64 (x := a % 65536 - 16384) (by omega) (by omega)]
  exact Ev.bind (fix_cos _) (Ev.now _)
end Go.Proofs.Ytkhcckemcamcbaa.Q
namespace Go.Proofs.Ytkhcckemcamcbaa.M
set_option linter.unusedVariables false
def okAt (n : Nat) : Bool := okN (qr (n : Int)) (qr ((16384 - n : Nat) : Int))
theorem circle_0 : all (fun n => okAt (0 + n)) 512 = true := by kernel_rfl
theorem circle_1 : all (fun n => okAt (512 + n)) 512 = true := by kernel_rfl
theorem circle_2 : all (fun n => okAt (1024 + n)) 512 = true := by kernel_rfl
theorem circle_3 : all (fun n => okAt (1536 + n)) 512 = true := by kernel_rfl
theorem circle_4 : all (fun n => okAt (2048 + n)) 512 = true := by kernel_rfl
theorem circle_5 : all (fun n => okAt (2560 + n)) 512 = true := by kernel_rfl
theorem circle_6 : all (fun n => okAt (3072 + n)) 512 = true := by kernel_rfl
theorem circle_7 : all (fun n => okAt (3584 + n)) 512 = true := by kernel_rfl
theorem circle_8 : all (fun n => okAt (4096 + n)) 512 = true := by kernel_rfl
theorem circle_9 : all (fun n => okAt (4608 + n)) 512 = true := by kernel_rfl
theorem circle_10 : all (fun n => okAt (5120 + n)) 512 = true := by kernel_rfl
theorem circle_11 : all (fun n => okAt (5632 + n)) 512 = true := by kernel_rfl
theorem circle_12 : all (fun n => okAt (6144 + n)) 512 = true := by kernel_rfl
theorem circle_13 : all (fun n => okAt (6656 + n)) 512 = true := by kernel_rfl
theorem circle_14 : all (fun n => okAt (7168 + n)) 512 = true := by kernel_rfl
theorem circle_15 : all (fun n => okAt (7680 + n)) 513 = true := by kernel_rfl
theorem circle_all (n : Nat) (h : n < 8193) : okAt n = true := by
  by_cases h0 : n < 512
  · have h' := all_at circle_0 (n - 0) (by omega)
    have e : 0 + (n - 0) = n := by omega
    simp only [e] at h'
    exact h'
  by_cases h1 : n < 1024
  · have h' := all_at circle_1 (n - 512) (by omega)
    have e : 512 + (n - 512) = n := by omega
    simp only [e] at h'
    exact h'
  by_cases h2 : n < 1536
  · have h' := all_at circle_2 (n - 1024) (by omega)
    have e : 1024 + (n - 1024) = n := by omega
    simp only [e] at h'
    exact h'
  by_cases h3 : n < 2048
  · have h' := all_at circle_3 (n - 1536) (by omega)
    have e : 1536 + (n - 1536) = n := by omega
    simp only [e] at h'
    exact h'
  by_cases h4 : n < 2560
  · have h' := all_at circle_4 (n - 2048) (by omega)
    have e : 2048 + (n - 2048) = n := by omega
    simp only [e] at h'
    exact h'
  by_cases h5 : n < 3072
  · have h' := all_at circle_5 (n - 2560) (by omega)
    have e : 2560 + (n - 2560) = n := by omega
    simp only [e] at h'
    exact h'
  by_cases h6 : n < 3584
  · have h' := all_at circle_6 (n - 3072) (by omega)
    have e : 3072 + (n - 3072) = n := by omega
    simp only [e] at h'
    exact h'
  by_cases h7 : n < 4096
  · have h' := all_at circle_7 (n - 3584) (by omega)
    have e : 3584 + (n - 3584) = n := by omega
    simp only [e] at h'
    exact h'
  by_cases h8 : n < 4608
  · have h' := all_at circle_8 (n - 4096) (by omega)
    have e : 4096 + (n - 4096) = n := by omega
    simp only [e] at h'
    exact h'
  by_cases h9 : n < 5120
  · have h' := all_at circle_9 (n - 4608) (by omega)
    have e : 4608 + (n - 4608) = n := by omega
    simp only [e] at h'
    exact h'
  by_cases h10 : n < 5632
  · have h' := all_at circle_10 (n - 5120) (by omega)
    have e : 5120 + (n - 5120) = n := by omega
    simp only [e] at h'
    exact h'
  by_cases h11 : n < 6144
  · have h' := all_at circle_11 (n - 5632) (by omega)
    have e : 5632 + (n - 5632) = n := by omega
    simp only [e] at h'
    exact h'
  by_cases h12 : n < 6656
  · have h' := all_at circle_12 (n - 6144) (by omega)
    have e : 6144 + (n - 6144) = n := by omega
    simp only [e] at h'
    exact h'
  by_cases h13 : n < 7168
  · have h' := all_at circle_13 (n - 6656) (by omega)
    have e : 6656 + (n - 6656) = n := by omega
    simp only [e] at h'
    exact h'
  by_cases h14 : n < 7680
  · have h' := all_at circle_14 (n - 7168) (by omega)
    have e : 7168 + (n - 7168) = n := by omega
    simp only [e] at h'
    exact h'
  have h' := all_at circle_15 (n - 7680) (by omega)
  have e : 7680 + (n - 7680) = n := by omega
  simp only [e] at h'
  exact h'
theorem circle {m : Int} (h0 : 0 ≤ m) (h1 : m ≤ 16384) : 0 ≤ qr m ∧ qr m ≤ 32768 ∧ 0 ≤ qr (16384 - m) ∧ qr (16384 - m) ≤ 32768 ∧ qr m * qr m + qr (16384 - m) * qr (16384 - m) ≤ 1074003968 ∧ 1073479680 ≤ qr m * qr m + qr (16384 - m) * qr (16384 - m) := by
  by_cases h : m ≤ 8192
  · have h2 := okN_is (circle_all m.toNat (by omega))
    have e1 : ((m.toNat : Nat) : Int) = m := Int.toNat_of_nonneg h0
    have e2 : ((16384 - m.toNat : Nat) : Int) = 16384 - m := by omega
    rw [e1, e2] at h2
    exact h2
  · have h2 := okN_is (circle_all (16384 - m).toNat (by omega))
    have e1 : (((16384 - m).toNat : Nat) : Int) = 16384 - m := Int.toNat_of_nonneg (by omega)
    have e2 : ((16384 - (16384 - m).toNat : Nat) : Int) = m := by omega
    rw [e1, e2] at h2
    omega
theorem qr_end : qr 16384 = 0 := by kernel_rfl
theorem cos_pos {a m : Int} (h0 : 0 ≤ m) (h1 : m ≤ 16384) (h : (a - m) % 65536 = 0 ∨ (a + m) % 65536 = 0) : cosI a = qr m := by
  have hf : fold a = m := by
    unfold fold; split <;> omega
  unfold cosI
  rw [hf, if_neg (by omega)]
theorem cos_neg {a m : Int} (h0 : 0 ≤ m) (h1 : m ≤ 16384) (h : (a - 32768 - m) % 65536 = 0 ∨ (a - 32768 + m) % 65536 = 0) : cosI a = -qr m := by
  have hf : fold a = 32768 - m := by
    unfold fold; split <;> omega
  unfold cosI
  rw [hf]
  by_cases e : m = 16384
  · subst e; rw [if_neg (by omega)]; show qr 16384 = -qr 16384; rw [qr_end]; rfl
  · rw [if_pos (by omega)]
    have e2 : 32768 - (32768 - m) = m := by omega
    rw [e2]
theorem quads (a : Int) : ∃ m : Int, 0 ≤ m ∧ m ≤ 16384 ∧ ((a - m) % 65536 = 0 ∨ (a + m) % 65536 = 0 ∨ (a - 32768 - m) % 65536 = 0 ∨ (a - 32768 + m) % 65536 = 0) := by
  by_cases h1 : a % 65536 ≤ 16384
  · exact ⟨a % 65536, by omega, by omega, by omega⟩
  · by_cases h2 : a % 65536 ≤ 32768
    · exact ⟨32768 - a % 65536, by omega, by omega, by omega⟩
    · by_cases h3 : a % 65536 ≤ 49152
      · exact ⟨a % 65536 - 32768, by omega, by omega, by omega⟩
      · exact ⟨65536 - a % 65536, by omega, by omega, by omega⟩
end Go.Proofs.Ytkhcckemcamcbaa.M
namespace Go.Proofs.Ytkhcckemcamcbaa.M
set_option linter.unusedVariables false
def half (s : Int) : Int := (mul s s 15 + 1) / 2
def gw (x : Int) : Int := qr (16384 - half (qr (16384 - x)))
def pairOk (a b : Int) : Bool := match a, b with
  | .ofNat a, .ofNat b => Nat.ble (a * a + b * b) 1074266112 && Nat.ble 1073217536 (a * a + b * b)
  | _, _ => false
theorem pairOk_is {a b : Int} (h : pairOk a b = true) : a * a + b * b ≤ 1074266112 ∧ 1073217536 ≤ a * a + b * b := by
  unfold pairOk at h
  split at h
  · rename_i a b
    simp only [Bool.and_eq_true] at h
    have h3 := Nat.le_of_ble_eq_true h.1
    have h4 := Nat.le_of_ble_eq_true h.2
    have e : (Int.ofNat a * Int.ofNat a + Int.ofNat b * Int.ofNat b) = ((a * a + b * b : Nat) : Int) := rfl
    rw [e]
    omega
  · simp at h
def leOk (a b : Int) : Bool := match a, b with
  | .ofNat a, .ofNat b => Nat.ble a b
  | _, _ => false
theorem leOk_is {a b : Int} (h : leOk a b = true) : a ≤ b := by
  unfold leOk at h
  split at h
  · rename_i a b
    have h3 := Nat.le_of_ble_eq_true h
    show ((a : Nat) : Int) ≤ (b : Nat)
    omega
  · simp at h
def ev1 (n : Nat) : Bool := pairOk (gw (n : Int)) (gw ((16384 - n : Nat) : Int))
def ev2 (n : Nat) : Bool := pairOk (gw (n : Int)) (gw ((16385 - n : Nat) : Int))
def ev3 (n : Nat) : Bool := leOk (qr ((n + 1 : Nat) : Int)) (qr (n : Int))
end Go.Proofs.Ytkhcckemcamcbaa.M
namespace Go.Proofs.Ytkhcckemcamcbaa.Q
open Go.RowKit Go.Proofs.Ytkhcckemcamcbaa.P Go.Proofs.YtkhcckemcamcbaaW.PrintWords Go.Proofs.YtkhcckemcamcbaaW.PrintLast Go.Proofs.YtkhcckemcamcbaaW.PrintMore
open Go.Proofs.Ytkhcckemcamcbaa.M
set_option linter.unusedVariables false

theorem qr_in {m : Int} (h0 : 0 ≤ m) (h1 : m ≤ 16384) : 0 ≤ qr m ∧ qr m ≤ 32768 := by
  have := circle h0 h1
  omega
theorem half_in {s : Int} (h : 0 ≤ s ∧ s ≤ 32768) : 0 ≤ half s ∧ half s ≤ 16384 ∧ 0 ≤ mul s s 15 ∧ mul s s 15 ≤ 32768 := by
  have e : mul s s 15 = (s * s + 16384) / 32768 := by
    unfold mul; rw [if_neg (by omega), if_neg (by omega), if_neg (by omega), fac_id (by omega) (by omega)]; rfl
  have h1 := prod_le (x := s) (y := s) (a := 32768) (b := 32768) (by omega) (by omega)
  have h2 : 0 ≤ s * s := Int.mul_nonneg h.1 h.1
  unfold half
  rw [e]
  refine ⟨?_, ?_, ?_, ?_⟩ <;> omega
theorem sin_small {a : Int} (h0 : 0 ≤ a) (h1 : a ≤ 16384) : Ev (fun k => fix_Sin.f k a) (qr (16384 - a)) := by
  have e : a % 65536 = a := by omega
  have h := fix_sin a
  rw [e, cos_pos (m := 16384 - a) (by omega) (by omega) (by omega)] at h
  exact h
/-- Where in the quarter a window's number lies. -/
def wat (l i : Int) : Int := ((2 * i + 1) * 16384 / l + 1) / 2
theorem wat_q {l i : Int} (hl : 1 ≤ l) (hi : 0 ≤ i ∧ i < l) : 0 ≤ (2 * i + 1) * 16384 / l ∧ (2 * i + 1) * 16384 / l ≤ 32767 := by
  constructor
  · exact Int.ediv_nonneg (by omega) (by omega)
  · have h : (2 * i + 1) * 16384 / l < 32768 := by
      rw [Int.ediv_lt_iff_lt_mul (by omega)]; omega
    omega
theorem wat_in {l i : Int} (hl : 1 ≤ l) (hi : 0 ≤ i ∧ i < l) : 0 ≤ wat l i ∧ wat l i ≤ 16384 := by
  have h := wat_q hl hi
  unfold wat; omega
theorem gw_in {x : Int} (h0 : 0 ≤ x) (h1 : x ≤ 16384) : 0 ≤ gw x ∧ gw x ≤ 32768 := by
  have h2 := qr_in (m := 16384 - x) (by omega) (by omega)
  have h3 := half_in h2
  exact qr_in (by omega) (by omega)
def win (l : Nat) : List Int := (List.range l).map fun i : Nat => gw (wat l (i : Int))
theorem win_l0 (l : Nat) (hl : 1 ≤ l ∧ l ≤ 480) (n : Nat) : ∀ (i : Nat), i + n = l → Ev (fun k => tabs_Window.l0 k (l : Int) ((List.range i).map (fun i : Nat => gw (wat l (i : Int))) ++ List.replicate n 0) (l : Int) (i : Int)) (win l) := by
  induction n with
  | zero =>
    intro i hi
    have e : i = l := by omega
    subst e
    refine Ev.step (fun k => by rw [tabs_Window.l0]) ?_
    refine evNeg (by omega) ?_
    simpa [win] using Ev.now (win i)
  | succ n ih =>
    intro i hi
    refine Ev.step (fun k => by rw [tabs_Window.l0]) ?_
    refine evPos (by omega) (evNeg (by omega) ?_)
    have hq := wat_q (l := (l : Int)) (i := (i : Int)) (by omega) (by omega)
    have hw := wat_in (l := (l : Int)) (i := (i : Int)) (by omega) (by omega)
    rw [w64 (x := 2 * (i : Int)) (by omega) (by omega), w64 (x := 2 * (i : Int) + 1) (by omega) (by omega), w64 (x := (2 * (i : Int) + 1) * 16384) (by omega) (by omega), Int.tdiv_eq_ediv_of_nonneg (show 0 ≤ (2 * (i : Int) + 1) * 16384 by omega), w64 (x := (2 * (i : Int) + 1) * 16384 / l) (by omega) (by omega), w64 (x := (2 * (i : Int) + 1) * 16384 / l + 1) (by omega) (by omega), Int.tdiv_eq_ediv_of_nonneg (show 0 ≤ (2 * (i : Int) + 1) * 16384 / l + 1 by omega)]
    have ew : ((2 * (i : Int) + 1) * 16384 / l + 1) / 2 = wat l i := rfl
    rw [ew, w64 (x := wat l i) (by omega) (by omega)]
    refine Ev.bind (sin_small hw.1 hw.2) (Ev.bind (fix_mul _ _ 15 (by omega) (by omega)) ?_)
    have h2 := qr_in (m := 16384 - wat l i) (by omega) (by omega)
    have h3 := half_in h2
    have hm : 0 ≤ mul (qr (16384 - wat l i)) (qr (16384 - wat l i)) 15 ∧ mul (qr (16384 - wat l i)) (qr (16384 - wat l i)) 15 ≤ 40000 := by omega
    rw [w64 (x := mul _ _ 15 + 1) (by omega) (by omega), Int.tdiv_eq_ediv_of_nonneg (by omega)]
    have eh : (mul (qr (16384 - wat l i)) (qr (16384 - wat l i)) 15 + 1) / 2 = half (qr (16384 - wat l i)) := rfl
    rw [eh, w64 (x := half _) (by omega) (by omega)]
    refine Ev.bind (sin_small h3.1 h3.2.1) (evPos (by omega) (evPos (by simp; omega) ?_))
    rw [w64 (x := (i : Int) + 1) (by omega) (by omega), List.replicate_succ, set_mid ((List.range i).map (fun i : Nat => gw (wat l (i : Int)))) 0 (List.replicate n 0) _ i (by simp)]
    have h := ih (i + 1) (by omega)
    rw [List.range_succ, List.map_append] at h
    simpa [gw] using h
theorem tabs_window (l : Int) (h : 1 ≤ l ∧ l ≤ 480) : Ev (fun k => tabs_Window.f k l) (win l.toNat) := by
  obtain ⟨n, rfl⟩ : ∃ n : Nat, l = n := ⟨l.toNat, by omega⟩
  rw [Int.toNat_natCast]
  refine Ev.congr (fun k => by rw [tabs_Window.f]) (evNeg (by omega) ?_)
  rw [decide_eq_false (by omega)]
  refine Ev.step (fun k => by rw [tabs_Window.j0]) ?_
  refine evNeg (by simp) (evPos (by omega) (evPos (by omega) (Ev.bind (Ev.now _) ?_)))
  rw [Int.toNat_natCast]
  have h2 := win_l0 n (by omega) n 0 (by omega)
  simpa using h2
theorem tabs_window_none (l : Int) (h : ¬ (1 ≤ l ∧ l ≤ 480)) : Ev (fun k => tabs_Window.f k l) [] := by
  have hj : ∀ b, b = true → Ev (fun k => tabs_Window.j0 k l b) [] := by
    intro b hb
    refine Ev.step (fun k => by rw [tabs_Window.j0]) ?_
    exact evPos hb (Ev.now _)
  refine Ev.congr (fun k => by rw [tabs_Window.f]) ?_
  exact evIte (fun _ => hj _ rfl) (fun h2 => hj _ (decide_eq_true (by omega)))
theorem win_length (l : Nat) : (win l).length = l := by simp [win]
theorem rd_win (l : Nat) (i : Int) (h0 : 0 ≤ i) (h1 : i < l) : rd (win l) i = gw (wat l i) := by
  obtain ⟨n, rfl⟩ : ∃ n : Nat, i = n := ⟨i.toNat, by omega⟩
  rw [rd_at (l := win l) (i := n) (by rw [win_length]; omega)]
  simp [win]
end Go.Proofs.Ytkhcckemcamcbaa.Q
namespace Go.Proofs.Ytkhcckemcamcbaa.Q
open Go.RowKit Go.Proofs.Ytkhcckemcamcbaa.P Go.Proofs.YtkhcckemcamcbaaW.PrintWords Go.Proofs.YtkhcckemcamcbaaW.PrintLast Go.Proofs.YtkhcckemcamcbaaW.PrintMore
open Go.Proofs.Ytkhcckemcamcbaa.M
set_option linter.unusedVariables false

theorem ref_clamp (a lo hi : Int) : Ev (fun k => madrigalref1_Clamp.f k a lo hi) (clamp a lo hi) := by
  have hj : ∀ b, Ev (fun k => madrigalref1_Clamp.j0 k a lo hi b) (if b = true then lo else if a > hi then hi else a) := by
    intro b
    refine Ev.step (fun k => by rw [madrigalref1_Clamp.j0]) ?_
    refine evConst ?_
    cases b <;> simp <;> split <;> rfl
  refine Ev.congr (fun k => by rw [madrigalref1_Clamp.f]) ?_
  refine evIte (fun h => ?_) (fun h => ?_)
  · exact evEq (hj true) (by unfold clamp; simp [h])
  · exact evEq (hj _) (by unfold clamp; simp [h])
end Go.Proofs.Ytkhcckemcamcbaa.Q
namespace Go.Proofs.Ytkhcckemcamcbaa.Q
open Go.RowKit Go.Proofs.Ytkhcckemcamcbaa.P Go.Proofs.YtkhcckemcamcbaaW.PrintWords Go.Proofs.YtkhcckemcamcbaaW.PrintLast Go.Proofs.YtkhcckemcamcbaaW.PrintMore
open Go.Proofs.Ytkhcckemcamcbaa.M
set_option linter.unusedVariables false

theorem shl_64 {x s : Int} (h1 : s ≤ 64) (a0 : -9223372036854775808 ≤ x * 2 ^ s.toNat) (a1 : x * 2 ^ s.toNat ≤ 9223372036854775807) : shl .i64 x s = x * 2 ^ s.toNat := by
  unfold shl
  rw [show IntKind.i64.bits = 64 from rfl, Nat.min_eq_left (by omega), i64_w]
  exact w64 a0 a1
theorem uw64 {x : Int} (h0 : 0 ≤ x) (h1 : x < 18446744073709551616) : IntKind.u64.wrap x = x := by
  show x % 18446744073709551616 = x
  exact Int.emod_eq_of_lt h0 h1
theorem pow_62 {n : Nat} (h : n ≤ 62) : (1 : Int) ≤ 2 ^ n ∧ (2 : Int) ^ n ≤ 4611686018427387904 :=
  ⟨by have h1 : (0 : Int) < 2 ^ n := Int.pow_pos (by omega)
      omega, by have := pow_most h; simpa using this⟩
theorem round_two (p P : Int) (hP : 1 ≤ P) : (p + P) / (2 * P) = if p % (2 * P) ≥ P then p / (2 * P) + 1 else p / (2 * P) := by
  have hmod := Int.emod_nonneg p (show 2 * P ≠ 0 by omega)
  have hlt := Int.emod_lt_of_pos p (show 0 < 2 * P by omega)
  have hd := Int.mul_ediv_add_emod p (2 * P)
  split
  · refine (Int.ediv_emod_unique (a := p + P) (b := 2 * P) (r := p % (2 * P) - P) (q := p / (2 * P) + 1) (by omega)).2 ⟨?_, by omega, by omega⟩ |>.1
    rw [Int.mul_add]; omega
  · exact ((Int.ediv_emod_unique (a := p + P) (b := 2 * P) (r := p % (2 * P) + P) (q := p / (2 * P)) (by omega)).2 ⟨by omega, by omega, by omega⟩).1
theorem ref_mul (a b s : Int) (hs0 : -9223372036854775808 ≤ s) (hs1 : s ≤ 9223372036854775807) : Ev (fun k => madrigalref1_Mul.f k a b s) (mul a b s) := by
  have hp := fac_prod a b
  refine Ev.congr (fun k => by rw [madrigalref1_Mul.f]) (Ev.bind (ref_clamp a _ _) (Ev.bind (ref_clamp b _ _) ?_))
  have e : clamp a (-2147483648) 2147483648 * clamp b (-2147483648) 2147483648 = fac a * fac b := rfl
  rw [e, w64 (x := fac a * fac b) (by omega) (by omega)]
  have hno : ∀ t, t = true → Ev (fun k => madrigalref1_Mul.j0 k s (fac a * fac b) t) 0 := by
    intro t ht
    refine Ev.step (fun k => by rw [madrigalref1_Mul.j0]) ?_
    exact evPos ht (Ev.now _)
  unfold mul
  by_cases h1 : s < 0
  · rw [if_neg (show ¬ s = 0 by omega), if_pos h1]
    exact evPos h1 (hno _ rfl)
  · refine evNeg h1 ?_
    by_cases h2 : s > 62
    · rw [if_neg (show ¬ s = 0 by omega), if_neg h1, if_pos h2]
      exact hno _ (decide_eq_true h2)
    · rw [decide_eq_false h2]
      refine Ev.step (fun k => by rw [madrigalref1_Mul.j0]) ?_
      refine evNeg (by simp) (evIte (fun h3 => ?_) (fun h3 => ?_))
      · rw [if_pos h3]; exact Ev.now _
      · rw [if_neg h3, if_neg h1, if_neg h2, w64 (x := s - 1) (by omega) (by omega), uw64 (x := s - 1) (by omega) (by omega), uw64 (x := s) (by omega) (by omega), shl1_64 (by omega) (by omega), shr_64 (by omega)]
        have hs2 : s.toNat = (s - 1).toNat + 1 := by omega
        have e2 : (2 : Int) ^ s.toNat = 2 * 2 ^ (s - 1).toNat := by rw [hs2, pow_next]
        have hq := pow_61 (n := (s - 1).toNat) (by omega)
        have hr := round_two (fac a * fac b) (2 ^ (s - 1).toNat) hq.1
        have hmod := Int.emod_nonneg (fac a * fac b) (show 2 * 2 ^ (s - 1).toNat ≠ 0 by omega)
        have hlt := Int.emod_lt_of_pos (fac a * fac b) (show 0 < 2 * 2 ^ (s - 1).toNat by omega)
        have hd := Int.mul_ediv_add_emod (fac a * fac b) (2 * 2 ^ (s - 1).toNat)
        rw [Int.mul_comm] at hd
        have hq1 : -4611686018427387904 ≤ fac a * fac b / (2 * 2 ^ (s - 1).toNat) ∧ fac a * fac b / (2 * 2 ^ (s - 1).toNat) ≤ 4611686018427387904 := by
          have h := Int.natAbs_ediv_le_natAbs (fac a * fac b) (2 * 2 ^ (s - 1).toNat)
          omega
        rw [shl_64 (by omega) (by rw [e2]; omega) (by rw [e2]; omega), e2, w64 (x := fac a * fac b - _) (by omega) (by omega), w64 (x := _ + 1) (by omega) (by omega), hr]
        refine evPos (by omega) (evPos (by omega) (evIte (fun h4 => ?_) (fun h4 => ?_)))
        · rw [if_pos (by omega)]; exact Ev.now _
        · rw [if_neg (by omega)]; exact Ev.now _
end Go.Proofs.Ytkhcckemcamcbaa.Q
namespace Go.Proofs.Ytkhcckemcamcbaa.Q
open Go.RowKit Go.Proofs.Ytkhcckemcamcbaa.P Go.Proofs.YtkhcckemcamcbaaW.PrintWords Go.Proofs.YtkhcckemcamcbaaW.PrintLast Go.Proofs.YtkhcckemcamcbaaW.PrintMore
open Go.Proofs.Ytkhcckemcamcbaa.M
set_option linter.unusedVariables false

theorem ref_series_l0 (z : Int) (n : Nat) : ∀ (S A : List Int) (s i : Int), S.length = n → i = A.length → A.length + S.length ≤ 1000 → (∀ c ∈ S, -2147483648 ≤ c ∧ c ≤ 2147483648) →
    Ev (fun k => madrigalref1_series.l0 k z s (A ++ S) i) (ser z s S) := by
  induction n with
  | zero =>
    intro S A s i hn hi hl hS
    have e1 : S = [] := List.eq_nil_of_length_eq_zero hn
    subst e1
    refine Ev.step (fun k => by rw [madrigalref1_series.l0]) ?_
    exact evNeg (by simp; omega) (Ev.now _)
  | succ n ih =>
    intro S A s i hn hi hl hS
    cases S with
    | nil => simp at hn
    | cons c S =>
      simp at hn hl
      have hc := hS c (by simp)
      have hb := mul30_bounds z s
      refine Ev.step (fun k => by rw [madrigalref1_series.l0]) ?_
      refine evPos (by simp; omega) (evPos (by omega) ?_)
      refine Ev.bind (ref_mul z s 30 (by omega) (by omega)) ?_
      rw [rd_mid _ _ _ _ hi, w64 (x := i + 1) (by omega) (by omega), w64 (x := c + _) (by omega) (by omega)]
      have h := ih S (A ++ [c]) (c + mul z s 30) (i + 1) (by omega) (by simp; omega) (by simp; omega) (fun y hy => hS y (by simp [hy]))
      simpa [ser] using h
theorem ref_ser (z s : Int) (l : List Int) (hl : l.length ≤ 100) (h : ∀ c ∈ l, -2147483648 ≤ c ∧ c ≤ 2147483648) : Ev (fun k => madrigalref1_series.f k z s l) (ser z s l) := by
  refine Ev.congr (fun k => by rw [madrigalref1_series.f]) ?_
  have h2 := ref_series_l0 z l.length l [] s 0 rfl rfl (by simp; omega) h
  exact h2
theorem ref_quarter (x : Int) (hx : 0 ≤ x ∧ x ≤ 16384) : Ev (fun k => madrigalref1_quarter.f k x) (qr x) := by
  refine Ev.congr (fun k => by rw [madrigalref1_quarter.f]) ?_
  by_cases h : x ≤ 8192
  · have e : mul (ser (mul (mul x 1686629713 14) (mul x 1686629713 14) 30) (-296) [26631, -1491308, 44739243, -536870912, 1073741824]) 1 15 = qr x := by unfold qr; rw [if_pos h]
    refine evPos h (Ev.bind (ref_mul _ _ _ (by omega) (by omega)) (Ev.bind (ref_mul _ _ _ (by omega) (by omega)) (Ev.bind (ref_ser _ _ _ (by decide) (by decide)) (Ev.bind (ref_mul _ _ _ (by omega) (by omega)) (evEq (Ev.now _) e)))))
  · have e : mul (mul (mul (16384 - x) 1686629713 14) (ser (mul (mul (16384 - x) 1686629713 14) (mul (16384 - x) 1686629713 14) 30) 2959 [-213044, 8947849, -178956971, 1073741824]) 30) 1 15 = qr x := by unfold qr; rw [if_neg h]
    refine evNeg h ?_
    rw [w64 (x := 16384 - x) (by omega) (by omega)]
    exact Ev.bind (ref_mul _ _ _ (by omega) (by omega)) (Ev.bind (ref_mul _ _ _ (by omega) (by omega)) (Ev.bind (ref_ser _ _ _ (by decide) (by decide)) (Ev.bind (ref_mul _ _ _ (by omega) (by omega)) (Ev.bind (ref_mul _ _ _ (by omega) (by omega)) (evEq (Ev.now _) e)))))
theorem ref_cos (a : Int) : Ev (fun k => madrigalref1_Cos.f k a) (cosI a) := by
  have hj : ∀ x, 0 ≤ x → x ≤ 32768 → x = fold a → Ev (fun k => madrigalref1_Cos.j0 k x) (cosI a) := by
    intro x h0 h1 hx
    refine Ev.step (fun k => by rw [madrigalref1_Cos.j0]) ?_
    unfold cosI
    rw [← hx]
    have hq := qr_small (32768 - x)
    refine evIte (fun h => ?_) (fun h => ?_)
    · rw [w64 (x := 32768 - x) (by omega) (by omega), if_pos h]
      refine Ev.bind (ref_quarter _ (by omega)) ?_
      rw [w64 (x := -qr (32768 - x)) (by omega) (by omega)]
      exact Ev.now _
    · rw [if_neg h]
      exact Ev.bind (ref_quarter _ (by omega)) (Ev.now _)
  refine Ev.congr (fun k => by rw [madrigalref1_Cos.f]) ?_
  rw [bits_65535]
  refine evIte (fun h => ?_) (fun h => ?_)
  · rw [w64 (x := 65536 - a % 65536) (by omega) (by omega)]
    exact hj _ (by omega) (by omega) (by unfold fold; rw [if_pos h])
  · exact hj _ (by omega) (by omega) (by unfold fold; rw [if_neg h])
theorem ref_sin (a : Int) : Ev (fun k => madrigalref1_Sin.f k a) (cosI (a % 65536 - 16384)) := by
  refine Ev.congr (fun k => by rw [madrigalref1_Sin.f]) ?_
  rw [bits_65535, w64 (x := a % 65536 - 16384) (by omega) (by omega)]
  exact Ev.bind (ref_cos _) (Ev.now _)
end Go.Proofs.Ytkhcckemcamcbaa.Q
namespace Go.Proofs.Ytkhcckemcamcbaa.Q
open Go.RowKit Go.Proofs.Ytkhcckemcamcbaa.P Go.Proofs.YtkhcckemcamcbaaW.PrintWords Go.Proofs.YtkhcckemcamcbaaW.PrintLast Go.Proofs.YtkhcckemcamcbaaW.PrintMore
open Go.Proofs.Ytkhcckemcamcbaa.M
set_option linter.unusedVariables false

theorem ref_sin_small {a : Int} (h0 : 0 ≤ a) (h1 : a ≤ 16384) : Ev (fun k => madrigalref1_Sin.f k a) (qr (16384 - a)) := by
  have e : a % 65536 = a := by omega
  have h := ref_sin a
  rw [e, cos_pos (m := 16384 - a) (by omega) (by omega) (by omega)] at h
  exact h
theorem ref_win_l0 (l : Nat) (hl : 1 ≤ l ∧ l ≤ 480) (n : Nat) : ∀ (i : Nat), i + n = l → Ev (fun k => madrigalref1_Window.l0 k (l : Int) ((List.range i).map (fun i : Nat => gw (wat l (i : Int)))) (i : Int)) (win l) := by
  have hd : decide ((l : Int) ≤ 480) = true := decide_eq_true (by omega)
  induction n with
  | zero =>
    intro i hi
    have e : i = l := by omega
    subst e
    refine Ev.step (fun k => by rw [madrigalref1_Window.l0]) ?_
    refine evNeg (by omega) ?_
    refine Ev.step (fun k => by rw [madrigalref1_Window.j1]) ?_
    exact evNeg (by simp) (Ev.now _)
  | succ n ih =>
    intro i hi
    refine Ev.step (fun k => by rw [madrigalref1_Window.l0]) ?_
    refine evPos (by omega) ?_
    rw [hd]
    refine Ev.step (fun k => by rw [madrigalref1_Window.j1]) ?_
    refine evPos rfl (evNeg (by omega) ?_)
    have hq := wat_q (l := (l : Int)) (i := (i : Int)) (by omega) (by omega)
    have hw := wat_in (l := (l : Int)) (i := (i : Int)) (by omega) (by omega)
    rw [w64 (x := 2 * (i : Int)) (by omega) (by omega), w64 (x := 2 * (i : Int) + 1) (by omega) (by omega), w64 (x := (2 * (i : Int) + 1) * 16384) (by omega) (by omega), Int.tdiv_eq_ediv_of_nonneg (show 0 ≤ (2 * (i : Int) + 1) * 16384 by omega), w64 (x := (2 * (i : Int) + 1) * 16384 / l) (by omega) (by omega), w64 (x := (2 * (i : Int) + 1) * 16384 / l + 1) (by omega) (by omega), Int.tdiv_eq_ediv_of_nonneg (show 0 ≤ (2 * (i : Int) + 1) * 16384 / l + 1 by omega)]
    have ew : ((2 * (i : Int) + 1) * 16384 / l + 1) / 2 = wat l i := rfl
    rw [ew, w64 (x := wat l i) (by omega) (by omega)]
    refine Ev.bind (ref_sin_small hw.1 hw.2) (Ev.bind (ref_mul _ _ 15 (by omega) (by omega)) ?_)
    have h2 := qr_in (m := 16384 - wat l i) (by omega) (by omega)
    have h3 := half_in h2
    have hm : 0 ≤ mul (qr (16384 - wat l i)) (qr (16384 - wat l i)) 15 ∧ mul (qr (16384 - wat l i)) (qr (16384 - wat l i)) 15 ≤ 40000 := by omega
    rw [w64 (x := mul _ _ 15 + 1) (by omega) (by omega), Int.tdiv_eq_ediv_of_nonneg (by omega)]
    have eh : (mul (qr (16384 - wat l i)) (qr (16384 - wat l i)) 15 + 1) / 2 = half (qr (16384 - wat l i)) := rfl
    rw [eh, w64 (x := half _) (by omega) (by omega)]
    refine Ev.bind (ref_sin_small h3.1 h3.2.1) (evPos (by simp; omega) ?_)
    rw [w64 (x := (i : Int) + 1) (by omega) (by omega)]
    have h := ih (i + 1) (by omega)
    rw [List.range_succ, List.map_append] at h
    simpa [gw] using h
theorem ref_window (l : Int) (h : 1 ≤ l ∧ l ≤ 480) : Ev (fun k => madrigalref1_Window.f k l) (win l.toNat) := by
  obtain ⟨n, rfl⟩ : ∃ n : Nat, l = n := ⟨l.toNat, by omega⟩
  rw [Int.toNat_natCast]
  refine Ev.congr (fun k => by rw [madrigalref1_Window.f]) ?_
  have h2 := ref_win_l0 n (by omega) n 0 (by omega)
  simpa using h2
theorem ref_window_none (l : Int) (h : ¬ (1 ≤ l ∧ l ≤ 480)) : Ev (fun k => madrigalref1_Window.f k l) [] := by
  have hj : ∀ b, b = false → Ev (fun k => madrigalref1_Window.j1 k l [] 0 b) [] := by
    intro b hb
    refine Ev.step (fun k => by rw [madrigalref1_Window.j1]) ?_
    exact evNeg (by simp [hb]) (Ev.now _)
  refine Ev.congr (fun k => by rw [madrigalref1_Window.f]) ?_
  refine Ev.step (fun k => by rw [madrigalref1_Window.l0]) ?_
  exact evIte (fun h1 => hj _ (decide_eq_false (by omega))) (fun _ => hj _ rfl)
end Go.Proofs.Ytkhcckemcamcbaa.Q
namespace Go.Proofs.Ytkhcckemcamcbaa.Q
open Go.RowKit Go.Proofs.Ytkhcckemcamcbaa.P Go.Proofs.YtkhcckemcamcbaaW.PrintWords Go.Proofs.YtkhcckemcamcbaaW.PrintLast Go.Proofs.YtkhcckemcamcbaaW.PrintMore
set_option linter.unusedVariables false

theorem same2_l0 (n : Nat) : ∀ (S T A B : List Int) (i : Int), S.length = n → T.length = S.length → B.length = A.length → i = A.length → A.length + S.length ≤ 1000000000 →
    Ev (fun k => madrigallaw2_same.l0 k (A ++ S) (B ++ T) i) (decide (S = T)) := by
  induction n with
  | zero =>
    intro S T A B i hn ht hb hi hl
    have e1 : S = [] := List.eq_nil_of_length_eq_zero hn
    subst e1
    have e2 : T = [] := List.eq_nil_of_length_eq_zero (by simpa using ht)
    subst e2
    refine Ev.step (fun k => by rw [madrigallaw2_same.l0]) ?_
    exact evNeg (by simp; omega) (evConst (by simp))
  | succ n ih =>
    intro S T A B i hn ht hb hi hl
    cases S with
    | nil => simp at hn
    | cons s S =>
      cases T with
      | nil => simp at ht
      | cons t T =>
        simp at hn ht hl
        refine Ev.step (fun k => by rw [madrigallaw2_same.l0]) ?_
        refine evPos (by simp; omega) (evPos (by omega) (evPos (by simp; omega) ?_))
        rw [rd_mid _ _ _ _ hi, rd_mid B t T i (by omega), w64 (x := i + 1) (by omega) (by omega)]
        refine evIte (fun h => ?_) (fun h => evConst (by simp [h]))
        have h2 := ih S T (A ++ [s]) (B ++ [t]) (i + 1) (by omega) (by omega) (by simp; omega) (by simp; omega) (by simp; omega)
        have e : decide (s :: S = t :: T) = decide (S = T) := by apply decide_eq_decide.2; simp [h]
        rw [e]
        simpa using h2
theorem same2 (a b : List Int) (h : a.length ≤ 1000000000) : Ev (fun k => madrigallaw2_same.f k a b) (decide (a = b)) := by
  refine Ev.congr (fun k => by rw [madrigallaw2_same.f]) ?_
  refine evIte (fun h2 => ?_) (fun h2 => evConst ?_)
  · have := same2_l0 a.length a b [] [] 0 rfl (by omega) rfl rfl (by simpa using h)
    simpa using this
  · congr 1; symm; apply decide_eq_false; rintro rfl; exact h2 rfl
end Go.Proofs.Ytkhcckemcamcbaa.Q
namespace Go.Proofs.Ytkhcckemcamcbaa.Q
open Go.RowKit Go.Proofs.Ytkhcckemcamcbaa.P Go.Proofs.YtkhcckemcamcbaaW.PrintWords Go.Proofs.YtkhcckemcamcbaaW.PrintLast Go.Proofs.YtkhcckemcamcbaaW.PrintMore
set_option linter.unusedVariables false

theorem awake2 : Ev (fun k => madrigallaw2_awake.f k) true := Ev.of madrigallaw2_awake.mono (k := 400) (by kernel_rfl)
end Go.Proofs.Ytkhcckemcamcbaa.Q
namespace Go.Proofs.Ytkhcckemcamcbaa.Pure
open Go.RowKit Go.Proofs.Ytkhcckemcamcbaa.P Go.Proofs.YtkhcckemcamcbaaW.PrintWords Go.Proofs.YtkhcckemcamcbaaW.PrintLast Go.Proofs.YtkhcckemcamcbaaW.PrintMore
open Go.Proofs.Ytkhcckemcamcbaa.M Go.Proofs.Ytkhcckemcamcbaa.Q
set_option linter.unusedVariables false

theorem icdf_both (a : Int) : ∃ L : List Int, tabs_Icdf.f a = some L ∧ madrigalref1_Icdf.f a = some L ∧ L.length ≤ 20 := by
  unfold tabs_Icdf.f madrigalref1_Icdf.f
  repeat' split
  all_goals exact ⟨_, rfl, rfl, by decide⟩
theorem edges_both (a : Int) : ∃ L : List Int, tabs_Edges.f a = some L ∧ madrigalref1_Edges.f a = some L ∧ L.length ≤ 20 := by
  unfold tabs_Edges.f madrigalref1_Edges.f
  by_cases h1 : a = 8000
  · subst h1; exact ⟨_, rfl, rfl, by decide⟩
  · by_cases h2 : a = 16000
    · subst h2; exact ⟨_, rfl, rfl, by decide⟩
    · by_cases h3 : a = 24000
      · subst h3; exact ⟨_, rfl, rfl, by decide⟩
      · refine ⟨[], ?_, ?_, by decide⟩ <;> simp [h1, h2, h3]
theorem rate_both (a : Int) : ∃ b : Bool, tabs_Rate.f a = some b ∧ madrigalref1_Rate.f a = some b := by
  unfold tabs_Rate.f madrigalref1_Rate.f
  repeat' split
  all_goals exact ⟨_, rfl, rfl⟩
theorem order_both (a : Int) : ∃ b : Int, tabs_Order.f a = some b ∧ madrigalref1_Order.f a = some b := by
  unfold tabs_Order.f madrigalref1_Order.f
  repeat' split
  all_goals exact ⟨_, rfl, rfl⟩
theorem taps_both (a : Int) : ∃ t : Int × Int × Int × Int × Int, tabs_Taps.f a = some t ∧ madrigalref1_Taps.f a = some t := by
  unfold tabs_Taps.f madrigalref1_Taps.f
  by_cases h : a < 0 ∨ a > 7
  · refine ⟨(0, 0, 0, 0, 0), ?_, ?_⟩
    · rw [if_neg (by omega), if_neg (by omega), if_neg (by omega), if_neg (by omega), if_neg (by omega), if_neg (by omega), if_neg (by omega), if_neg (by omega)]
    · split
      · rfl
      · rw [if_pos (by omega)]
  · rcases (show a = 0 ∨ a = 1 ∨ a = 2 ∨ a = 3 ∨ a = 4 ∨ a = 5 ∨ a = 6 ∨ a = 7 by omega) with rfl | rfl | rfl | rfl | rfl | rfl | rfl | rfl
    all_goals exact ⟨_, rfl, rfl⟩
theorem bins_small : ∀ (r : Fin 3) (m : Fin 2) (k : Fin 40), (let r' : Int := [8000, 16000, 24000].getD r.val 0; let m' : Int := [10, 20].getD m.val 0; tabs_Bins.f r' m' ((k.val : Nat) : Int) = madrigalref1_Bins.f r' m' ((k.val : Nat) : Int) ∧ (tabs_Bins.f r' m' ((k.val : Nat) : Int)).isSome = true) := by decide +kernel
theorem bins_both (r m k : Int) (hk : -9223372036854775808 ≤ k ∧ k ≤ 9223372036854775807) : ∃ p : Int × Int, tabs_Bins.f r m k = some p ∧ madrigalref1_Bins.f r m k = some p := by
  obtain ⟨L, h1, h2, h3⟩ := edges_both r
  by_cases hm : m = 10 ∨ m = 20
  · by_cases hs : 0 ≤ k ∧ k < 40
    · by_cases hr : r = 8000 ∨ r = 16000 ∨ r = 24000
      · have key : ∀ (i : Fin 3) (j : Fin 2), r = [8000, 16000, 24000].getD i.val 0 → m = [10, 20].getD j.val 0 → ∃ p : Int × Int, tabs_Bins.f r m k = some p ∧ madrigalref1_Bins.f r m k = some p := by
          intro i j hi hj
          have h := bins_small i j ⟨k.toNat, by omega⟩
          simp only [Int.toNat_of_nonneg hs.1, ← hi, ← hj] at h
          obtain ⟨p, hp⟩ := Option.isSome_iff_exists.1 h.2
          exact ⟨p, hp, by rw [← h.1]; exact hp⟩
        rcases hr with rfl | rfl | rfl <;> rcases hm with rfl | rfl
        · exact key 0 0 rfl rfl
        · exact key 0 1 rfl rfl
        · exact key 1 0 rfl rfl
        · exact key 1 1 rfl rfl
        · exact key 2 0 rfl rfl
        · exact key 2 1 rfl rfl
      · have eL : L = [] := by
          unfold tabs_Edges.f at h1
          simp [show ¬ r = 8000 by omega, show ¬ r = 16000 by omega, show ¬ r = 24000 by omega] at h1
          exact h1
        subst eL
        refine ⟨(0, 0), ?_, ?_⟩
        · unfold tabs_Bins.f
          rw [h1]
          simp only [Option.bind_some, List.length_nil]
          rw [w64 (x := ((0 : Nat) : Int) - 1) (by omega) (by omega)]
          rcases hm with rfl | rfl
          · rw [if_pos rfl, if_neg (by omega), if_pos (by omega)]
          · rw [if_neg (by omega), if_pos rfl, if_neg (by omega), if_pos (by omega)]
        · unfold madrigalref1_Bins.f
          rw [h2]
          simp only [Option.bind_some, List.length_nil]
          rw [w64 (x := k + 1) (by omega) (by omega)]
          rcases hm with rfl | rfl
          · rw [if_pos rfl, if_neg (by omega), if_pos (by omega)]
          · rw [if_neg (by omega), if_pos rfl, if_neg (by omega), if_pos (by omega)]
    · refine ⟨(0, 0), ?_, ?_⟩
      · unfold tabs_Bins.f
        rw [h1]
        simp only [Option.bind_some]
        rw [w64 (x := (L.length : Int) - 1) (by omega) (by omega)]
        have hone : ∀ o : Option (Int × Int), (if k < 0 then some (0, 0) else if k ≥ (L.length : Int) - 1 then some (0, 0) else o) = some (0, 0) := by
          intro o
          by_cases h0 : k < 0
          · rw [if_pos h0]
          · rw [if_neg h0, if_pos (by omega)]
        rcases hm with rfl | rfl
        · rw [if_pos rfl]; exact hone _
        · rw [if_neg (by omega), if_pos rfl]; exact hone _
      · unfold madrigalref1_Bins.f
        rw [h2]
        simp only [Option.bind_some]
        have hone : ∀ o : Option (Int × Int), (if k < 0 then some (0, 0) else if wrap64 (k + 1) ≥ (L.length : Int) then some (0, 0) else if k > 100 then some (0, 0) else o) = some (0, 0) := by
          intro o
          by_cases h0 : k < 0
          · rw [if_pos h0]
          · rw [if_neg h0]
            by_cases h9 : wrap64 (k + 1) ≥ (L.length : Int)
            · rw [if_pos h9]
            · rw [if_neg h9, if_pos]
              rcases Int.lt_or_le 100 k with h | h
              · exact h
              · rw [w64 (x := k + 1) (by omega) (by omega)] at h9; omega
        rcases hm with rfl | rfl
        · rw [if_pos rfl]; exact hone _
        · rw [if_neg (by omega), if_pos rfl]; exact hone _
  · refine ⟨(0, 0), ?_, ?_⟩
    · unfold tabs_Bins.f
      rw [h1]
      simp only [Option.bind_some]
      rw [if_neg (by omega), if_neg (by omega)]
    · unfold madrigalref1_Bins.f
      rw [h2]
      simp only [Option.bind_some]
      rw [if_neg (by omega), if_neg (by omega)]
theorem lsf10 : ∀ i : Fin 16, tabs_Lsf.f 60 10 ((i.val : Nat) : Int) = madrigalref1_Lsf.f 60 10 ((i.val : Nat) : Int) ∧ ((tabs_Lsf.f 60 10 ((i.val : Nat) : Int)).map fun l => decide (l.length ≤ 20)) = some true := by decide +kernel
theorem lsf16 : ∀ i : Fin 16, tabs_Lsf.f 60 16 ((i.val : Nat) : Int) = madrigalref1_Lsf.f 60 16 ((i.val : Nat) : Int) ∧ ((tabs_Lsf.f 60 16 ((i.val : Nat) : Int)).map fun l => decide (l.length ≤ 20)) = some true := by decide +kernel
theorem lsf_both (o i : Int) : ∃ L : List Int, Ev (fun k => tabs_Lsf.f k o i) L ∧ Ev (fun k => madrigalref1_Lsf.f k o i) L ∧ L.length ≤ 20 := by
  by_cases h : (o = 10 ∨ o = 16) ∧ 0 ≤ i ∧ i < 16
  · obtain ⟨ho, h0, h1⟩ := h
    have key : ∀ o : Int, tabs_Lsf.f 60 o i = madrigalref1_Lsf.f 60 o i → ((tabs_Lsf.f 60 o i).map fun l => decide (l.length ≤ 20)) = some true → ∃ L : List Int, Ev (fun k => tabs_Lsf.f k o i) L ∧ Ev (fun k => madrigalref1_Lsf.f k o i) L ∧ L.length ≤ 20 := by
      intro o he hl
      obtain ⟨L, hL, hd⟩ := Option.map_eq_some_iff.mp hl
      exact ⟨L, Ev.of (tabs_Lsf.mono o i) hL, Ev.of (madrigalref1_Lsf.mono o i) (by rw [← he]; exact hL), by simpa using hd⟩
    have e : ((i.toNat : Nat) : Int) = i := Int.toNat_of_nonneg h0
    rcases ho with rfl | rfl
    · have h2 := lsf10 ⟨i.toNat, by omega⟩
      simp only [e] at h2
      exact key 10 h2.1 h2.2
    · have h2 := lsf16 ⟨i.toNat, by omega⟩
      simp only [e] at h2
      exact key 16 h2.1 h2.2
  · refine ⟨[], ?_, ?_, by simp⟩
    · have hj : ∀ b, b = true → Ev (fun k => tabs_Lsf.j0 k o i b) [] := by
        intro b hb
        refine Ev.step (fun k => by rw [tabs_Lsf.j0]) ?_
        exact evPos hb (Ev.now _)
      refine Ev.congr (fun k => by rw [tabs_Lsf.f]) ?_
      refine evIte (fun h1 => evIte (fun _ => hj _ rfl) (fun h2 => hj _ (decide_eq_true (by omega)))) (fun h1 => evIte (fun h3 => evIte (fun _ => hj _ rfl) (fun h2 => hj _ (decide_eq_true (by omega)))) (fun _ => hj _ rfl))
    · have hj : ∀ b, b = true → Ev (fun k => madrigalref1_Lsf.j0 k o i b) [] := by
        intro b hb
        refine Ev.step (fun k => by rw [madrigalref1_Lsf.j0]) ?_
        exact evPos hb (Ev.now _)
      refine Ev.congr (fun k => by rw [madrigalref1_Lsf.f]) ?_
      refine evIte (fun h1 => evIte (fun _ => hj _ rfl) (fun h2 => hj _ (decide_eq_true (by omega)))) (fun h1 => evIte (fun h3 => evIte (fun _ => hj _ rfl) (fun h2 => hj _ (decide_eq_true (by omega)))) (fun _ => hj _ rfl))
theorem win_both (l : Int) : ∃ L : List Int, Ev (fun k => tabs_Window.f k l) L ∧ Ev (fun k => madrigalref1_Window.f k l) L ∧ L.length ≤ 480 := by
  by_cases h : 1 ≤ l ∧ l ≤ 480
  · exact ⟨_, tabs_window l h, ref_window l h, by rw [win_length]; omega⟩
  · exact ⟨[], tabs_window_none l h, ref_window_none l h, by simp⟩
theorem says_l1 (a0 a1 a2 a3 : Int) (ha : -9223372036854775808 ≤ a0 ∧ a0 ≤ 9223372036854775807) (L : List Int) (hl : L.length ≤ 20) (d : Nat) : ∀ (i : Int), 0 ≤ i → i + d = L.length → Ev (fun k => madrigallaw2_TabsSays.l1 k a0 a1 a2 a3 L L i) true := by
  induction d with
  | zero =>
    intro i h0 hi
    refine Ev.step (fun k => by rw [madrigallaw2_TabsSays.l1]) ?_
    refine evNeg (by omega) ?_
    obtain ⟨p, b1, b2⟩ := bins_both a1 a2 a0 ha
    obtain ⟨q, r1, r2⟩ := rate_both a1
    obtain ⟨o, o1, o2⟩ := order_both a1
    obtain ⟨W, w1, w2, wl⟩ := win_both a3
    obtain ⟨X, x1, x2, xl⟩ := lsf_both a3 a0
    obtain ⟨Y, y1, y2, yl⟩ := lsf_both 10 a0
    obtain ⟨Z, z1, z2, zl⟩ := lsf_both 16 a0
    obtain ⟨t, t1, t2⟩ := taps_both a0
    refine Ev.bind (evConst b1) (Ev.bind (evConst b2) (evPos rfl (evPos rfl (Ev.bind (evConst r1) (Ev.bind (evConst r2) (evPos (by simp) (Ev.bind (evConst o1) (Ev.bind (evConst o2) (evPos rfl (Ev.bind w1 (Ev.bind w2 (Ev.bind (same2 W W (by omega)) (evPos (by simp) (Ev.bind x1 (Ev.bind x2 (Ev.bind (same2 X X (by omega)) (evPos (by simp) (Ev.bind y1 (Ev.bind y2 (Ev.bind (same2 Y Y (by omega)) (evPos (by simp) (Ev.bind z1 (Ev.bind z2 (Ev.bind (same2 Z Z (by omega)) (evPos (by simp) (Ev.bind (evConst t1) (Ev.bind (evConst t2) (evConst ?_))))))))))))))))))))))))))))
    simp
  | succ d ih =>
    intro i h0 hi
    refine Ev.step (fun k => by rw [madrigallaw2_TabsSays.l1]) ?_
    rw [w64 (x := i + 1) (by omega) (by omega)]
    exact evPos (by omega) (evPos h0 (evPos (by omega) (evPos rfl (ih (i + 1) (by omega) (by omega)))))
theorem says_l0 (a0 a1 a2 a3 : Int) (ha : -9223372036854775808 ≤ a0 ∧ a0 ≤ 9223372036854775807) (L : List Int) (hl : L.length ≤ 20) (d : Nat) : ∀ (i : Int), 0 ≤ i → i + d = L.length → Ev (fun k => madrigallaw2_TabsSays.l0 k a0 a1 a2 a3 L L i) true := by
  induction d with
  | zero =>
    intro i h0 hi
    refine Ev.step (fun k => by rw [madrigallaw2_TabsSays.l0]) ?_
    refine evNeg (by omega) ?_
    obtain ⟨E, e1, e2, e3⟩ := edges_both a1
    exact Ev.bind (evConst e1) (Ev.bind (evConst e2) (evPos rfl (says_l1 a0 a1 a2 a3 ha E e3 E.length 0 (by omega) (by omega))))
  | succ d ih =>
    intro i h0 hi
    refine Ev.step (fun k => by rw [madrigallaw2_TabsSays.l0]) ?_
    rw [w64 (x := i + 1) (by omega) (by omega)]
    exact evPos (by omega) (evPos h0 (evPos (by omega) (evPos rfl (ih (i + 1) (by omega) (by omega)))))
theorem TabsSays : madrigallaw2_TabsSays.Pure := by
  intro a0 a1 a2 a3 h0 _ _ _
  have ha : -9223372036854775808 ≤ a0 ∧ a0 ≤ 9223372036854775807 := by
    simp only [Lit.wf, IntKind.min, IntKind.max, IntKind.signed, IntKind.bits, Bool.and_eq_true, decide_eq_true_eq, if_true] at h0
    exact ⟨by omega, by omega⟩
  refine Ev.rounds (Ev.congr (fun k => by rw [madrigallaw2_TabsSays.f]) (Ev.bind awake2 (evPos rfl ?_)))
  obtain ⟨L, h1, h2, h3⟩ := icdf_both a0
  exact Ev.bind (evConst h1) (Ev.bind (evConst h2) (evPos rfl (says_l0 a0 a1 a2 a3 ha L h3 L.length 0 (by omega) (by omega))))
end Go.Proofs.Ytkhcckemcamcbaa.Pure
