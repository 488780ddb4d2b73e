/- A window rises from near nought to near one, and with its mirror the squares are one, of each length: without conditions. -/
import Derived.Test.YtkhcckemcamcbaaPx34
import Derived.Test.YtkhcckemcamcbaaWMore
import Derived.Test.YtkhcckemcamcbaaWLast
import Derived.Test.YtkhcckemcamcbaaM0
import Derived.Test.YtkhcckemcamcbaaPx10
import Derived.Test.YtkhcckemcamcbaaMFix
import Derived.Test.YtkhcckemcamcbaaPx11
import Derived.Laws.BitsLemmas
import Derived.Test.YtkhcckemcamcbaaMCosD
import Derived.Test.YtkhcckemcamcbaaPx14
import Derived.Test.YtkhcckemcamcbaaMCos
import Derived.Test.YtkhcckemcamcbaaMWinD
import Derived.Test.YtkhcckemcamcbaaPx15
import Derived.Test.YtkhcckemcamcbaaMWinA0
import Derived.Test.YtkhcckemcamcbaaMWinA1
import Derived.Test.YtkhcckemcamcbaaMWinB0
import Derived.Test.YtkhcckemcamcbaaMWinB1
import Derived.Test.YtkhcckemcamcbaaMWinC0
import Derived.Test.YtkhcckemcamcbaaMWinC1
import Derived.Test.YtkhcckemcamcbaaPx17
import Derived.KernelRfl
namespace Go.Proofs.Ytkhcckemcamcbaa.Q
open Go.RowKit Go.Proofs.YtkhcckemcamcbaaW.PrintWords Go.Proofs.YtkhcckemcamcbaaW.PrintLast Go.Proofs.YtkhcckemcamcbaaW.PrintMore
set_option linter.unusedVariables false

theorem evPos {α : Type} {c : Prop} [Decidable c] {A B : Nat → Option α} {r : α} (h : c) (hA : Ev A r) : Ev (fun k => if c then A k else B k) r := by
  obtain ⟨K, hA⟩ := hA
  exact ⟨K, fun k hk => by simp only [if_pos h]; exact hA k hk⟩
theorem evNeg {α : Type} {c : Prop} [Decidable c] {A B : Nat → Option α} {r : α} (h : ¬ c) (hB : Ev B r) : Ev (fun k => if c then A k else B k) r := by
  obtain ⟨K, hB⟩ := hB
  exact ⟨K, fun k hk => by simp only [if_neg h]; exact hB k hk⟩
theorem evIte {α : Type} {c : Prop} [Decidable c] {A B : Nat → Option α} {r : α} (hA : c → Ev A r) (hB : ¬ c → Ev B r) : Ev (fun k => if c then A k else B k) r := by
  by_cases h : c
  · exact evPos h (hA h)
  · exact evNeg h (hB h)
theorem evConst {α : Type} {r : α} {o : Option α} (h : o = some r) : Ev (fun _ => o) r := ⟨0, fun _ _ => h⟩
theorem evEq {α : Type} {g : Nat → Option α} {r r' : α} (h : Ev g r) (e : r = r') : Ev g r' := e ▸ h
theorem w64 {x : Int} (h1 : -9223372036854775808 ≤ x) (h2 : x ≤ 9223372036854775807) : wrap64 x = x := by
  unfold wrap64; omega
theorem rd_mem {l : List Int} {i : Int} (h0 : 0 ≤ i) (h1 : i < l.length) : rd l i ∈ l := by
  unfold rd
  have h : i.toNat < l.length := by omega
  rw [List.getD_eq_getElem?_getD, List.getElem?_eq_getElem h]
  exact List.getElem_mem h
theorem rd_nat (l : List Int) (n : Nat) : rd l (n : Int) = l.getD n 0 := by
  unfold rd; simp
theorem rd_mid (A : List Int) (c : Int) (B : List Int) (i : Int) (h : i = A.length) : rd (A ++ c :: B) i = c := by
  subst h
  unfold rd
  rw [List.getD_eq_getElem?_getD, Int.toNat_natCast, List.getElem?_append_right (Nat.le_refl _)]
  simp
theorem set_mid (A : List Int) (c : Int) (B : List Int) (v i : Int) (h : i = A.length) : (A ++ c :: B).set i.toNat v = A ++ v :: B := by
  subst h
  rw [Int.toNat_natCast, List.set_append_right _ _ (Nat.le_refl _)]
  simp
theorem rd_at {l : List Int} {i : Nat} (h : i < l.length) : rd l (i : Int) = l[i] := by
  unfold rd
  rw [List.getD_eq_getElem?_getD, Int.toNat_natCast, List.getElem?_eq_getElem h]
  rfl
theorem rd_in {l : List Int} {i : Int} (h0 : 0 ≤ i) (h : i.toNat < l.length) : rd l i = l[i.toNat] := by
  unfold rd
  rw [List.getD_eq_getElem?_getD, List.getElem?_eq_getElem h]
  rfl
end Go.Proofs.Ytkhcckemcamcbaa.Q
namespace Go.Proofs.Ytkhcckemcamcbaa.Q
open Go.RowKit Go.Proofs.Ytkhcckemcamcbaa.P Go.Proofs.YtkhcckemcamcbaaW.PrintWords Go.Proofs.YtkhcckemcamcbaaW.PrintLast Go.Proofs.YtkhcckemcamcbaaW.PrintMore
open Go.Proofs.Ytkhcckemcamcbaa.M
set_option linter.unusedVariables false

theorem fix_clamp (a lo hi : Int) : Ev (fun k => fix_Clamp.f k a lo hi) (clamp a lo hi) := by
  have hj : ∀ b, Ev (fun k => fix_Clamp.j0 k a lo hi b) (if b = true then lo else if a > hi then hi else a) := by
    intro b
    refine Ev.step (fun k => by rw [fix_Clamp.j0]) ?_
    refine evConst ?_
    cases b <;> simp <;> split <;> rfl
  refine Ev.congr (fun k => by rw [fix_Clamp.f]) ?_
  refine evIte (fun h => ?_) (fun h => ?_)
  · exact evEq (hj true) (by unfold clamp; simp [h])
  · exact evEq (hj _) (by unfold clamp; simp [h])
end Go.Proofs.Ytkhcckemcamcbaa.Q
namespace Go.Proofs.Ytkhcckemcamcbaa.Q
open Go.RowKit Go.Proofs.Ytkhcckemcamcbaa.P Go.Proofs.YtkhcckemcamcbaaW.PrintWords Go.Proofs.YtkhcckemcamcbaaW.PrintLast Go.Proofs.YtkhcckemcamcbaaW.PrintMore
open Go.Proofs.Ytkhcckemcamcbaa.M
set_option linter.unusedVariables false

theorem fix_factor (a : Int) : Ev (fun k => fix_factor.f k a) (fac a) := by
  refine Ev.congr (fun k => by rw [fix_factor.f]) ?_
  exact Ev.bind (fix_clamp a _ _) (Ev.now _)
theorem shl1_64 {s : Int} (h0 : 0 ≤ s) (h1 : s ≤ 61) : shl .i64 1 s = 2 ^ s.toNat := by
  have hp := pow_61 (n := s.toNat) (by omega)
  unfold shl
  rw [show IntKind.i64.bits = 64 from rfl, Nat.min_eq_left (by omega), Int.one_mul, i64_w]
  exact w64 (by omega) (by omega)
theorem shr_64 {x s : Int} (h1 : s ≤ 64) : shr .i64 x s = x / 2 ^ s.toNat := by
  unfold shr
  rw [show IntKind.i64.bits = 64 from rfl, Nat.min_eq_left (by omega)]
theorem fix_mul (a b s : Int) (hs0 : -9223372036854775808 ≤ s) (hs1 : s ≤ 9223372036854775807) : Ev (fun k => fix_Mul.f k a b s) (mul a b s) := by
  have hp := fac_prod a b
  refine Ev.congr (fun k => by rw [fix_Mul.f]) (Ev.bind (fix_factor a) (Ev.bind (fix_factor b) ?_))
  unfold mul
  rw [w64 (x := fac a * fac b) (by omega) (by omega)]
  refine evIte (fun h => ?_) (fun h => ?_)
  · rw [if_pos h]; exact Ev.now _
  · rw [if_neg h]
    refine evIte (fun h2 => ?_) (fun h2 => ?_)
    · rw [if_pos h2]; exact Ev.now _
    · rw [if_neg h2]
      refine evIte (fun h3 => ?_) (fun h3 => ?_)
      · rw [if_pos h3]; exact Ev.now _
      · rw [if_neg h3, w64 (x := s - 1) (by omega) (by omega), shl1_64 (by omega) (by omega)]
        have hp2 := pow_61 (n := (s - 1).toNat) (by omega)
        rw [w64 (x := fac a * fac b + _) (by omega) (by omega), shr_64 (by omega)]
        exact evPos (by omega) (evPos (by omega) (Ev.now _))
end Go.Proofs.Ytkhcckemcamcbaa.Q
namespace Go.Proofs.Ytkhcckemcamcbaa.Q
open Go.RowKit
set_option linter.unusedVariables false

theorem bits_low (a : Int) (i : Nat) (hi : i ≤ 62) : Go.bits .and .i64 a (2 ^ i - 1) = a % 2 ^ i := by
  have hp : (0 : Int) < 2 ^ i := Int.pow_pos (by omega)
  have hpn : 0 < 2 ^ i := Nat.two_pow_pos i
  have hc : ((2 : Int) ^ i - 1) = ((2 ^ i - 1 : Nat) : Int) := by rw [Int.natCast_sub hpn]; simp
  have hle : (2 : Nat) ^ i ≤ 2 ^ 62 := Nat.pow_le_pow_right (by omega) hi
  unfold Go.bits
  rw [hc]
  have hb : (BitVec.ofInt 64 ((2 ^ i - 1 : Nat) : Int)).toNat = 2 ^ i - 1 := by
    rw [BitVec.ofInt_natCast, BitVec.toNat_ofNat]
    exact Nat.mod_eq_of_lt (by omega)
  have ha : (BitVec.ofInt 64 a).toNat = (a % 2 ^ 64).toNat := by rw [BitVec.toNat_ofInt]; rfl
  have hand : (BitVec.ofInt 64 a &&& BitVec.ofInt 64 ((2 ^ i - 1 : Nat) : Int)).toNat = (a % 2 ^ i).toNat := by
    rw [BitVec.toNat_and, hb, ha, Nat.and_two_pow_sub_one_eq_mod]
    have hd : (2 : Int) ^ i ∣ 2 ^ 64 := by
      refine ⟨2 ^ (64 - i), ?_⟩
      rw [← Int.pow_add]
      congr 1
      omega
    have h1 : (((a % 2 ^ 64).toNat % 2 ^ i : Nat) : Int) = a % 2 ^ i := by
      rw [Int.natCast_emod, Int.toNat_of_nonneg (Int.emod_nonneg _ (by decide))]
      have : ((2 ^ i : Nat) : Int) = (2 : Int) ^ i := by simp
      rw [this, Int.emod_emod_of_dvd _ hd]
    omega
  show IntKind.i64.wrap ((BitVec.ofInt 64 a &&& BitVec.ofInt 64 ((2 ^ i - 1 : Nat) : Int)).toNat : Int) = a % 2 ^ i
  rw [hand, Int.toNat_of_nonneg (Int.emod_nonneg _ (by omega)), IntKind.wrap_i64]
  have h1 := Int.emod_nonneg a (show (2 : Int) ^ i ≠ 0 by omega)
  have h2 := Int.emod_lt_of_pos a hp
  have h3 : (2 : Int) ^ i ≤ 2 ^ 62 := by exact_mod_cast hle
  have h4 : (2 : Int) ^ 62 = 4611686018427387904 := by decide
  omega
theorem bits_255 (a : Int) : Go.bits .and .i64 a 255 = a % 256 := bits_low a 8 (by omega)
theorem bits_1 (a : Int) : Go.bits .and .i64 a 1 = a % 2 := bits_low a 1 (by omega)
theorem bits_65535 (a : Int) : Go.bits .and .i64 a 65535 = a % 65536 := bits_low a 16 (by omega)
theorem bits_7 (a : Int) : Go.bits .and .i64 a 7 = a % 8 := bits_low a 3 (by omega)
theorem bits_8191 (a : Int) : Go.bits .and .i64 a 8191 = a % 8192 := bits_low a 13 (by omega)
end Go.Proofs.Ytkhcckemcamcbaa.Q
namespace Go.Proofs.Ytkhcckemcamcbaa.Q
open Go.RowKit Go.Proofs.Ytkhcckemcamcbaa.P Go.Proofs.YtkhcckemcamcbaaW.PrintWords Go.Proofs.YtkhcckemcamcbaaW.PrintLast Go.Proofs.YtkhcckemcamcbaaW.PrintMore
open Go.Proofs.Ytkhcckemcamcbaa.M
set_option linter.unusedVariables false

theorem series_l0 (z : Int) (n : Nat) : ∀ (S A : List Int) (s i m : Int), S.length = n → i = A.length → m = ((A.length + S.length : Nat) : Int) → m ≤ 1000 → (∀ c ∈ S, -2147483648 ≤ c ∧ c ≤ 2147483648) →
    Ev (fun k => fix_series.l0 k z s (A ++ S) m i) (ser z s S) := by
  induction n with
  | zero =>
    intro S A s i m hn hi hm hl hS
    have e1 : S = [] := List.eq_nil_of_length_eq_zero hn
    subst e1
    refine Ev.step (fun k => by rw [fix_series.l0]) ?_
    exact evNeg (by simp at hm; omega) (Ev.now _)
  | succ n ih =>
    intro S A s i m hn hi hm hl hS
    cases S with
    | nil => simp at hn
    | cons c S =>
      simp at hn hm
      have hc := hS c (by simp)
      have hb := mul30_bounds z s
      refine Ev.step (fun k => by rw [fix_series.l0]) ?_
      refine evPos (by omega) (evPos (by omega) (evPos (by simp; omega) ?_))
      refine Ev.bind (fix_mul z s 30 (by omega) (by omega)) ?_
      rw [rd_mid _ _ _ _ hi, w64 (x := i + 1) (by omega) (by omega), w64 (x := c + _) (by omega) (by omega)]
      have h := ih S (A ++ [c]) (c + mul z s 30) (i + 1) m (by omega) (by simp; omega) (by simp; omega) hl (fun y hy => hS y (by simp [hy]))
      simpa [ser] using h
theorem fix_ser (z s : Int) (l : List Int) (hl : l.length ≤ 100) (h : ∀ c ∈ l, -2147483648 ≤ c ∧ c ≤ 2147483648) : Ev (fun k => fix_series.f k z (s :: l)) (ser z s l) := by
  refine Ev.congr (fun k => by rw [fix_series.f]) ?_
  refine evPos (by simp only [List.length_cons]; omega) (evPos (by simp only [List.length_cons]; omega) (Ev.bind (Ev.now _) ?_))
  have h2 := series_l0 z l.length l [] s 0 l.length rfl rfl (by simp) (by omega) h
  exact h2
theorem cos_j1 (x : Int) (hx : 0 ≤ x ∧ x ≤ 16384) (b : Bool) : Ev (fun k => fix_Cos.j1 k x b) (if b = true then -qr x else qr x) := by
  have hq := qr_small x
  refine Ev.step (fun k => by rw [fix_Cos.j1]) ?_
  by_cases h : x ≤ 8192
  · refine evPos h (Ev.bind (fix_mul _ _ _ (by omega) (by omega)) (Ev.bind (fix_mul _ _ _ (by omega) (by omega)) (Ev.bind (fix_ser _ _ _ (by decide) (by decide)) (Ev.bind (fix_mul _ _ _ (by omega) (by omega)) ?_))))
    have e : mul (ser (mul (mul x 1686629713 14) (mul x 1686629713 14) 30) (-296) [26631, -1491308, 44739243, -536870912, 1073741824]) 1 15 = qr x := by unfold qr; rw [if_pos h]
    rw [e, w64 (x := -qr x) (by omega) (by omega)]
    refine evIte (fun hb => ?_) (fun hb => ?_)
    · rw [if_pos hb]; exact Ev.now _
    · rw [if_neg hb]; exact Ev.now _
  · refine evNeg h ?_
    rw [w64 (x := 16384 - x) (by omega) (by omega)]
    refine Ev.bind (fix_mul _ _ _ (by omega) (by omega)) (Ev.bind (fix_mul _ _ _ (by omega) (by omega)) (Ev.bind (fix_ser _ _ _ (by decide) (by decide)) (Ev.bind (fix_mul _ _ _ (by omega) (by omega)) (Ev.bind (fix_mul _ _ _ (by omega) (by omega)) ?_))))
    have e : mul (mul (mul (16384 - x) 1686629713 14) (ser (mul (mul (16384 - x) 1686629713 14) (mul (16384 - x) 1686629713 14) 30) 2959 [-213044, 8947849, -178956971, 1073741824]) 30) 1 15 = qr x := by unfold qr; rw [if_neg h]
    rw [e, w64 (x := -qr x) (by omega) (by omega)]
    refine evIte (fun hb => ?_) (fun hb => ?_)
    · rw [if_pos hb]; exact Ev.now _
    · rw [if_neg hb]; exact Ev.now _
theorem fix_cos (a : Int) : Ev (fun k => fix_Cos.f k a) (cosI a) := by
  have hj : ∀ x, 0 ≤ x → x ≤ 32768 → x = fold a → Ev (fun k => fix_Cos.j0 k x) (cosI a) := by
    intro x h0 h1 hx
    refine Ev.step (fun k => by rw [fix_Cos.j0]) ?_
    unfold cosI
    rw [← hx]
    refine evIte (fun h => ?_) (fun h => ?_)
    · rw [w64 (x := 32768 - x) (by omega) (by omega), if_pos h, decide_eq_true h]
      exact evEq (cos_j1 _ (by omega) true) (if_pos rfl)
    · rw [if_neg h, decide_eq_false h]
      exact evEq (cos_j1 _ (by omega) false) (if_neg (by simp))
  refine Ev.congr (fun k => by rw [fix_Cos.f]) ?_
  rw [bits_65535]
  refine evIte (fun h => ?_) (fun h => ?_)
  · rw [w64 (x := 65536 - a % 65536) (by omega) (by omega)]
    exact hj _ (by omega) (by omega) (by unfold fold; rw [if_pos h])
  · exact hj _ (by omega) (by omega) (by unfold fold; rw [if_neg h])
theorem fix_sin (a : Int) : Ev (fun k => fix_Sin.f k a) (cosI (a % 65536 - 16384)) := by
  refine Ev.congr (fun k => by rw [fix_Sin.f]) ?_
  rw [bits_65535, w64 (x := a % 65536 - 16384) (by omega) (by omega)]
  exact Ev.bind (fix_cos _) (Ev.now _)
end Go.Proofs.Ytkhcckemcamcbaa.Q
namespace Go.Proofs.Ytkhcckemcamcbaa.Q
open Go.RowKit Go.Proofs.Ytkhcckemcamcbaa.P Go.Proofs.YtkhcckemcamcbaaW.PrintWords Go.Proofs.YtkhcckemcamcbaaW.PrintLast Go.Proofs.YtkhcckemcamcbaaW.PrintMore
open Go.Proofs.Ytkhcckemcamcbaa.M
set_option linter.unusedVariables false

theorem qr_in {m : Int} (h0 : 0 ≤ m) (h1 : m ≤ 16384) : 0 ≤ qr m ∧ qr m ≤ 32768 := by
  have := circle h0 h1
  omega
theorem half_in {s : Int} (h : 0 ≤ s ∧ s ≤ 32768) : 0 ≤ half s ∧ half s ≤ 16384 ∧ 0 ≤ mul s s 15 ∧ mul s s 15 ≤ 32768 := by
  have e : mul s s 15 = (s * s + 16384) / 32768 := by
    unfold mul; rw [if_neg (by omega), if_neg (by omega), if_neg (by omega), fac_id (by omega) (by omega)]; rfl
  have h1 := prod_le (x := s) (y := s) (a := 32768) (b := 32768) (by omega) (by omega)
  have h2 : 0 ≤ s * s := Int.mul_nonneg h.1 h.1
  unfold half
  rw [e]
  refine ⟨?_, ?_, ?_, ?_⟩ <;> omega
theorem sin_small {a : Int} (h0 : 0 ≤ a) (h1 : a ≤ 16384) : Ev (fun k => fix_Sin.f k a) (qr (16384 - a)) := by
  have e : a % 65536 = a := by omega
  have h := fix_sin a
  rw [e, cos_pos (m := 16384 - a) (by omega) (by omega) (by omega)] at h
  exact h
/-- Where in the quarter a window's number lies. -/
def wat (l i : Int) : Int := ((2 * i + 1) * 16384 / l + 1) / 2
theorem wat_q {l i : Int} (hl : 1 ≤ l) (hi : 0 ≤ i ∧ i < l) : 0 ≤ (2 * i + 1) * 16384 / l ∧ (2 * i + 1) * 16384 / l ≤ 32767 := by
  constructor
  · exact Int.ediv_nonneg (by omega) (by omega)
  · have h : (2 * i + 1) * 16384 / l < 32768 := by
      rw [Int.ediv_lt_iff_lt_mul (by omega)]; omega
    omega
theorem wat_in {l i : Int} (hl : 1 ≤ l) (hi : 0 ≤ i ∧ i < l) : 0 ≤ wat l i ∧ wat l i ≤ 16384 := by
  have h := wat_q hl hi
  unfold wat; omega
theorem gw_in {x : Int} (h0 : 0 ≤ x) (h1 : x ≤ 16384) : 0 ≤ gw x ∧ gw x ≤ 32768 := by
  have h2 := qr_in (m := 16384 - x) (by omega) (by omega)
  have h3 := half_in h2
  exact qr_in (by omega) (by omega)
def win (l : Nat) : List Int := (List.range l).map fun i : Nat => gw (wat l (i : Int))
theorem win_l0 (l : Nat) (hl : 1 ≤ l ∧ l ≤ 480) (n : Nat) : ∀ (i : Nat), i + n = l → Ev (fun k => tabs_Window.l0 k (l : Int) ((List.range i).map (fun i : Nat => gw (wat l (i : Int))) ++ List.replicate n 0) (l : Int) (i : Int)) (win l) := by
  induction n with
  | zero =>
    intro i hi
    have e : i = l := by omega
    subst e
    refine Ev.step (fun k => by rw [tabs_Window.l0]) ?_
    refine evNeg (by omega) ?_
    simpa [win] using Ev.now (win i)
  | succ n ih =>
    intro i hi
    refine Ev.step (fun k => by rw [tabs_Window.l0]) ?_
    refine evPos (by omega) (evNeg (by omega) ?_)
    have hq := wat_q (l := (l : Int)) (i := (i : Int)) (by omega) (by omega)
    have hw := wat_in (l := (l : Int)) (i := (i : Int)) (by omega) (by omega)
    rw [w64 (x := 2 * (i : Int)) (by omega) (by omega), w64 (x := 2 * (i : Int) + 1) (by omega) (by omega), w64 (x := (2 * (i : Int) + 1) * 16384) (by omega) (by omega), Int.tdiv_eq_ediv_of_nonneg (show 0 ≤ (2 * (i : Int) + 1) * 16384 by omega), w64 (x := (2 * (i : Int) + 1) * 16384 / l) (by omega) (by omega), w64 (x := (2 * (i : Int) + 1) * 16384 / l + 1) (by omega) (by omega), Int.tdiv_eq_ediv_of_nonneg (show 0 ≤ (2 * (i : Int) + 1) * 16384 / l + 1 by omega)]
    have ew : ((2 * (i : Int) + 1) * 16384 / l + 1) / 2 = wat l i := rfl
    rw [ew, w64 (x := wat l i) (by omega) (by omega)]
    refine Ev.bind (sin_small hw.1 hw.2) (Ev.bind (fix_mul _ _ 15 (by omega) (by omega)) ?_)
    have h2 := qr_in (m := 16384 - wat l i) (by omega) (by omega)
    have h3 := half_in h2
    have hm : 0 ≤ mul (qr (16384 - wat l i)) (qr (16384 - wat l i)) 15 ∧ mul (qr (16384 - wat l i)) (qr (16384 - wat l i)) 15 ≤ 40000 := by omega
    rw [w64 (x := mul _ _ 15 + 1) (by omega) (by omega), Int.tdiv_eq_ediv_of_nonneg (by omega)]
    have eh : (mul (qr (16384 - wat l i)) (qr (16384 - wat l i)) 15 + 1) / 2 = half (qr (16384 - wat l i)) := rfl
    rw [eh, w64 (x := half _) (by omega) (by omega)]
    refine Ev.bind (sin_small h3.1 h3.2.1) (evPos (by omega) (evPos (by simp; omega) ?_))
    rw [w64 (x := (i : Int) + 1) (by omega) (by omega), List.replicate_succ, set_mid ((List.range i).map (fun i : Nat => gw (wat l (i : Int)))) 0 (List.replicate n 0) _ i (by simp)]
    have h := ih (i + 1) (by omega)
    rw [List.range_succ, List.map_append] at h
    simpa [gw] using h
theorem tabs_window (l : Int) (h : 1 ≤ l ∧ l ≤ 480) : Ev (fun k => tabs_Window.f k l) (win l.toNat) := by
  obtain ⟨n, rfl⟩ : ∃ n : Nat, l = n := ⟨l.toNat, by omega⟩
  rw [Int.toNat_natCast]
  refine Ev.congr (fun k => by rw [tabs_Window.f]) (evNeg (by omega) ?_)
  rw [decide_eq_false (by omega)]
  refine Ev.step (fun k => by rw [tabs_Window.j0]) ?_
  refine evNeg (by simp) (evPos (by omega) (evPos (by omega) (Ev.bind (Ev.now _) ?_)))
  rw [Int.toNat_natCast]
  have h2 := win_l0 n (by omega) n 0 (by omega)
  simpa using h2
theorem tabs_window_none (l : Int) (h : ¬ (1 ≤ l ∧ l ≤ 480)) : Ev (fun k => tabs_Window.f k l) [] := by
  have hj : ∀ b, b = true → Ev (fun k => tabs_Window.j0 k l b) [] := by
    intro b hb
    refine Ev.step (fun k => by rw [tabs_Window.j0]) ?_
    exact evPos hb (Ev.now _)
  refine Ev.congr (fun k => by rw [tabs_Window.f]) ?_
  exact evIte (fun _ => hj _ rfl) (fun h2 => hj _ (decide_eq_true (by omega)))
theorem win_length (l : Nat) : (win l).length = l := by simp [win]
theorem rd_win (l : Nat) (i : Int) (h0 : 0 ≤ i) (h1 : i < l) : rd (win l) i = gw (wat l i) := by
  obtain ⟨n, rfl⟩ : ∃ n : Nat, i = n := ⟨i.toNat, by omega⟩
  rw [rd_at (l := win l) (i := n) (by rw [win_length]; omega)]
  simp [win]
end Go.Proofs.Ytkhcckemcamcbaa.Q
namespace Go.Proofs.Ytkhcckemcamcbaa.Q
open Go.Proofs.Ytkhcckemcamcbaa.M
set_option linter.unusedVariables false

theorem ev1_at (n : Nat) (h : n < 8193) : ev1 n = true := by
  by_cases h2 : n < 4096
  · exact wa0_all n (by omega) h2
  · exact wa1_all n (by omega) h
theorem ev2_at (n : Nat) (h0 : 1 ≤ n) (h : n < 8193) : ev2 n = true := by
  by_cases h2 : n < 4097
  · exact wb0_all n h0 h2
  · exact wb1_all n (by omega) h
theorem ev3_at (n : Nat) (h : n < 16384) : ev3 n = true := by
  by_cases h2 : n < 8192
  · exact wc0_all n (by omega) h2
  · exact wc1_all n (by omega) h
/-- Cosines fall over the quarter. -/
theorem qr_falls {a : Nat} : ∀ {b : Nat}, a ≤ b → b ≤ 16384 → qr (b : Int) ≤ qr (a : Int)
  | 0, h, _ => by have e : a = 0 := by omega
                  rw [e]; exact Int.le_refl _
  | b + 1, h, hb => by
    by_cases e : a = b + 1
    · rw [e]; exact Int.le_refl _
    · exact Int.le_trans (leOk_is (ev3_at b (by omega))) (qr_falls (by omega) (by omega))
theorem qr_anti {x y : Int} (h0 : 0 ≤ x) (h : x ≤ y) (h1 : y ≤ 16384) : qr y ≤ qr x := by
  have h2 := qr_falls (a := x.toNat) (b := y.toNat) (by omega) (by omega)
  rw [Int.toNat_of_nonneg h0, Int.toNat_of_nonneg (by omega)] at h2
  exact h2
theorem half_mono {s t : Int} (hs : 0 ≤ s) (h : s ≤ t) (ht : t ≤ 32768) : half s ≤ half t := by
  have e : ∀ s : Int, 0 ≤ s → s ≤ 32768 → mul s s 15 = (s * s + 16384) / 32768 := by
    intro s h0 h1
    unfold mul; rw [if_neg (by omega), if_neg (by omega), if_neg (by omega), fac_id (by omega) (by omega)]; rfl
  have h2 : s * s ≤ t * t := Int.mul_le_mul h h hs (by omega)
  unfold half
  rw [e s hs (by omega), e t (by omega) ht]
  omega
theorem gw_mono {x y : Int} (h0 : 0 ≤ x) (h : x ≤ y) (h1 : y ≤ 16384) : gw x ≤ gw y := by
  have a := qr_in (m := 16384 - x) (by omega) (by omega)
  have b := qr_in (m := 16384 - y) (by omega) (by omega)
  have c := half_in a
  have d := half_in b
  have e : qr (16384 - x) ≤ qr (16384 - y) := qr_anti (by omega) (by omega) (by omega)
  have f := half_mono a.1 e b.2
  exact qr_anti (by omega) (by omega) (by omega)
theorem gw_pair {x y : Int} (h0 : 0 ≤ x) (h1 : x ≤ 16384) (h2 : 0 ≤ y) (h3 : y ≤ 16384) (h : y = 16384 - x ∨ y = 16385 - x) : gw x * gw x + gw y * gw y ≤ 1074266112 ∧ 1073217536 ≤ gw x * gw x + gw y * gw y := by
  rcases h with h | h
  · by_cases hx : x ≤ 8192
    · have p := pairOk_is (ev1_at x.toNat (by omega))
      have e1 : ((x.toNat : Nat) : Int) = x := Int.toNat_of_nonneg h0
      have e2 : ((16384 - x.toNat : Nat) : Int) = y := by omega
      rw [e1, e2] at p
      exact p
    · have p := pairOk_is (ev1_at y.toNat (by omega))
      have e1 : ((y.toNat : Nat) : Int) = y := Int.toNat_of_nonneg h2
      have e2 : ((16384 - y.toNat : Nat) : Int) = x := by omega
      rw [e1, e2] at p
      omega
  · by_cases hx : x ≤ 8192
    · have p := pairOk_is (ev2_at x.toNat (by omega) (by omega))
      have e1 : ((x.toNat : Nat) : Int) = x := Int.toNat_of_nonneg h0
      have e2 : ((16385 - x.toNat : Nat) : Int) = y := by omega
      rw [e1, e2] at p
      exact p
    · have p := pairOk_is (ev2_at y.toNat (by omega) (by omega))
      have e1 : ((y.toNat : Nat) : Int) = y := Int.toNat_of_nonneg h2
      have e2 : ((16385 - y.toNat : Nat) : Int) = x := by omega
      rw [e1, e2] at p
      omega
theorem wat_mono {l i : Int} (hl : 1 ≤ l) (h0 : 1 ≤ i) : wat l (i - 1) ≤ wat l i := by
  have h : (2 * (i - 1) + 1) * 16384 / l ≤ (2 * i + 1) * 16384 / l := Int.ediv_le_ediv (by omega) (by omega)
  unfold wat; omega
theorem wat_mirror {l i : Int} (hl : 1 ≤ l) (hi : 0 ≤ i ∧ i < l) : wat l (l - 1 - i) = 16384 - wat l i ∨ wat l (l - 1 - i) = 16385 - wat l i := by
  have e : (2 * (l - 1 - i) + 1) * 16384 = 32768 * l - (2 * i + 1) * 16384 := by omega
  unfold wat
  rw [e]
  generalize (2 * i + 1) * 16384 = n
  have a1 := Int.mul_ediv_add_emod n l
  have a2 := Int.emod_nonneg n (show l ≠ 0 by omega)
  have a3 := Int.emod_lt_of_pos n (show 0 < l by omega)
  have b1 := Int.mul_ediv_add_emod (32768 * l - n) l
  have b2 := Int.emod_nonneg (32768 * l - n) (show l ≠ 0 by omega)
  have b3 := Int.emod_lt_of_pos (32768 * l - n) (show 0 < l by omega)
  generalize n / l = q at a1 ⊢
  generalize (32768 * l - n) / l = p at b1 ⊢
  have hz : l * (32768 - q - p) = l * 32768 - l * q - l * p := by rw [Int.mul_sub, Int.mul_sub]
  have z0 : 0 ≤ 32768 - q - p := by
    by_cases hc : 32768 - q - p ≤ -1
    · have := Int.mul_le_mul_of_nonneg_left hc (show 0 ≤ l by omega)
      omega
    · omega
  have z1 : 32768 - q - p ≤ 1 := by
    by_cases hc : 2 ≤ 32768 - q - p
    · have := Int.mul_le_mul_of_nonneg_left hc (show 0 ≤ l by omega)
      omega
    · omega
  omega
end Go.Proofs.Ytkhcckemcamcbaa.Q
namespace Go.Proofs.Ytkhcckemcamcbaa.Q
open Go.RowKit Go.Proofs.Ytkhcckemcamcbaa.P Go.Proofs.YtkhcckemcamcbaaW.PrintWords Go.Proofs.YtkhcckemcamcbaaW.PrintLast Go.Proofs.YtkhcckemcamcbaaW.PrintMore
set_option linter.unusedVariables false

theorem awake2 : Ev (fun k => madrigallaw2_awake.f k) true := Ev.of madrigallaw2_awake.mono (k := 400) (by kernel_rfl)
end Go.Proofs.Ytkhcckemcamcbaa.Q
namespace Go.Proofs.Ytkhcckemcamcbaa.Pure
open Go.RowKit Go.Proofs.Ytkhcckemcamcbaa.P Go.Proofs.YtkhcckemcamcbaaW.PrintWords Go.Proofs.YtkhcckemcamcbaaW.PrintLast Go.Proofs.YtkhcckemcamcbaaW.PrintMore
open Go.Proofs.Ytkhcckemcamcbaa.M Go.Proofs.Ytkhcckemcamcbaa.Q
set_option linter.unusedVariables false

theorem windows_l0 (l : Nat) (hl : 2 ≤ l ∧ l ≤ 480) (n : Nat) : ∀ (i : Int), 0 ≤ i → i + n = l → Ev (fun k => madrigallaw2_TabsWindows.l0 k (l : Int) (win l) i) true := by
  induction n with
  | zero =>
    intro i h0 hi
    refine Ev.step (fun k => by rw [madrigallaw2_TabsWindows.l0]) ?_
    exact evNeg (by omega) (Ev.now _)
  | succ n ih =>
    intro i h0 hi
    have hw := win_length l
    have a := wat_in (l := (l : Int)) (i := i) (by omega) (by omega)
    have b := wat_in (l := (l : Int)) (i := (l : Int) - 1 - i) (by omega) (by omega)
    have m := wat_mirror (l := (l : Int)) (i := i) (by omega) (by omega)
    have p := gw_pair a.1 a.2 b.1 b.2 m
    have ga := gw_in a.1 a.2
    have gb := gw_in b.1 b.2
    have ra := rd_win l i h0 (by omega)
    have rb := rd_win l ((l : Int) - 1 - i) (by omega) (by omega)
    refine Ev.step (fun k => by rw [madrigallaw2_TabsWindows.l0]) ?_
    have q1 := prod_le (x := gw (wat l i)) (y := gw (wat l i)) (a := 32768) (b := 32768) (by omega) (by omega)
    have q2 := prod_le (x := gw (wat l ((l : Int) - 1 - i))) (y := gw (wat l ((l : Int) - 1 - i))) (a := 32768) (b := 32768) (by omega) (by omega)
    rw [w64 (x := (l : Int) - 1) (by omega) (by omega), w64 (x := (l : Int) - 1 - i) (by omega) (by omega), ra, rb, w64 (x := gw (wat l i) * gw (wat l i)) (by omega) (by omega), w64 (x := gw (wat l ((l : Int) - 1 - i)) * gw (wat l ((l : Int) - 1 - i))) (by omega) (by omega), w64 (x := _ + _) (by omega) (by omega), w64 (x := _ - 1073741824) (by omega) (by omega), w64 (x := i + 1) (by omega) (by omega), w64 (x := i - 1) (by omega) (by omega)]
    have h := ih (i + 1) (by omega) (by omega)
    refine evPos (by omega) (evPos h0 (evPos (by omega) (evPos (by omega) (evPos (by omega) (evNeg (by omega) (evNeg (by omega) (evIte (fun hi2 => ?_) (fun _ => evNeg (by omega) (evNeg (by omega) h)))))))))
    have rc := rd_win l (i - 1) (by omega) (by omega)
    have c := wat_in (l := (l : Int)) (i := i - 1) (by omega) (by omega)
    have mo := gw_mono c.1 (wat_mono (l := (l : Int)) (i := i) (by omega) (by omega)) a.2
    rw [rc]
    exact evPos (by omega) (evPos (by omega) (evNeg (by omega) (evNeg (by omega) (evNeg (by omega) h))))
theorem TabsWindows : madrigallaw2_TabsWindows.Pure := by
  intro l _
  refine Ev.rounds (g := fun k => madrigallaw2_TabsWindows.f k l) ?_
  refine Ev.congr (fun k => by rw [madrigallaw2_TabsWindows.f]) (Ev.bind awake2 (evPos rfl ?_))
  by_cases h : 2 ≤ l ∧ l ≤ 480
  · obtain ⟨n, rfl⟩ : ∃ n : Nat, l = n := ⟨l.toNat, by omega⟩
    refine evNeg (by omega) ?_
    rw [decide_eq_false (by omega)]
    refine Ev.step (fun k => by rw [madrigallaw2_TabsWindows.j0]) ?_
    have hw := win_length n
    have ht := tabs_window (n : Int) (by omega)
    rw [Int.toNat_natCast] at ht
    exact evNeg (by simp) (Ev.bind ht (evPos (by omega) (windows_l0 n (by omega) n 0 (by omega) (by omega))))
  · have hj : ∀ b, b = true → Ev (fun k => madrigallaw2_TabsWindows.j0 k l b) true := by
      intro b hb
      refine Ev.step (fun k => by rw [madrigallaw2_TabsWindows.j0]) ?_
      refine evPos hb ?_
      by_cases h1 : l = 1
      · subst h1
        have hw := win_length 1
        exact Ev.bind (tabs_window 1 (by omega)) (evNeg (by show ¬ ((win 1).length : Int) = 0; omega) (Ev.now _))
      · exact Ev.bind (tabs_window_none l (by omega)) (evPos rfl (Ev.now _))
    exact evIte (fun _ => hj _ rfl) (fun h2 => hj _ (decide_eq_true (by omega)))
end Go.Proofs.Ytkhcckemcamcbaa.Pure
