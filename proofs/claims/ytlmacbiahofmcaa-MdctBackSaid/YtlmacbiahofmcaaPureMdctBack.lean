/- What is made frequencies comes back as samples: within 64 of itself, for all blocks and overlaps that the statement speaks of, without conditions. -/
import Derived.Test.YtlmacbiahofmcaaPx38
import Derived.Test.YtlmacbiahofmcaaPx20
import Derived.KernelRfl
import Derived.Test.YtlmacbiahofmcaaV0
import Derived.Test.YtlmacbiahofmcaaM0
import Derived.Test.YtlmacbiahofmcaaPx2
import Derived.Test.YtlmacbiahofmcaaMFix
import Derived.Test.YtlmacbiahofmcaaPx3
import Derived.Laws.BitsLemmas
import Derived.Test.YtlmacbiahofmcaaMCosD
import Derived.Test.YtlmacbiahofmcaaPx6
import Derived.Test.YtlmacbiahofmcaaMCos
import Derived.Test.YtlmacbiahofmcaaMWinD
import Derived.Test.YtlmacbiahofmcaaPx7
import Derived.Test.YtlmacbiahofmcaaPx8
import Derived.Test.YtlmacbiahofmcaaPx10
import Derived.Test.YtlmacbiahofmcaaPx12
import Derived.Test.YtlmacbiahofmcaaPx14
import Derived.Test.YtlmacbiahofmcaaPx13
import Derived.Test.YtlmacbiahofmcaaPx16
import Derived.Test.YtlmacbiahofmcaaPx18
import Derived.Test.YtlmacbiahofmcaaPx19
import Derived.Test.YtlmacbiahofmcaaMBack3
import Derived.Test.YtlmacbiahofmcaaMBackRA
import Derived.Test.YtlmacbiahofmcaaMBackRB
import Derived.Test.YtlmacbiahofmcaaMBackRC
import Derived.Test.YtlmacbiahofmcaaMBackRD
import Derived.Test.YtlmacbiahofmcaaMBackRE
import Derived.Test.YtlmacbiahofmcaaMBackRF
namespace Go.Proofs.Ytlmacbiahofmcaa.Pure
open Go.RowKit Go.Proofs.Ytlmacbiahofmcaa.P Go.Proofs.YtlmacbiahofmcaaW.PrintWords Go.Proofs.YtlmacbiahofmcaaW.PrintLast Go.Proofs.YtlmacbiahofmcaaW.PrintMore
theorem awake15 : madrigallaw15_awake.f 400 = some true := by kernel_rfl
theorem awakeEv15 : Ev (fun k => madrigallaw15_awake.f k) true := Ev.of madrigallaw15_awake.mono awake15
end Go.Proofs.Ytlmacbiahofmcaa.Pure
namespace Go.Proofs.Ytlmacbiahofmcaa.Q
open Go.RowKit Go.Proofs.YtlmacbiahofmcaaW.PrintWords Go.Proofs.YtlmacbiahofmcaaW.PrintLast Go.Proofs.YtlmacbiahofmcaaW.PrintMore
set_option linter.unusedVariables false
theorem evPos {α : Type} {c : Prop} [Decidable c] {A B : Nat → Option α} {r : α} (h : c) (hA : Ev A r) : Ev (fun k => if c then A k else B k) r := by
  obtain ⟨K, hA⟩ := hA
  exact ⟨K, fun k hk => by simp only [if_pos h]; exact hA k hk⟩
theorem evNeg {α : Type} {c : Prop} [Decidable c] {A B : Nat → Option α} {r : α} (h : ¬ c) (hB : Ev B r) : Ev (fun k => if c then A k else B k) r := by
  obtain ⟨K, hB⟩ := hB
  exact ⟨K, fun k hk => by simp only [if_neg h]; exact hB k hk⟩
theorem evIte {α : Type} {c : Prop} [Decidable c] {A B : Nat → Option α} {r : α} (hA : c → Ev A r) (hB : ¬ c → Ev B r) : Ev (fun k => if c then A k else B k) r := by
  by_cases h : c
  · exact evPos h (hA h)
  · exact evNeg h (hB h)
theorem evConst {α : Type} {r : α} {o : Option α} (h : o = some r) : Ev (fun _ => o) r := ⟨0, fun _ _ => h⟩
theorem evEq {α : Type} {g : Nat → Option α} {r r' : α} (h : Ev g r) (e : r = r') : Ev g r' := e ▸ h
theorem w64 {x : Int} (h1 : -9223372036854775808 ≤ x) (h2 : x ≤ 9223372036854775807) : wrap64 x = x := by
  unfold wrap64; omega
theorem rd_nat (l : List Int) (n : Nat) : rd l (n : Int) = l.getD n 0 := by
  unfold rd; simp
theorem rd_mid (A : List Int) (c : Int) (B : List Int) (i : Int) (h : i = A.length) : rd (A ++ c :: B) i = c := by
  subst h
  unfold rd
  rw [List.getD_eq_getElem?_getD, Int.toNat_natCast, List.getElem?_append_right (Nat.le_refl _)]
  simp
theorem set_mid (A : List Int) (c : Int) (B : List Int) (v i : Int) (h : i = A.length) : (A ++ c :: B).set i.toNat v = A ++ v :: B := by
  subst h
  rw [Int.toNat_natCast, List.set_append_right _ _ (Nat.le_refl _)]
  simp
theorem rd_at {l : List Int} {i : Nat} (h : i < l.length) : rd l (i : Int) = l[i] := by
  unfold rd
  rw [List.getD_eq_getElem?_getD, Int.toNat_natCast, List.getElem?_eq_getElem h]
  rfl
end Go.Proofs.Ytlmacbiahofmcaa.Q
namespace Go.Proofs.Ytlmacbiahofmcaa.Q
open Go.RowKit Go.Proofs.Ytlmacbiahofmcaa.P Go.Proofs.YtlmacbiahofmcaaW.PrintWords Go.Proofs.YtlmacbiahofmcaaW.PrintLast Go.Proofs.YtlmacbiahofmcaaW.PrintMore
open Go.Proofs.Ytlmacbiahofmcaa.M
set_option linter.unusedVariables false
theorem fix_clamp (a lo hi : Int) : Ev (fun k => fix_Clamp.f k a lo hi) (clamp a lo hi) := by
  have hj : ∀ b, Ev (fun k => fix_Clamp.j0 k a lo hi b) (if b = true then lo else if a > hi then hi else a) := by
    intro b
    refine Ev.step (fun k => by rw [fix_Clamp.j0]) ?_
    refine evConst ?_
    cases b <;> simp <;> split <;> rfl
  refine Ev.congr (fun k => by rw [fix_Clamp.f]) ?_
  refine evIte (fun h => ?_) (fun h => ?_)
  · exact evEq (hj true) (by unfold clamp; simp [h])
  · exact evEq (hj _) (by unfold clamp; simp [h])
end Go.Proofs.Ytlmacbiahofmcaa.Q
namespace Go.Proofs.Ytlmacbiahofmcaa.Q
open Go.RowKit Go.Proofs.Ytlmacbiahofmcaa.P Go.Proofs.YtlmacbiahofmcaaW.PrintWords Go.Proofs.YtlmacbiahofmcaaW.PrintLast Go.Proofs.YtlmacbiahofmcaaW.PrintMore
open Go.Proofs.Ytlmacbiahofmcaa.M
set_option linter.unusedVariables false
theorem fix_factor (a : Int) : Ev (fun k => fix_factor.f k a) (fac a) := by
  refine Ev.congr (fun k => by rw [fix_factor.f]) ?_
  exact Ev.bind (fix_clamp a _ _) (Ev.now _)
theorem shl1_64 {s : Int} (h0 : 0 ≤ s) (h1 : s ≤ 61) : shl .i64 1 s = 2 ^ s.toNat := by
  have hp := pow_61 (n := s.toNat) (by omega)
  unfold shl
  rw [show IntKind.i64.bits = 64 from rfl, Nat.min_eq_left (by omega), Int.one_mul, i64_w]
  exact w64 (by omega) (by omega)
theorem shr_64 {x s : Int} (h1 : s ≤ 64) : shr .i64 x s = x / 2 ^ s.toNat := by
  unfold shr
  rw [show IntKind.i64.bits = 64 from rfl, Nat.min_eq_left (by omega)]
theorem fix_mul (a b s : Int) (hs0 : -9223372036854775808 ≤ s) (hs1 : s ≤ 9223372036854775807) : Ev (fun k => fix_Mul.f k a b s) (mul a b s) := by
  have hp := fac_prod a b
  refine Ev.congr (fun k => by rw [fix_Mul.f]) (Ev.bind (fix_factor a) (Ev.bind (fix_factor b) ?_))
  unfold mul
  rw [w64 (x := fac a * fac b) (by omega) (by omega)]
  refine evIte (fun h => ?_) (fun h => ?_)
  · rw [if_pos h]; exact Ev.now _
  · rw [if_neg h]
    refine evIte (fun h2 => ?_) (fun h2 => ?_)
    · rw [if_pos h2]; exact Ev.now _
    · rw [if_neg h2]
      refine evIte (fun h3 => ?_) (fun h3 => ?_)
      · rw [if_pos h3]; exact Ev.now _
      · rw [if_neg h3, w64 (x := s - 1) (by omega) (by omega), shl1_64 (by omega) (by omega)]
        have hp2 := pow_61 (n := (s - 1).toNat) (by omega)
        rw [w64 (x := fac a * fac b + _) (by omega) (by omega), shr_64 (by omega)]
        exact evPos (by omega) (evPos (by omega) (Ev.now _))
end Go.Proofs.Ytlmacbiahofmcaa.Q
namespace Go.Proofs.Ytlmacbiahofmcaa.Q
open Go.RowKit
set_option linter.unusedVariables false
theorem bits_low (a : Int) (i : Nat) (hi : i ≤ 62) : Go.bits .and .i64 a (2 ^ i - 1) = a % 2 ^ i := by
  have hp : (0 : Int) < 2 ^ i := Int.pow_pos (by omega)
  have hpn : 0 < 2 ^ i := Nat.two_pow_pos i
  have hc : ((2 : Int) ^ i - 1) = ((2 ^ i - 1 : Nat) : Int) := by rw [Int.natCast_sub hpn]; simp
  have hle : (2 : Nat) ^ i ≤ 2 ^ 62 := Nat.pow_le_pow_right (by omega) hi
  unfold Go.bits
  rw [hc]
  have hb : (BitVec.ofInt 64 ((2 ^ i - 1 : Nat) : Int)).toNat = 2 ^ i - 1 := by
    rw [BitVec.ofInt_natCast, BitVec.toNat_ofNat]
    exact Nat.mod_eq_of_lt (by omega)
  have ha : (BitVec.ofInt 64 a).toNat = (a % 2 ^ 64).toNat := by rw [BitVec.toNat_ofInt]; rfl
  have hand : (BitVec.ofInt 64 a &&& BitVec.ofInt 64 ((2 ^ i - 1 : Nat) : Int)).toNat = (a % 2 ^ i).toNat := by
    rw [BitVec.toNat_and, hb, ha, Nat.and_two_pow_sub_one_eq_mod]
    have hd : (2 : Int) ^ i ∣ 2 ^ 64 := by
      refine ⟨2 ^ (64 - i), ?_⟩
      rw [← Int.pow_add]
      congr 1
      omega
    have h1 : (((a % 2 ^ 64).toNat % 2 ^ i : Nat) : Int) = a % 2 ^ i := by
      rw [Int.natCast_emod, Int.toNat_of_nonneg (Int.emod_nonneg _ (by decide))]
      have : ((2 ^ i : Nat) : Int) = (2 : Int) ^ i := by simp
      rw [this, Int.emod_emod_of_dvd _ hd]
    omega
  show IntKind.i64.wrap ((BitVec.ofInt 64 a &&& BitVec.ofInt 64 ((2 ^ i - 1 : Nat) : Int)).toNat : Int) = a % 2 ^ i
  rw [hand, Int.toNat_of_nonneg (Int.emod_nonneg _ (by omega)), IntKind.wrap_i64]
  have h1 := Int.emod_nonneg a (show (2 : Int) ^ i ≠ 0 by omega)
  have h2 := Int.emod_lt_of_pos a hp
  have h3 : (2 : Int) ^ i ≤ 2 ^ 62 := by exact_mod_cast hle
  have h4 : (2 : Int) ^ 62 = 4611686018427387904 := by decide
  omega
theorem bits_65535 (a : Int) : Go.bits .and .i64 a 65535 = a % 65536 := bits_low a 16 (by omega)
end Go.Proofs.Ytlmacbiahofmcaa.Q
namespace Go.Proofs.Ytlmacbiahofmcaa.Q
open Go.RowKit Go.Proofs.Ytlmacbiahofmcaa.P Go.Proofs.YtlmacbiahofmcaaW.PrintWords Go.Proofs.YtlmacbiahofmcaaW.PrintLast Go.Proofs.YtlmacbiahofmcaaW.PrintMore
open Go.Proofs.Ytlmacbiahofmcaa.M
set_option linter.unusedVariables false
theorem series_l0 (z : Int) (n : Nat) : ∀ (S A : List Int) (s i m : Int), S.length = n → i = A.length → m = ((A.length + S.length : Nat) : Int) → m ≤ 1000 → (∀ c ∈ S, -2147483648 ≤ c ∧ c ≤ 2147483648) →
    Ev (fun k => fix_series.l0 k z s (A ++ S) m i) (ser z s S) := by
  induction n with
  | zero =>
    intro S A s i m hn hi hm hl hS
    have e1 : S = [] := List.eq_nil_of_length_eq_zero hn
    subst e1
    refine Ev.step (fun k => by rw [fix_series.l0]) ?_
    exact evNeg (by simp at hm; omega) (Ev.now _)
  | succ n ih =>
    intro S A s i m hn hi hm hl hS
    cases S with
    | nil => simp at hn
    | cons c S =>
      simp at hn hm
      have hc := hS c (by simp)
      have hb := mul30_bounds z s
      refine Ev.step (fun k => by rw [fix_series.l0]) ?_
      refine evPos (by omega) (evPos (by omega) (evPos (by simp; omega) ?_))
      refine Ev.bind (fix_mul z s 30 (by omega) (by omega)) ?_
      rw [rd_mid _ _ _ _ hi, w64 (x := i + 1) (by omega) (by omega), w64 (x := c + _) (by omega) (by omega)]
      have h := ih S (A ++ [c]) (c + mul z s 30) (i + 1) m (by omega) (by simp; omega) (by simp; omega) hl (fun y hy => hS y (by simp [hy]))
      simpa [ser] using h
theorem fix_ser (z s : Int) (l : List Int) (hl : l.length ≤ 100) (h : ∀ c ∈ l, -2147483648 ≤ c ∧ c ≤ 2147483648) : Ev (fun k => fix_series.f k z (s :: l)) (ser z s l) := by
  refine Ev.congr (fun k => by rw [fix_series.f]) ?_
  refine evPos (by simp only [List.length_cons]; omega) (evPos (by simp only [List.length_cons]; omega) (Ev.bind (Ev.now _) ?_))
  have h2 := series_l0 z l.length l [] s 0 l.length rfl rfl (by simp) (by omega) h
  exact h2
theorem cos_j1 (x : Int) (hx : 0 ≤ x ∧ x ≤ 16384) (b : Bool) : Ev (fun k => fix_Cos.j1 k x b) (if b = true then -qr x else qr x) := by
  have hq := qr_small x
  refine Ev.step (fun k => by rw [fix_Cos.j1]) ?_
  by_cases h : x ≤ 8192
  · refine evPos h (Ev.bind (fix_mul _ _ _ (by omega) (by omega)) (Ev.bind (fix_mul _ _ _ (by omega) (by omega)) (Ev.bind (fix_ser _ _ _ (by decide) (by decide)) (Ev.bind (fix_mul _ _ _ (by omega) (by omega)) ?_))))
    have e : mul (ser (mul (mul x 1686629713 14) (mul x 1686629713 14) 30) (-296) [26631, -1491308, 44739243, -536870912, 1073741824]) 1 15 = qr x := by unfold qr; rw [if_pos h]
    rw [e, w64 (x := -qr x) (by omega) (by omega)]
    refine evIte (fun hb => ?_) (fun hb => ?_)
    · rw [if_pos hb]; exact Ev.now _
    · rw [if_neg hb]; exact Ev.now _
  · refine evNeg h ?_
    rw [w64 (x := 16384 - x) (by omega) (by omega)]
    refine Ev.bind (fix_mul _ _ _ (by omega) (by omega)) (Ev.bind (fix_mul _ _ _ (by omega) (by omega)) (Ev.bind (fix_ser _ _ _ (by decide) (by decide)) (Ev.bind (fix_mul _ _ _ (by omega) (by omega)) (Ev.bind (fix_mul _ _ _ (by omega) (by omega)) ?_))))
    have e : mul (mul (mul (16384 - x) 1686629713 14) (ser (mul (mul (16384 - x) 1686629713 14) (mul (16384 - x) 1686629713 14) 30) 2959 [-213044, 8947849, -178956971, 1073741824]) 30) 1 15 = qr x := by unfold qr; rw [if_neg h]
    rw [e, w64 (x := -qr x) (by omega) (by omega)]
    refine evIte (fun hb => ?_) (fun hb => ?_)
    · rw [if_pos hb]; exact Ev.now _
    · rw [if_neg hb]; exact Ev.now _
theorem fix_cos (a : Int) : Ev (fun k => fix_Cos.f k a) (cosI a) := by
  have hj : ∀ x, 0 ≤ x → x ≤ 32768 → x = fold a → Ev (fun k => fix_Cos.j0 k x) (cosI a) := by
    intro x h0 h1 hx
    refine Ev.step (fun k => by rw [fix_Cos.j0]) ?_
    unfold cosI
    rw [← hx]
    refine evIte (fun h => ?_) (fun h => ?_)
    · rw [w64 (x := 32768 - x) (by omega) (by omega), if_pos h, decide_eq_true h]
      exact evEq (cos_j1 _ (by omega) true) (if_pos rfl)
    · rw [if_neg h, decide_eq_false h]
      exact evEq (cos_j1 _ (by omega) false) (if_neg (by simp))
  refine Ev.congr (fun k => by rw [fix_Cos.f]) ?_
  rw [bits_65535]
  refine evIte (fun h => ?_) (fun h => ?_)
  · rw [w64 (x := 65536 - a % 65536) (by omega) (by omega)]
    exact hj _ (by omega) (by omega) (by unfold fold; rw [if_pos h])
  · exact hj _ (by omega) (by omega) (by unfold fold; rw [if_neg h])
theorem fix_sin (a : Int) : Ev (fun k => fix_Sin.f k a) (cosI (a % 65536 - 16384)) := by
  refine Ev.congr (fun k => by rw [fix_Sin.f]) ?_
  rw [bits_65535, w64 (x := a % 65536 - 16384) (by omega) (by omega)]
  exact Ev.bind (fix_cos _) (Ev.now _)
end Go.Proofs.Ytlmacbiahofmcaa.Q
namespace Go.Proofs.Ytlmacbiahofmcaa.Q
open Go.RowKit Go.Proofs.Ytlmacbiahofmcaa.P Go.Proofs.YtlmacbiahofmcaaW.PrintWords Go.Proofs.YtlmacbiahofmcaaW.PrintLast Go.Proofs.YtlmacbiahofmcaaW.PrintMore
open Go.Proofs.Ytlmacbiahofmcaa.M
set_option linter.unusedVariables false
theorem qr_in {m : Int} (h0 : 0 ≤ m) (h1 : m ≤ 16384) : 0 ≤ qr m ∧ qr m ≤ 32768 := by
  have := circle h0 h1
  omega
theorem half_in {s : Int} (h : 0 ≤ s ∧ s ≤ 32768) : 0 ≤ half s ∧ half s ≤ 16384 ∧ 0 ≤ mul s s 15 ∧ mul s s 15 ≤ 32768 := by
  have e : mul s s 15 = (s * s + 16384) / 32768 := by
    unfold mul; rw [if_neg (by omega), if_neg (by omega), if_neg (by omega), fac_id (by omega) (by omega)]; rfl
  have h1 := prod_le (x := s) (y := s) (a := 32768) (b := 32768) (by omega) (by omega)
  have h2 : 0 ≤ s * s := Int.mul_nonneg h.1 h.1
  unfold half
  rw [e]
  refine ⟨?_, ?_, ?_, ?_⟩ <;> omega
theorem sin_small {a : Int} (h0 : 0 ≤ a) (h1 : a ≤ 16384) : Ev (fun k => fix_Sin.f k a) (qr (16384 - a)) := by
  have e : a % 65536 = a := by omega
  have h := fix_sin a
  rw [e, cos_pos (m := 16384 - a) (by omega) (by omega) (by omega)] at h
  exact h
def wat (l i : Int) : Int := ((2 * i + 1) * 16384 / l + 1) / 2
theorem wat_q {l i : Int} (hl : 1 ≤ l) (hi : 0 ≤ i ∧ i < l) : 0 ≤ (2 * i + 1) * 16384 / l ∧ (2 * i + 1) * 16384 / l ≤ 32767 := by
  constructor
  · exact Int.ediv_nonneg (by omega) (by omega)
  · have h : (2 * i + 1) * 16384 / l < 32768 := by
      rw [Int.ediv_lt_iff_lt_mul (by omega)]; omega
    omega
theorem wat_in {l i : Int} (hl : 1 ≤ l) (hi : 0 ≤ i ∧ i < l) : 0 ≤ wat l i ∧ wat l i ≤ 16384 := by
  have h := wat_q hl hi
  unfold wat; omega
theorem gw_in {x : Int} (h0 : 0 ≤ x) (h1 : x ≤ 16384) : 0 ≤ gw x ∧ gw x ≤ 32768 := by
  have h2 := qr_in (m := 16384 - x) (by omega) (by omega)
  have h3 := half_in h2
  exact qr_in (by omega) (by omega)
def win (l : Nat) : List Int := (List.range l).map fun i : Nat => gw (wat l (i : Int))
theorem win_l0 (l : Nat) (hl : 1 ≤ l ∧ l ≤ 480) (n : Nat) : ∀ (i : Nat), i + n = l → Ev (fun k => tabs_Window.l0 k (l : Int) ((List.range i).map (fun i : Nat => gw (wat l (i : Int))) ++ List.replicate n 0) (l : Int) (i : Int)) (win l) := by
  induction n with
  | zero =>
    intro i hi
    have e : i = l := by omega
    subst e
    refine Ev.step (fun k => by rw [tabs_Window.l0]) ?_
    refine evNeg (by omega) ?_
    simpa [win] using Ev.now (win i)
  | succ n ih =>
    intro i hi
    refine Ev.step (fun k => by rw [tabs_Window.l0]) ?_
    refine evPos (by omega) (evNeg (by omega) ?_)
    have hq := wat_q (l := (l : Int)) (i := (i : Int)) (by omega) (by omega)
    have hw := wat_in (l := (l : Int)) (i := (i : Int)) (by omega) (by omega)
    rw [w64 (x := 2 * (i : Int)) (by omega) (by omega), w64 (x := 2 * (i : Int) + 1) (by omega) (by omega), w64 (x := (2 * (i : Int) + 1) * 16384) (by omega) (by omega), Int.tdiv_eq_ediv_of_nonneg (show 0 ≤ (2 * (i : Int) + 1) * 16384 by omega), w64 (x := (2 * (i : Int) + 1) * 16384 / l) (by omega) (by omega), w64 (x := (2 * (i : Int) + 1) * 16384 / l + 1) (by omega) (by omega), Int.tdiv_eq_ediv_of_nonneg (show 0 ≤ (2 * (i : Int) + 1) * 16384 / l + 1 by omega)]
    have ew : ((2 * (i : Int) + 1) * 16384 / l + 1) / 2 = wat l i := rfl
    rw [ew, w64 (x := wat l i) (by omega) (by omega)]
    refine Ev.bind (sin_small hw.1 hw.2) (Ev.bind (fix_mul _ _ 15 (by omega) (by omega)) ?_)
    have h2 := qr_in (m := 16384 - wat l i) (by omega) (by omega)
    have h3 := half_in h2
    have hm : 0 ≤ mul (qr (16384 - wat l i)) (qr (16384 - wat l i)) 15 ∧ mul (qr (16384 - wat l i)) (qr (16384 - wat l i)) 15 ≤ 40000 := by omega
    rw [w64 (x := mul _ _ 15 + 1) (by omega) (by omega), Int.tdiv_eq_ediv_of_nonneg (by omega)]
    have eh : (mul (qr (16384 - wat l i)) (qr (16384 - wat l i)) 15 + 1) / 2 = half (qr (16384 - wat l i)) := rfl
    rw [eh, w64 (x := half _) (by omega) (by omega)]
    refine Ev.bind (sin_small h3.1 h3.2.1) (evPos (by omega) (evPos (by simp; omega) ?_))
    rw [w64 (x := (i : Int) + 1) (by omega) (by omega), List.replicate_succ, set_mid ((List.range i).map (fun i : Nat => gw (wat l (i : Int)))) 0 (List.replicate n 0) _ i (by simp)]
    have h := ih (i + 1) (by omega)
    rw [List.range_succ, List.map_append] at h
    simpa [gw] using h
theorem tabs_window (l : Int) (h : 1 ≤ l ∧ l ≤ 480) : Ev (fun k => tabs_Window.f k l) (win l.toNat) := by
  obtain ⟨n, rfl⟩ : ∃ n : Nat, l = n := ⟨l.toNat, by omega⟩
  rw [Int.toNat_natCast]
  refine Ev.congr (fun k => by rw [tabs_Window.f]) (evNeg (by omega) ?_)
  rw [decide_eq_false (by omega)]
  refine Ev.step (fun k => by rw [tabs_Window.j0]) ?_
  refine evNeg (by simp) (evPos (by omega) (evPos (by omega) (Ev.bind (Ev.now _) ?_)))
  rw [Int.toNat_natCast]
  have h2 := win_l0 n (by omega) n 0 (by omega)
  simpa using h2
theorem win_length (l : Nat) : (win l).length = l := by simp [win]
theorem rd_win (l : Nat) (i : Int) (h0 : 0 ≤ i) (h1 : i < l) : rd (win l) i = gw (wat l i) := by
  obtain ⟨n, rfl⟩ : ∃ n : Nat, i = n := ⟨i.toNat, by omega⟩
  rw [rd_at (l := win l) (i := n) (by rw [win_length]; omega)]
  simp [win]
end Go.Proofs.Ytlmacbiahofmcaa.Q
namespace Go.Proofs.Ytlmacbiahofmcaa.Q
open Go.RowKit Go.Proofs.Ytlmacbiahofmcaa.P Go.Proofs.YtlmacbiahofmcaaW.PrintWords Go.Proofs.YtlmacbiahofmcaaW.PrintLast Go.Proofs.YtlmacbiahofmcaaW.PrintMore
open Go.Proofs.Ytlmacbiahofmcaa.M
set_option linter.unusedVariables false
abbrev Good15 (n l : Int) : Prop := 4 ≤ n ∧ n ≤ 480 ∧ 2 ≤ l ∧ l ≤ n ∧ (n - l) % 2 = 0
theorem good15 (n l : Int) : mdct_Good.f n l = some (decide (Good15 n l)) := by
  by_cases h : Good15 n l
  · rw [decide_eq_true h]
    obtain ⟨h1, h2, h3, h4, h5⟩ := h
    unfold mdct_Good.f
    rw [if_pos (show n ≥ 4 by omega), if_pos h2, if_pos (show l ≥ 2 by omega), if_pos h4, w64 (by omega) (by omega), Int.tmod_eq_emod_of_nonneg (by omega), h5]
    rfl
  · rw [decide_eq_false h]
    unfold mdct_Good.f
    by_cases h1 : n ≥ 4
    · rw [if_pos h1]
      by_cases h2 : n ≤ 480
      · rw [if_pos h2]
        by_cases h3 : l ≥ 2
        · rw [if_pos h3]
          by_cases h4 : l ≤ n
          · rw [if_pos h4, w64 (by omega) (by omega), Int.tmod_eq_emod_of_nonneg (by omega)]
            have h5 : ¬ (n - l) % 2 = 0 := fun h5 => h ⟨h1, h2, h3, h4, h5⟩
            rw [beq_eq_false_iff_ne.mpr h5]
          · rw [if_neg h4]
        · rw [if_neg h3]
      · rw [if_neg h2]
    · rw [if_neg h1]
theorem set_map_range (N k : Nat) (f : Nat → Int) (v : Int) : ((List.range N).map f).set k v = (List.range N).map fun j => if j = k then v else f j := by
  apply List.ext_getElem (by simp)
  intro i h1 h2
  simp only [List.length_set, List.length_map, List.length_range] at h1
  rw [List.getElem_set]
  by_cases h : k = i
  · subst h
    simp
  · have h' : ¬ i = k := fun e => h e.symm
    simp [h, h']
theorem map_range_congr {N : Nat} {f g : Nat → Int} (h : ∀ j, j < N → f j = g j) : (List.range N).map f = (List.range N).map g := List.map_congr_left fun j hj => h j (List.mem_range.mp hj)
theorem getD_map_range (N i : Nat) (f : Nat → Int) : ((List.range N).map f).getD i 0 = if i < N then f i else 0 := by
  rw [List.getD_eq_getElem?_getD, List.getElem?_map]
  by_cases h : i < N
  · rw [List.getElem?_range h, if_pos h]
    rfl
  · rw [List.getElem?_eq_none (by simpa using h), if_neg h]
    rfl
def wv (l i : Nat) : Int := gw (wat (l : Int) (i : Int))
theorem wv_in {l i : Nat} (hl : 1 ≤ l) (hi : i < l) : 0 ≤ wv l i ∧ wv l i ≤ 32768 := by
  have h := wat_in (l := (l : Int)) (i := (i : Int)) (by omega) (by omega)
  exact gw_in h.1 h.2
theorem rd_wv (l : Nat) (i : Nat) (hi : i < l) : rd (win l) (i : Int) = wv l i := rd_win l i (by omega) (by omega)
def shI (n l z i j : Nat) : Int := if z ≤ j ∧ j < z + i then wv l (j - z) else if 2 * n ≤ j + z + i ∧ j + z < 2 * n then wv l (2 * n - 1 - z - j) else 0
def shJ (n l z i j : Nat) : Int := if z + l ≤ j ∧ j < z + l + i then 32768 else shI n l z l j
def shAt (n l j : Nat) : Int := shJ n l ((n - l) / 2) (2 * n - 2 * ((n - l) / 2) - 2 * l) j
def shape15 (n l : Nat) : List Int := (List.range (2 * n)).map (shAt n l)
theorem shape15_len (n l : Nat) : (shape15 n l).length = 2 * n := by simp [shape15]
theorem shape15_getD (n l i : Nat) : (shape15 n l).getD i 0 = if i < 2 * n then shAt n l i else 0 := getD_map_range _ _ _
theorem shI_step (n l z i j : Nat) (hz : 2 * z + l ≤ n) (hi : i < l) : (if j = 2 * n - 1 - z - i then wv l i else if j = z + i then wv l i else shI n l z i j) = shI n l z (i + 1) j := by
  unfold shI
  by_cases h1 : j = 2 * n - 1 - z - i
  · rw [if_pos h1, if_neg (by omega), if_pos (by omega)]
    congr 1
    omega
  · rw [if_neg h1]
    by_cases h2 : j = z + i
    · rw [if_pos h2, if_pos (by omega)]
      congr 1
      omega
    · rw [if_neg h2]
      by_cases h3 : z ≤ j ∧ j < z + i
      · rw [if_pos h3, if_pos (by omega)]
      · rw [if_neg h3]
        by_cases h4 : 2 * n ≤ j + z + i ∧ j + z < 2 * n
        · rw [if_pos h4, if_neg (by omega), if_pos (by omega)]
        · rw [if_neg h4, if_neg (by omega), if_neg (by omega)]
theorem shJ_step (n l z i j : Nat) : (if j = z + l + i then 32768 else shJ n l z i j) = shJ n l z (i + 1) j := by
  unfold shJ
  by_cases h1 : j = z + l + i
  · rw [if_pos h1, if_pos (by omega)]
  · rw [if_neg h1]
    by_cases h2 : z + l ≤ j ∧ j < z + l + i
    · rw [if_pos h2, if_pos (by omega)]
    · rw [if_neg h2, if_neg (by omega)]
theorem shJ_zero (n l z j : Nat) : shJ n l z 0 j = shI n l z l j := by
  unfold shJ
  rw [if_neg (by omega)]
theorem shI_zero (n l z j : Nat) : shI n l z 0 j = 0 := by
  unfold shI
  rw [if_neg (by omega), if_neg (by omega)]
theorem shape_l1 (n l z : Nat) (hn : n ≤ 480) (hz : 2 * z + l ≤ n) : ∀ (r i : Nat), i + r = 2 * n - 2 * z - 2 * l →
    Ev (fun k => mdct_Shape.l1 k (n : Int) (l : Int) ((List.range (2 * n)).map (shJ n l z i)) (z : Int) (((z + l + i : Nat) : Int))) ((List.range (2 * n)).map (shJ n l z (2 * n - 2 * z - 2 * l)), 0) := by
  intro r
  induction r with
  | zero =>
    intro i hi
    obtain rfl : i = 2 * n - 2 * z - 2 * l := by omega
    refine Ev.step (fun k => by rw [mdct_Shape.l1]) ?_
    rw [w64 (x := 2 * (n : Int)) (by omega) (by omega), w64 (x := 2 * (n : Int) - z) (by omega) (by omega), w64 (x := 2 * (n : Int) - z - l) (by omega) (by omega)]
    exact evNeg (by omega) (evConst rfl)
  | succ r ih =>
    intro i hi
    refine Ev.step (fun k => by rw [mdct_Shape.l1]) ?_
    rw [w64 (x := 2 * (n : Int)) (by omega) (by omega), w64 (x := 2 * (n : Int) - z) (by omega) (by omega), w64 (x := 2 * (n : Int) - z - l) (by omega) (by omega), w64 (x := ((z + l + i : Nat) : Int) + 1) (by omega) (by omega)]
    refine evPos (by omega) (evPos (by omega) (evPos (by simp; omega) ?_))
    rw [Int.toNat_natCast, set_map_range, map_range_congr (g := shJ n l z (i + 1)) (fun j _ => shJ_step n l z i j)]
    have := ih (i + 1) (by omega)
    have e : (((z + l + i : Nat) : Int) + 1) = ((z + l + (i + 1) : Nat) : Int) := by omega
    rw [e]
    exact this
theorem shape_l0 (n l z : Nat) (hn : n ≤ 480) (hz : 2 * z + l ≤ n) : ∀ (r i : Nat), i + r = l →
    Ev (fun k => mdct_Shape.l0 k (n : Int) (l : Int) ((List.range (2 * n)).map (shI n l z i)) (win l) (z : Int) (l : Int) (i : Int)) ((List.range (2 * n)).map (shJ n l z (2 * n - 2 * z - 2 * l)), 0) := by
  intro r
  induction r with
  | zero =>
    intro i hi
    obtain rfl : i = l := by omega
    refine Ev.step (fun k => by rw [mdct_Shape.l0]) (evNeg (by omega) ?_)
    rw [w64 (x := (z : Int) + i) (by omega) (by omega)]
    have := shape_l1 n i z hn hz (2 * n - 2 * z - 2 * i) 0 (by omega)
    rw [map_range_congr (g := shI n i z i) (fun j _ => shJ_zero n i z j)] at this
    have e : ((z : Int) + (i : Int)) = ((z + i + 0 : Nat) : Int) := by omega
    rw [e]
    exact this
  | succ r ih =>
    intro i hi
    refine Ev.step (fun k => by rw [mdct_Shape.l0]) ?_
    rw [win_length, w64 (x := (z : Int) + i) (by omega) (by omega), w64 (x := 2 * (n : Int)) (by omega) (by omega), w64 (x := 2 * (n : Int) - 1) (by omega) (by omega), w64 (x := 2 * (n : Int) - 1 - z) (by omega) (by omega), w64 (x := 2 * (n : Int) - 1 - z - i) (by omega) (by omega), w64 (x := (i : Int) + 1) (by omega) (by omega)]
    refine evPos (by omega) (evPos (by omega) (evPos (by omega) (evPos (by omega) (evPos (by simp; omega) (evPos (by omega) (evPos (by simp; omega) ?_))))))
    have e1 : ((z : Int) + (i : Int)).toNat = z + i := by omega
    have e2 : (2 * (n : Int) - 1 - (z : Int) - (i : Int)).toNat = 2 * n - 1 - z - i := by omega
    rw [e1, e2, rd_wv l i (by omega), set_map_range, set_map_range, map_range_congr (g := shI n l z (i + 1)) (fun j _ => shI_step n l z i j hz (by omega))]
    have := ih (i + 1) (by omega)
    simpa using this
theorem shape_ev (n l : Nat) (h : Good15 n l) : Ev (fun k => mdct_Shape.f k (n : Int) (l : Int)) (shape15 n l, 0) := by
  obtain ⟨h1, h2, h3, h4, h5⟩ := h
  refine Ev.congr (fun k => by rw [mdct_Shape.f]) (Ev.bind (evConst (good15 n l)) ?_)
  refine evPos (decide_eq_true ⟨h1, h2, h3, h4, h5⟩) ?_
  rw [w64 (x := 2 * (n : Int)) (by omega) (by omega), w64 (x := (n : Int) - l) (by omega) (by omega), Int.tdiv_eq_ediv_of_nonneg (by omega), w64 (x := ((n : Int) - l) / 2) (by omega) (by omega)]
  refine evPos (by omega) (evPos (by omega) (Ev.bind (tabs_window l (by omega)) ?_))
  have e1 : (2 * (n : Int)).toNat = 2 * n := by omega
  have e2 : ((n : Int) - (l : Int)) / 2 = (((n - l) / 2 : Nat) : Int) := by omega
  have e3 : List.replicate (2 * n) (0 : Int) = (List.range (2 * n)).map (shI n l ((n - l) / 2) 0) := by
    rw [map_range_congr (g := fun _ => 0) (fun j _ => shI_zero n l _ j)]
    exact (List.eq_replicate_iff.mpr ⟨by simp, fun b hb => by obtain ⟨_, _, e⟩ := List.mem_map.mp hb; exact e.symm⟩).symm
  rw [e1, e2, e3, Int.toNat_natCast, win_length]
  exact shape_l0 n l ((n - l) / 2) (by omega) (by omega) l 0 (by omega)
theorem shAt_in {n l j : Nat} (h : Good15 n l) (hj : j < 2 * n) : 0 ≤ shAt n l j ∧ shAt n l j ≤ 32768 := by
  obtain ⟨h1, h2, h3, h4, h5⟩ := h
  unfold shAt shJ shI
  split
  · omega
  · split
    · exact wv_in (by omega) (by omega)
    · split
      · exact wv_in (by omega) (by omega)
      · omega
end Go.Proofs.Ytlmacbiahofmcaa.Q
namespace Go.Proofs.Ytlmacbiahofmcaa.Q
open Go.RowKit Go.Proofs.Ytlmacbiahofmcaa.P Go.Proofs.YtlmacbiahofmcaaW.PrintWords Go.Proofs.YtlmacbiahofmcaaW.PrintLast Go.Proofs.YtlmacbiahofmcaaW.PrintMore
open Go.Proofs.Ytlmacbiahofmcaa.M
set_option linter.unusedVariables false
def tabAt (n p : Nat) : Int := cosI ((((p * 16384 / n : Nat) : Int) + 1) / 2)
def tab15 (n : Nat) : List Int := (List.range (8 * n)).map (tabAt n)
theorem tab15_len (n : Nat) : (tab15 n).length = 8 * n := by simp [tab15]
theorem cosI_in (a : Int) : -32768 ≤ cosI a ∧ cosI a ≤ 32768 := by
  obtain ⟨m, h0, h1, h⟩ := quads a
  have hq := circle h0 h1
  rcases h with h | h | h | h
  · rw [cos_pos h0 h1 (Or.inl h)]; omega
  · rw [cos_pos h0 h1 (Or.inr h)]; omega
  · rw [cos_neg h0 h1 (Or.inl h)]; omega
  · rw [cos_neg h0 h1 (Or.inr h)]; omega
theorem tab15_in (n i : Nat) : -32768 ≤ (tab15 n).getD i 0 ∧ (tab15 n).getD i 0 ≤ 32768 := by
  unfold tab15
  rw [getD_map_range]
  split
  · exact cosI_in _
  · omega
theorem waves_l0 (n : Nat) (h1 : 4 ≤ n) (h2 : n ≤ 480) : ∀ (r i : Nat), i + r = 8 * n →
    Ev (fun k => mdct_waves.l0 k (n : Int) ((List.range i).map (tabAt n) ++ List.replicate r 0) ((8 * n : Nat) : Int) (i : Int)) (tab15 n) := by
  intro r
  induction r with
  | zero =>
    intro i hi
    obtain rfl : i = 8 * n := by omega
    refine Ev.step (fun k => by rw [mdct_waves.l0]) (evNeg (by omega) (evConst ?_))
    simp [tab15]
  | succ r ih =>
    intro i hi
    refine Ev.step (fun k => by rw [mdct_waves.l0]) (evPos (by omega) (evNeg (by omega) ?_))
    have e3 : Int.tdiv ((i : Int) * 65536) 4 = (i : Int) * 16384 := by rw [Int.tdiv_eq_ediv_of_nonneg (by omega)]; omega
    have e1 : Int.tdiv ((i : Int) * 16384) (n : Int) = ((i * 16384 / n : Nat) : Int) := by
      rw [Int.tdiv_eq_ediv_of_nonneg (by omega)]
      simp
    have e2 : i * 16384 / n ≤ i * 16384 := Nat.div_le_self _ _
    rw [w64 (x := (i : Int) * 65536) (by omega) (by omega), e3, w64 (x := (i : Int) * 16384) (by omega) (by omega), e1]
    generalize hq : i * 16384 / n = q at *
    rw [w64 (x := (q : Int)) (by omega) (by omega), w64 (x := (q : Int) + 1) (by omega) (by omega), Int.tdiv_eq_ediv_of_nonneg (by omega), w64 (x := ((q : Int) + 1) / 2) (by omega) (by omega), w64 (x := (i : Int) + 1) (by omega) (by omega)]
    refine Ev.bind (fix_cos _) (evPos (by omega) (evPos (by simp; omega) ?_))
    have e4 : cosI (((q : Int) + 1) / 2) = tabAt n i := by unfold tabAt; rw [hq]
    rw [e4, List.replicate_succ, set_mid ((List.range i).map (tabAt n)) 0 (List.replicate r 0) _ i (by simp)]
    have h := ih (i + 1) (by omega)
    rw [List.range_succ, List.map_append] at h
    simpa using h
theorem waves_ev (n : Nat) (h1 : 4 ≤ n) (h2 : n ≤ 480) : Ev (fun k => mdct_waves.f k (n : Int)) (tab15 n) := by
  refine Ev.congr (fun k => by rw [mdct_waves.f]) ?_
  rw [w64 (x := 8 * (n : Int)) (by omega) (by omega)]
  have e : (8 * (n : Int)).toNat = 8 * n := by omega
  rw [e]
  refine evPos (by omega) (evPos (by omega) ?_)
  refine Ev.congr (fun k => by rw [Option.bind_some]) ?_
  have := waves_l0 n h1 h2 (8 * n) 0 (by omega)
  simpa using this
def dot (v t : List Int) (M p st : Nat) (s : Int) : Nat → Int
  | 0 => s
  | i + 1 => dot v t M p st s i + v.getD i 0 * t.getD ((p + i * st) % M) 0
theorem mul_in {u v A B : Int} (hA : 0 ≤ A) (hu : -A ≤ u ∧ u ≤ A) (hv : -B ≤ v ∧ v ≤ B) (hB : 0 ≤ B) : -(A * B) ≤ u * v ∧ u * v ≤ A * B := by
  have h1 : u * v ≤ A * B ∧ -(A * B) ≤ u * v := by
    rcases Int.le_total 0 u with h | h
    · have a1 : u * v ≤ u * B := Int.mul_le_mul_of_nonneg_left hv.2 h
      have a2 : u * B ≤ A * B := Int.mul_le_mul_of_nonneg_right hu.2 hB
      have a3 : u * (-B) ≤ u * v := Int.mul_le_mul_of_nonneg_left hv.1 h
      rw [Int.mul_neg] at a3
      omega
    · have a1 : u * v ≤ u * (-B) := Int.mul_le_mul_of_nonpos_left h hv.1
      have a2 : (-A) * B ≤ u * B := Int.mul_le_mul_of_nonneg_right hu.1 hB
      have a3 : u * B ≤ u * v := Int.mul_le_mul_of_nonpos_left h hv.2
      rw [Int.mul_neg] at a1
      rw [Int.neg_mul] at a2
      omega
  exact ⟨h1.2, h1.1⟩
theorem dot_in {v t : List Int} {M p st : Nat} {s A : Int} (hA : 0 ≤ A) (hv : ∀ i, -A ≤ v.getD i 0 ∧ v.getD i 0 ≤ A) (ht : ∀ i, -32768 ≤ t.getD i 0 ∧ t.getD i 0 ≤ 32768) : ∀ i : Nat, -(A * 32768 * i) ≤ dot v t M p st s i - s ∧ dot v t M p st s i - s ≤ A * 32768 * i
  | 0 => by simp [dot]
  | i + 1 => by
    have ih := dot_in hA hv ht (M := M) (p := p) (st := st) (s := s) i
    have h := mul_in hA (hv i) (ht ((p + i * st) % M)) (by omega)
    simp only [dot]
    have e : A * 32768 * ((i + 1 : Nat) : Int) = A * 32768 * (i : Int) + A * 32768 := by
      push_cast
      rw [Int.mul_add, Int.mul_one]
    rw [e]
    omega
theorem next_mod {p i st M : Nat} (hM : 0 < M) (hst : st < M) : (if (p + i * st) % M + st ≥ M then (p + i * st) % M + st - M else (p + i * st) % M + st) = (p + (i + 1) * st) % M := by
  have h : (p + (i + 1) * st) % M = ((p + i * st) % M + st) % M := by
    rw [Nat.add_mul, Nat.one_mul, ← Nat.add_assoc, Nat.add_mod (p + i * st) st M, Nat.mod_eq_of_lt hst]
  have h2 := Nat.mod_lt (p + i * st) hM
  rw [h]
  generalize (p + i * st) % M = q at *
  split
  · rw [Nat.mod_eq_sub_mod (by omega), Nat.mod_eq_of_lt (by omega)]
  · rw [Nat.mod_eq_of_lt (by omega)]
def fv (n l : Nat) (x : List Int) (j : Nat) : Int := mul (shAt n l j) (clamp (x.getD j 0) (-16777216) 16777216) 15
def fwdV (n l : Nat) (x : List Int) : List Int := (List.range (2 * n)).map (fv n l x)
def fwdAt (n l : Nat) (x : List Int) (k : Nat) : Int := dot (fwdV n l x) (tab15 n) (8 * n) ((1 + n) * (2 * k + 1) % (8 * n)) (2 * (2 * k + 1) % (8 * n)) 16384 (2 * n) / 32768
def fwd15 (n l : Nat) (x : List Int) : List Int := (List.range n).map (fwdAt n l x)
theorem mul15_in {a b : Int} (ha : 0 ≤ a ∧ a ≤ 32768) (hb : -16777216 ≤ b ∧ b ≤ 16777216) : -16777216 ≤ mul a b 15 ∧ mul a b 15 ≤ 16777216 := by
  unfold mul
  rw [if_neg (by omega), if_neg (by omega), if_neg (by omega)]
  have e1 : fac a = a := clamp_id (by omega) (by omega)
  have e2 : fac b = b := clamp_id (by omega) (by omega)
  rw [e1, e2]
  have h := mul_in (u := a) (v := b) (A := 32768) (B := 16777216) (by omega) (by omega) hb (by omega)
  have e3 : (2 : Int) ^ ((15 : Int) - 1).toNat = 16384 := by decide
  have e4 : (2 : Int) ^ (15 : Int).toNat = 32768 := by decide
  rw [e3, e4]
  omega
theorem fv_in {n l j : Nat} (h : Good15 n l) (x : List Int) (hj : j < 2 * n) : -16777216 ≤ fv n l x j ∧ fv n l x j ≤ 16777216 := mul15_in (shAt_in h hj) (clamp_bounds (by omega))
theorem fwdV_in {n l : Nat} (h : Good15 n l) (x : List Int) (i : Nat) : -16777216 ≤ (fwdV n l x).getD i 0 ∧ (fwdV n l x).getD i 0 ≤ 16777216 := by
  unfold fwdV
  rw [getD_map_range]
  split
  · exact fv_in h x (by assumption)
  · omega
theorem fwdV_len (n l : Nat) (x : List Int) : (fwdV n l x).length = 2 * n := by simp [fwdV]
theorem fwd_l2 (n l : Nat) (h : Good15 n l) (x : List Int) (out : List Int) (kk : Nat) (hk : kk < n) (ho : out.length = n) {R : List Int × Int}
    (hr : Ev (fun k => mdct_Forward.l1 k (n : Int) (fwdV n l x) (tab15 n) (out.set kk (fwdAt n l x kk)) (n : Int) ((kk : Int) + 1)) R) (p st : Nat) (hp : p = (1 + n) * (2 * kk + 1) % (8 * n)) (hst : st = 2 * (2 * kk + 1) % (8 * n)) :
    ∀ (r i : Nat), i + r = 2 * n → Ev (fun k => mdct_Forward.l2 k (n : Int) (fwdV n l x) (tab15 n) out (kk : Int) (dot (fwdV n l x) (tab15 n) (8 * n) p st 16384 i) (((p + i * st) % (8 * n) : Nat) : Int) (st : Int) (n : Int) (kk : Int) ((2 * n : Nat) : Int) (i : Int)) R := by
  obtain ⟨h1, h2, h3, h4, h5⟩ := id h
  have hb := dot_in (v := fwdV n l x) (t := tab15 n) (M := 8 * n) (p := p) (st := st) (s := 16384) (A := 16777216) (by omega) (fwdV_in h x) (tab15_in n)
  intro r
  induction r with
  | zero =>
    intro i hi
    obtain rfl : i = 2 * n := by omega
    refine Ev.step (fun k => by rw [mdct_Forward.l2]) (evNeg (by omega) (evPos (by omega) (evPos (by omega) ?_)))
    rw [w64 (x := (kk : Int) + 1) (by omega) (by omega), Int.toNat_natCast]
    have e : dot (fwdV n l x) (tab15 n) (8 * n) p st 16384 (2 * n) / 32768 = fwdAt n l x kk := by unfold fwdAt; rw [hp, hst]
    rw [e]
    exact hr
  | succ r ih =>
    intro i hi
    have hM : 0 < 8 * n := by omega
    have hst2 : st < 8 * n := by rw [hst]; exact Nat.mod_lt _ hM
    have hq := Nat.mod_lt (p + i * st) hM
    have hnm := next_mod (p := p) (i := i) hM hst2
    have hn := ih (i + 1) (by omega)
    rw [← hnm] at hn
    have b0 := hb i
    have b1 := hb (i + 1)
    have hm := mul_in (u := (fwdV n l x).getD i 0) (v := (tab15 n).getD ((p + i * st) % (8 * n)) 0) (A := 16777216) (B := 32768) (by omega) (fwdV_in h x i) (tab15_in n _) (by omega)
    have ed : dot (fwdV n l x) (tab15 n) (8 * n) p st 16384 (i + 1) = dot (fwdV n l x) (tab15 n) (8 * n) p st 16384 i + (fwdV n l x).getD i 0 * (tab15 n).getD ((p + i * st) % (8 * n)) 0 := rfl
    refine Ev.step (fun k => by rw [mdct_Forward.l2]) ?_
    rw [rd_nat, rd_nat]
    generalize hQ : (p + i * st) % (8 * n) = q at *
    generalize hD : dot (fwdV n l x) (tab15 n) (8 * n) p st 16384 i = D at *
    generalize hE : dot (fwdV n l x) (tab15 n) (8 * n) p st 16384 (i + 1) = E at *
    generalize hU : (fwdV n l x).getD i 0 * (tab15 n).getD q 0 = U at *
    rw [w64 (x := U) (by omega) (by omega), w64 (x := D + U) (by omega) (by omega), w64 (x := (q : Int) + st) (by omega) (by omega), w64 (x := (i : Int) + 1) (by omega) (by omega), tab15_len, fwdV_len, ← ed, w64 (x := (q : Int) + st - ((8 * n : Nat) : Int)) (by omega) (by omega)]
    refine evPos (by omega) (evPos (by omega) (evPos (by omega) (evPos (by omega) (evPos (by omega) ?_))))
    have ei : ((i + 1 : Nat) : Int) = (i : Int) + 1 := by omega
    rw [ei] at hn
    refine evIte (fun hc => ?_) (fun hc => ?_)
    · rw [if_pos (by omega)] at hn
      have e : ((q + st - 8 * n : Nat) : Int) = (q : Int) + st - ((8 * n : Nat) : Int) := by omega
      rw [e] at hn
      exact hn
    · rw [if_neg (by omega)] at hn
      have e : ((q + st : Nat) : Int) = (q : Int) + st := by omega
      rw [e] at hn
      exact hn
theorem fwd_l1 (n l : Nat) (h : Good15 n l) (x : List Int) : ∀ (r i : Nat), i + r = n → Ev (fun k => mdct_Forward.l1 k (n : Int) (fwdV n l x) (tab15 n) ((List.range i).map (fwdAt n l x) ++ List.replicate r 0) (n : Int) (i : Int)) (fwd15 n l x, 0) := by
  obtain ⟨h1, h2, h3, h4, h5⟩ := id h
  intro r
  induction r with
  | zero =>
    intro i hi
    obtain rfl : i = n := by omega
    refine Ev.step (fun k => by rw [mdct_Forward.l1]) (evNeg (by omega) (evConst ?_))
    simp [fwd15]
  | succ r ih =>
    intro i hi
    have hm : (1 + n) * (2 * i + 1) ≤ 481 * 960 := Nat.mul_le_mul (by omega) (by omega)
    refine Ev.step (fun k => by rw [mdct_Forward.l1]) ?_
    rw [w64 (x := 8 * (n : Int)) (by omega) (by omega), w64 (x := 1 + (n : Int)) (by omega) (by omega), w64 (x := 2 * (i : Int)) (by omega) (by omega), w64 (x := 2 * (i : Int) + 1) (by omega) (by omega), w64 (x := 2 * (2 * (i : Int) + 1)) (by omega) (by omega)]
    have e1 : (1 + (n : Int)) * (2 * (i : Int) + 1) = (((1 + n) * (2 * i + 1) : Nat) : Int) := by push_cast; rfl
    have e2 : 2 * (2 * (i : Int) + 1) = ((2 * (2 * i + 1) : Nat) : Int) := by omega
    have e3 : 8 * (n : Int) = ((8 * n : Nat) : Int) := by omega
    rw [e1, w64 (x := (((1 + n) * (2 * i + 1) : Nat) : Int)) (by omega) (by omega), e2, e3, Int.tmod_eq_emod_of_nonneg (Int.natCast_nonneg _), Int.tmod_eq_emod_of_nonneg (Int.natCast_nonneg _), ← Int.natCast_emod, ← Int.natCast_emod, fwdV_len]
    refine evPos (by omega) (evNeg (by omega) ?_)
    have hr := ih (i + 1) (by omega)
    rw [List.range_succ, List.map_append] at hr
    have hs := fwd_l2 n l h x ((List.range i).map (fwdAt n l x) ++ List.replicate (r + 1) 0) i (by omega) (by simp; omega) (R := (fwd15 n l x, 0)) (by
      have e4 : ((List.range i).map (fwdAt n l x) ++ List.replicate (r + 1) 0).set i (fwdAt n l x i) = (List.range i).map (fwdAt n l x) ++ fwdAt n l x i :: List.replicate r 0 := by
        have := set_mid ((List.range i).map (fwdAt n l x)) 0 (List.replicate r 0) (fwdAt n l x i) (i : Int) (by simp)
        rw [Int.toNat_natCast] at this
        rw [List.replicate_succ]
        exact this
      rw [e4]
      simpa using hr) _ _ rfl rfl (2 * n) 0 (by omega)
    have e5 : dot (fwdV n l x) (tab15 n) (8 * n) ((1 + n) * (2 * i + 1) % (8 * n)) (2 * (2 * i + 1) % (8 * n)) 16384 0 = 16384 := rfl
    simp only [e5, Nat.zero_mul, Nat.add_zero, Nat.mod_mod] at hs
    exact hs
theorem fwd_l0 (n l : Nat) (h : Good15 n l) (x : List Int) (hx : x.length = 2 * n) : ∀ (r i : Nat), i + r = 2 * n →
    Ev (fun k => mdct_Forward.l0 k x (n : Int) (shape15 n l) ((List.range i).map (fv n l x) ++ List.replicate r 0) ((2 * n : Nat) : Int) (i : Int)) (fwd15 n l x, 0) := by
  obtain ⟨h1, h2, h3, h4, h5⟩ := id h
  intro r
  induction r with
  | zero =>
    intro i hi
    obtain rfl : i = 2 * n := by omega
    refine Ev.step (fun k => by rw [mdct_Forward.l0]) (evNeg (by omega) (Ev.bind (waves_ev n (by omega) (by omega)) ?_))
    refine evPos (by omega) (evPos (by omega) ?_)
    refine Ev.congr (fun k => by rw [Option.bind_some]) ?_
    rw [Int.toNat_natCast]
    have := fwd_l1 n l h x n 0 (by omega)
    simpa [fwdV] using this
  | succ r ih =>
    intro i hi
    refine Ev.step (fun k => by rw [mdct_Forward.l0]) (evPos (by omega) (evPos (by omega) (evPos (by rw [shape15_len]; omega) (evPos (by omega) ?_))))
    rw [rd_nat, rd_nat, shape15_getD, if_pos (by omega), w64 (x := (i : Int) + 1) (by omega) (by omega)]
    refine Ev.bind (fix_clamp _ _ _) (Ev.bind (fix_mul _ _ 15 (by omega) (by omega)) (evPos (by simp; omega) ?_))
    have e4 : mul (shAt n l i) (clamp (x.getD i 0) (-16777216) 16777216) 15 = fv n l x i := rfl
    rw [e4, List.replicate_succ, set_mid ((List.range i).map (fv n l x)) 0 (List.replicate r 0) _ i (by simp)]
    have hr := ih (i + 1) (by omega)
    rw [List.range_succ, List.map_append] at hr
    simpa using hr
theorem fwd_ev (n l : Nat) (h : Good15 n l) (x : List Int) (hx : x.length = 2 * n) : Ev (fun k => mdct_Forward.f k x (l : Int)) (fwd15 n l x, 0) := by
  obtain ⟨h1, h2, h3, h4, h5⟩ := id h
  refine Ev.congr (fun k => by rw [mdct_Forward.f]) ?_
  have e1 : wrap64 ((x.length : Int) / 2) = (n : Int) := by rw [hx, w64 (by omega) (by omega)]; omega
  have e2 : (((x.length : Int) % 2) != 0) = false := by
    have : (x.length : Int) % 2 = 0 := by omega
    rw [this]
    rfl
  rw [e1, e2]
  refine Ev.bind (shape_ev n l h) (evPos rfl ?_)
  refine Ev.step (fun k => by rw [mdct_Forward.j0]) (evNeg (by simp) (evPos (by omega) (evPos (by omega) ?_)))
  refine Ev.congr (fun k => by rw [Option.bind_some]) ?_
  rw [Int.toNat_natCast, hx]
  have := fwd_l0 n l h x hx (2 * n) 0 (by omega)
  simpa using this
end Go.Proofs.Ytlmacbiahofmcaa.Q
namespace Go.Proofs.Ytlmacbiahofmcaa.Q
open Go.RowKit Go.Proofs.Ytlmacbiahofmcaa.P Go.Proofs.YtlmacbiahofmcaaW.PrintWords Go.Proofs.YtlmacbiahofmcaaW.PrintLast Go.Proofs.YtlmacbiahofmcaaW.PrintMore
open Go.Proofs.Ytlmacbiahofmcaa.M
set_option linter.unusedVariables false
theorem down15 {a d : Int} (hd : 1 ≤ d) (h0 : -9223372036854775807 ≤ a) (h1 : a ≤ 9223372036854775807) : mdct_down.f a d = some (a / d) := by
  unfold mdct_down.f
  rw [if_neg (by omega)]
  rcases Int.le_total 0 a with h | h
  · rw [Int.tmod_eq_emod_of_nonneg h, Int.tdiv_eq_ediv_of_nonneg h]
    have := Int.emod_nonneg a (show d ≠ 0 by omega)
    have h2 := Int.ediv_le_self d h
    have h3 : 0 ≤ a / d := Int.ediv_nonneg h (by omega)
    rw [if_neg (by omega), w64 (by omega) (by omega)]
  · obtain ⟨b, rfl⟩ : ∃ b, a = -b := ⟨-a, by omega⟩
    have hb : 0 ≤ b := by omega
    rw [Int.neg_tmod, Int.neg_tdiv, Int.tmod_eq_emod_of_nonneg hb, Int.tdiv_eq_ediv_of_nonneg hb]
    have e1 := Int.emod_nonneg b (show d ≠ 0 by omega)
    have e2 := Int.emod_lt_of_pos b (show 0 < d by omega)
    have e3 := Int.mul_ediv_add_emod b d
    have e4 : 0 ≤ b / d := Int.ediv_nonneg hb (by omega)
    have e5 := Int.ediv_le_self d hb
    by_cases hz : b % d = 0
    · rw [if_neg (by omega), w64 (by omega) (by omega)]
      congr 1
      rw [Int.neg_ediv_of_dvd (Int.dvd_of_emod_eq_zero hz)]
    · rw [if_pos (by omega), w64 (x := -(b / d)) (by omega) (by omega), w64 (by omega) (by omega)]
      congr 1
      symm
      have e6 : -b = (-(b / d) - 1) * d + (d - b % d) := by
        rw [Int.sub_mul, Int.neg_mul, Int.one_mul, Int.mul_comm (b / d) d]
        omega
      rw [e6, Int.add_comm, Int.add_mul_ediv_right _ _ (by omega), Int.ediv_eq_zero_of_lt (by omega) (by omega)]
      omega
def c34 (v : Int) : Int := clamp v (-17179869184) 17179869184
def invG (f : List Int) : List Int := f.map c34
theorem invG_in (f : List Int) (i : Nat) : -17179869184 ≤ (invG f).getD i 0 ∧ (invG f).getD i 0 ≤ 17179869184 := by
  unfold invG
  rw [List.getD_eq_getElem?_getD, List.getElem?_map]
  cases f[i]? with
  | none => simp
  | some v => exact clamp_bounds (by omega)
def invS (n : Nat) (f : List Int) (j : Nat) : Int := dot (invG f) (tab15 n) (8 * n) ((2 * j + 1 + n) % (8 * n)) (2 * (2 * j + 1 + n) % (8 * n)) 0 n
def invAt (n l : Nat) (f : List Int) (j : Nat) : Int := mul (shAt n l j) (clamp ((2 * invS n f j + 16384 * n) / (32768 * n)) (-16777216) 16777216) 15
def inv15 (n l : Nat) (f : List Int) : List Int := (List.range (2 * n)).map (invAt n l f)
theorem inv15_len (n l : Nat) (f : List Int) : (inv15 n l f).length = 2 * n := by simp [inv15]
theorem invS_in {n : Nat} (h1 : 4 ≤ n) (h2 : n ≤ 480) (f : List Int) (j : Nat) : -270215977642229760 ≤ invS n f j ∧ invS n f j ≤ 270215977642229760 := by
  have hb := dot_in (v := invG f) (t := tab15 n) (M := 8 * n) (p := (2 * j + 1 + n) % (8 * n)) (st := 2 * (2 * j + 1 + n) % (8 * n)) (s := 0) (A := 17179869184) (by omega) (invG_in f) (tab15_in n) n
  unfold invS
  omega
theorem inv_l2 (n l : Nat) (h : Good15 n l) (f : List Int) (hf : f.length = n) (out : List Int) (j : Nat) (hj : j < 2 * n) (ho : out.length = 2 * n) {R : List Int × Int}
    (hr : Ev (fun k => mdct_Inverse.l1 k (n : Int) (shape15 n l) (invG f) (tab15 n) (out.set j (invAt n l f j)) ((2 * n : Nat) : Int) ((j : Int) + 1)) R) (p st : Nat) (hp : p = (2 * j + 1 + n) % (8 * n)) (hst : st = 2 * (2 * j + 1 + n) % (8 * n)) :
    ∀ (r i : Nat), i + r = n → Ev (fun k => mdct_Inverse.l2 k (n : Int) (shape15 n l) (invG f) (tab15 n) out (j : Int) (dot (invG f) (tab15 n) (8 * n) p st 0 i) (((p + i * st) % (8 * n) : Nat) : Int) (st : Int) ((2 * n : Nat) : Int) (j : Int) (n : Int) (i : Int)) R := by
  obtain ⟨h1, h2, h3, h4, h5⟩ := id h
  have hb := dot_in (v := invG f) (t := tab15 n) (M := 8 * n) (p := p) (st := st) (s := 0) (A := 17179869184) (by omega) (invG_in f) (tab15_in n)
  have hgl : (invG f).length = n := by simp [invG, hf]
  intro r
  induction r with
  | zero =>
    intro i hi
    obtain rfl : i = n := by omega
    have hS := invS_in (n := i) (by omega) (by omega) f j
    have e : dot (invG f) (tab15 i) (8 * i) p st 0 i = invS i f j := by unfold invS; rw [hp, hst]
    refine Ev.step (fun k => by rw [mdct_Inverse.l2]) (evNeg (by omega) (evPos (by omega) (evPos (by rw [shape15_len]; omega) ?_)))
    rw [e, rd_nat, shape15_getD, if_pos hj]
    have hA : invAt i l f j = mul (shAt i l j) (clamp ((2 * invS i f j + 16384 * i) / (32768 * i)) (-16777216) 16777216) 15 := rfl
    generalize invS i f j = S at *
    rw [w64 (x := 2 * S) (by omega) (by omega), w64 (x := 16384 * (i : Int)) (by omega) (by omega), w64 (x := 2 * S + 16384 * (i : Int)) (by omega) (by omega), w64 (x := 32768 * (i : Int)) (by omega) (by omega), w64 (x := (j : Int) + 1) (by omega) (by omega), down15 (by omega) (by omega) (by omega)]
    refine Ev.congr (fun k => by rw [Option.bind_some]) (Ev.bind (fix_clamp _ _ _) (Ev.bind (fix_mul _ _ 15 (by omega) (by omega)) ?_))
    refine evPos (by omega) ?_
    rw [Int.toNat_natCast, ← hA]
    exact hr
  | succ r ih =>
    intro i hi
    have hM : 0 < 8 * n := by omega
    have hst2 : st < 8 * n := by rw [hst]; exact Nat.mod_lt _ hM
    have hq := Nat.mod_lt (p + i * st) hM
    have hnm := next_mod (p := p) (i := i) hM hst2
    have hn := ih (i + 1) (by omega)
    rw [← hnm] at hn
    have b0 := hb i
    have b1 := hb (i + 1)
    have hm := mul_in (u := (invG f).getD i 0) (v := (tab15 n).getD ((p + i * st) % (8 * n)) 0) (A := 17179869184) (B := 32768) (by omega) (invG_in f i) (tab15_in n _) (by omega)
    have ed : dot (invG f) (tab15 n) (8 * n) p st 0 (i + 1) = dot (invG f) (tab15 n) (8 * n) p st 0 i + (invG f).getD i 0 * (tab15 n).getD ((p + i * st) % (8 * n)) 0 := rfl
    refine Ev.step (fun k => by rw [mdct_Inverse.l2]) ?_
    rw [rd_nat, rd_nat]
    generalize hQ : (p + i * st) % (8 * n) = q at *
    generalize hD : dot (invG f) (tab15 n) (8 * n) p st 0 i = D at *
    generalize hE : dot (invG f) (tab15 n) (8 * n) p st 0 (i + 1) = E at *
    generalize hU : (invG f).getD i 0 * (tab15 n).getD q 0 = U at *
    rw [w64 (x := U) (by omega) (by omega), w64 (x := D + U) (by omega) (by omega), w64 (x := (q : Int) + st) (by omega) (by omega), w64 (x := (i : Int) + 1) (by omega) (by omega), tab15_len, hgl, ← ed, w64 (x := (q : Int) + st - ((8 * n : Nat) : Int)) (by omega) (by omega)]
    refine evPos (by omega) (evPos (by omega) (evPos (by omega) (evPos (by omega) (evPos (by omega) ?_))))
    have ei : ((i + 1 : Nat) : Int) = (i : Int) + 1 := by omega
    rw [ei] at hn
    refine evIte (fun hc => ?_) (fun hc => ?_)
    · rw [if_pos (by omega)] at hn
      have e : ((q + st - 8 * n : Nat) : Int) = (q : Int) + st - ((8 * n : Nat) : Int) := by omega
      rw [e] at hn
      exact hn
    · rw [if_neg (by omega)] at hn
      have e : ((q + st : Nat) : Int) = (q : Int) + st := by omega
      rw [e] at hn
      exact hn
theorem inv_l1 (n l : Nat) (h : Good15 n l) (f : List Int) (hf : f.length = n) : ∀ (r i : Nat), i + r = 2 * n → Ev (fun k => mdct_Inverse.l1 k (n : Int) (shape15 n l) (invG f) (tab15 n) ((List.range i).map (invAt n l f) ++ List.replicate r 0) ((2 * n : Nat) : Int) (i : Int)) (inv15 n l f, 0) := by
  obtain ⟨h1, h2, h3, h4, h5⟩ := id h
  have hgl : (invG f).length = n := by simp [invG, hf]
  intro r
  induction r with
  | zero =>
    intro i hi
    obtain rfl : i = 2 * n := by omega
    refine Ev.step (fun k => by rw [mdct_Inverse.l1]) (evNeg (by omega) (evConst ?_))
    simp [inv15]
  | succ r ih =>
    intro i hi
    refine Ev.step (fun k => by rw [mdct_Inverse.l1]) ?_
    rw [w64 (x := 8 * (n : Int)) (by omega) (by omega), w64 (x := 2 * (i : Int)) (by omega) (by omega), w64 (x := 2 * (i : Int) + 1) (by omega) (by omega), w64 (x := 2 * (i : Int) + 1 + n) (by omega) (by omega), w64 (x := 2 * (2 * (i : Int) + 1 + n)) (by omega) (by omega)]
    have e1 : 2 * (i : Int) + 1 + (n : Int) = ((2 * i + 1 + n : Nat) : Int) := by omega
    have e2 : 2 * (2 * (i : Int) + 1 + n) = ((2 * (2 * i + 1 + n) : Nat) : Int) := by omega
    have e3 : 8 * (n : Int) = ((8 * n : Nat) : Int) := by omega
    rw [e2, e1, e3, Int.tmod_eq_emod_of_nonneg (Int.natCast_nonneg _), Int.tmod_eq_emod_of_nonneg (Int.natCast_nonneg _), ← Int.natCast_emod, ← Int.natCast_emod, hgl]
    refine evPos (by omega) (evNeg (by omega) ?_)
    have hr := ih (i + 1) (by omega)
    rw [List.range_succ, List.map_append] at hr
    have hs := inv_l2 n l h f hf ((List.range i).map (invAt n l f) ++ List.replicate (r + 1) 0) i (by omega) (by simp; omega) (R := (inv15 n l f, 0)) (by
      have e4 : ((List.range i).map (invAt n l f) ++ List.replicate (r + 1) 0).set i (invAt n l f i) = (List.range i).map (invAt n l f) ++ invAt n l f i :: List.replicate r 0 := by
        have := set_mid ((List.range i).map (invAt n l f)) 0 (List.replicate r 0) (invAt n l f i) (i : Int) (by simp)
        rw [Int.toNat_natCast] at this
        rw [List.replicate_succ]
        exact this
      rw [e4]
      simpa using hr) _ _ rfl rfl n 0 (by omega)
    have e5 : dot (invG f) (tab15 n) (8 * n) ((2 * i + 1 + n) % (8 * n)) (2 * (2 * i + 1 + n) % (8 * n)) 0 0 = 0 := rfl
    simp only [e5, Nat.zero_mul, Nat.add_zero, Nat.mod_mod] at hs
    exact hs
theorem inv_l0 (n l : Nat) (h : Good15 n l) (f : List Int) (hf : f.length = n) : ∀ (r : Nat) (S A : List Int), S.length = r → f = A ++ S →
    Ev (fun k => mdct_Inverse.l0 k (n : Int) (shape15 n l) (A.map c34 ++ List.replicate r 0) f (n : Int) (A.length : Int)) (inv15 n l f, 0) := by
  obtain ⟨h1, h2, h3, h4, h5⟩ := id h
  intro r
  induction r with
  | zero =>
    intro S A hS he
    obtain rfl : S = [] := List.eq_nil_of_length_eq_zero hS
    have he : f = A := by simpa using he
    subst he
    refine Ev.step (fun k => by rw [mdct_Inverse.l0]) (evNeg (by omega) (Ev.bind (waves_ev n (by omega) (by omega)) ?_))
    rw [w64 (x := 2 * (n : Int)) (by omega) (by omega)]
    refine evPos (by omega) (evPos (by omega) ?_)
    refine Ev.congr (fun k => by rw [Option.bind_some]) ?_
    have e : (2 * (n : Int)).toNat = 2 * n := by omega
    rw [e]
    have := inv_l1 n l h f hf (2 * n) 0 (by omega)
    simpa [invG] using this
  | succ r ih =>
    intro S A hS he
    cases S with
    | nil => simp at hS
    | cons s S =>
      simp at hS
      have hlen : f.length = A.length + S.length + 1 := by rw [he]; simp; omega
      refine Ev.step (fun k => by rw [mdct_Inverse.l0]) (evPos (by omega) (evPos (by omega) (evPos (by omega) ?_)))
      have e3 : rd f (A.length : Int) = s := by rw [he]; exact rd_mid _ _ _ _ rfl
      rw [e3, w64 (x := (A.length : Int) + 1) (by omega) (by omega)]
      refine Ev.bind (fix_clamp _ _ _) (evPos (by simp; omega) ?_)
      have e4 : clamp s (-17179869184) 17179869184 = c34 s := rfl
      rw [e4, List.replicate_succ, set_mid (A.map c34) 0 (List.replicate r 0) _ (A.length : Int) (by simp)]
      have := ih S (A ++ [s]) (by omega) (by simpa using he)
      simpa using this
theorem inv_ev (n l : Nat) (h : Good15 n l) (f : List Int) (hf : f.length = n) : Ev (fun k => mdct_Inverse.f k f (l : Int)) (inv15 n l f, 0) := by
  obtain ⟨h1, h2, h3, h4, h5⟩ := id h
  refine Ev.congr (fun k => by rw [mdct_Inverse.f]) ?_
  rw [hf]
  refine Ev.bind (shape_ev n l h) (evPos rfl (evPos (by omega) (evPos (by omega) ?_)))
  rw [Int.toNat_natCast]
  have := inv_l0 n l h f hf n f [] hf rfl
  simpa using this
theorem invAt_in {n l j : Nat} (h : Good15 n l) (f : List Int) (hj : j < 2 * n) : -16777216 ≤ invAt n l f j ∧ invAt n l f j ≤ 16777216 := mul15_in (shAt_in h hj) (clamp_bounds (by omega))
end Go.Proofs.Ytlmacbiahofmcaa.Q
namespace Go.Proofs.Ytlmacbiahofmcaa.Q
open Go.RowKit Go.Proofs.Ytlmacbiahofmcaa.P Go.Proofs.YtlmacbiahofmcaaW.PrintWords Go.Proofs.YtlmacbiahofmcaaW.PrintLast Go.Proofs.YtlmacbiahofmcaaW.PrintMore
open Go.Proofs.Ytlmacbiahofmcaa.M
set_option linter.unusedVariables false
theorem new15 {n l : Nat} (h : Good15 n l) : mdct_New1.f (n : Int) (l : Int) = some ((n : Int), (l : Int), List.replicate n 0, 0) := by
  obtain ⟨h1, h2, h3, h4, h5⟩ := id h
  unfold mdct_New1.f
  rw [good15, decide_eq_true h]
  simp only [Option.bind_some, if_true]
  rw [if_pos (by omega), if_pos (by omega), Int.toNat_natCast]
def In24 (z : List Int) : Prop := ∀ i, -16777216 ≤ z.getD i 0 ∧ z.getD i 0 ≤ 16777216
def nextAt (n l : Nat) (kept f : List Int) (k : Nat) : Int := clamp (kept.getD k 0 + invAt n l f k) (-16777216) 16777216
def next15 (n l : Nat) (kept f : List Int) : List Int := (List.range n).map (nextAt n l kept f)
theorem next15_len (n l : Nat) (kept f : List Int) : (next15 n l kept f).length = n := by simp [next15]
theorem inv15_in {n l : Nat} (h : Good15 n l) (f : List Int) : In24 (inv15 n l f) := by
  intro i
  unfold inv15
  rw [getD_map_range]
  split
  · exact invAt_in h f (by assumption)
  · omega
theorem getD_drop' (z : List Int) (n i : Nat) : (z.drop n).getD i 0 = z.getD (n + i) 0 := by
  rw [List.getD_eq_getElem?_getD, List.getD_eq_getElem?_getD, List.getElem?_drop]
theorem in24_drop {z : List Int} (h : In24 z) (n : Nat) : In24 (z.drop n) := by
  intro i
  rw [getD_drop']
  exact h _
theorem in24_zeros (n : Nat) : In24 (List.replicate n 0) := by
  intro i
  rw [List.getD_eq_getElem?_getD, List.getElem?_replicate]
  split <;> simp
theorem inv15_getD (n l : Nat) (f : List Int) (i : Nat) (hi : i < 2 * n) : (inv15 n l f).getD i 0 = invAt n l f i := by
  unfold inv15
  rw [getD_map_range, if_pos hi]
theorem next_l0 (n l : Nat) (h : Good15 n l) (f kept : List Int) (hk : kept.length = n) (hb : In24 kept) : ∀ (r i : Nat), i + r = n →
    Ev (fun k => mdct_Joiner_Next.l0 k (inv15 n l f) ((List.range i).map (nextAt n l kept f) ++ List.replicate r 0) (n : Int) (i : Int) (n : Int) (l : Int) kept) (next15 n l kept f, 0, (n : Int), (l : Int), (inv15 n l f).drop n) := by
  obtain ⟨h1, h2, h3, h4, h5⟩ := id h
  intro r
  induction r with
  | zero =>
    intro i hi
    obtain rfl : i = n := by omega
    refine Ev.step (fun k => by rw [mdct_Joiner_Next.l0]) ?_
    refine evNeg (by omega) (evPos (by omega) (evPos (by rw [inv15_len]; omega) (evConst ?_)))
    rw [Int.toNat_natCast]
    simp [next15]
  | succ r ih =>
    intro i hi
    refine Ev.step (fun k => by rw [mdct_Joiner_Next.l0]) ?_
    have b1 := hb i
    have b2 := invAt_in h f (j := i) (by omega)
    rw [rd_nat, rd_nat, inv15_getD n l f i (by omega), w64 (x := kept.getD i 0 + invAt n l f i) (by omega) (by omega), w64 (x := (i : Int) + 1) (by omega) (by omega)]
    refine evPos (by omega) (evPos (by omega) (evPos (by omega) (evPos (by rw [inv15_len]; omega) (Ev.bind (fix_clamp _ _ _) ?_))))
    refine evPos (by simp; omega) ?_
    have e4 : clamp (kept.getD i 0 + invAt n l f i) (-16777216) 16777216 = nextAt n l kept f i := rfl
    rw [e4, List.replicate_succ, set_mid ((List.range i).map (nextAt n l kept f)) 0 (List.replicate r 0) _ i (by simp)]
    have hr := ih (i + 1) (by omega)
    rw [List.range_succ, List.map_append] at hr
    simpa using hr
theorem next_ev (n l : Nat) (h : Good15 n l) (f kept : List Int) (hf : f.length = n) (hk : kept.length = n) (hb : In24 kept) :
    Ev (fun k => mdct_Joiner_Next.f k (n : Int) (l : Int) kept f) (next15 n l kept f, 0, (n : Int), (l : Int), (inv15 n l f).drop n) := by
  obtain ⟨h1, h2, h3, h4, h5⟩ := id h
  refine Ev.congr (fun k => by rw [mdct_Joiner_Next.f]) ?_
  refine evPos (by omega) (Ev.bind (inv_ev n l h f hf) (evPos rfl ?_))
  refine evPos (by omega) (evPos (by omega) ?_)
  refine Ev.congr (fun k => by rw [Option.bind_some]) ?_
  rw [Int.toNat_natCast]
  have := next_l0 n l h f kept hk hb n 0 (by omega)
  simpa using this
end Go.Proofs.Ytlmacbiahofmcaa.Q
namespace Go.Proofs.Ytlmacbiahofmcaa.Q
open Go.RowKit Go.Proofs.Ytlmacbiahofmcaa.P Go.Proofs.YtlmacbiahofmcaaW.PrintWords Go.Proofs.YtlmacbiahofmcaaW.PrintLast Go.Proofs.YtlmacbiahofmcaaW.PrintMore
open Go.Proofs.Ytlmacbiahofmcaa.M
set_option linter.unusedVariables false
theorem backs {n : Nat} (h1 : 4 ≤ n) (h2 : n ≤ 160) : chk n = true := by
  by_cases a : n ≤ 96
  · exact backs_0 n h1 a
  by_cases b : n ≤ 118
  · exact backs_1 n (by omega) b
  by_cases c : n ≤ 132
  · exact backs_2 n (by omega) c
  by_cases d : n ≤ 143
  · exact backs_3 n (by omega) d
  by_cases e : n ≤ 153
  · exact backs_4 n (by omega) e
  · exact backs_5 n (by omega) h2
theorem sZ_last (f : Nat → Int) : ∀ r, sZ f (r + 1) = sZ f r + f r
  | 0 => by simp [sZ]
  | r + 1 => by
    have h := sZ_last (fun k => f (k + 1)) r
    show f 0 + sZ (fun k => f (k + 1)) (r + 1) = f 0 + sZ (fun k => f (k + 1)) r + f (r + 1)
    rw [h]
    omega
theorem sZ_zero : ∀ r, sZ (fun _ => 0) r = 0
  | 0 => rfl
  | r + 1 => by
    simp only [sZ]
    rw [sZ_zero r]
    rfl
theorem sZ_swap (f : Nat → Nat → Int) (a : Nat) : ∀ b, sZ (fun k => sZ (fun i => f i k) a) b = sZ (fun i => sZ (fun k => f i k) b) a
  | 0 => by
    simp only [sZ]
    exact (sZ_zero a).symm
  | b + 1 => by
    simp only [sZ]
    rw [sZ_swap (fun i k => f i (k + 1)) a b, sZ_add]
theorem sZ_pick (c : Int) : ∀ (r m : Nat) (f : Nat → Int), m < r → sZ (fun i => f i * (if i = m then c else 0)) r = f m * c
  | 0, _, _, h => by omega
  | r + 1, 0, f, _ => by
    simp only [sZ]
    rw [sZ_congr (g := fun _ => 0) (fun j _ => by rw [if_neg (by omega), Int.mul_zero]), sZ_zero]
    simp
  | r + 1, m + 1, f, h => by
    simp only [sZ]
    rw [if_neg (by omega), Int.mul_zero, Int.zero_add]
    rw [sZ_congr (g := fun i => f (i + 1) * (if i = m then c else 0)) (fun j _ => by
      by_cases e : j = m
      · rw [if_pos e, if_pos (by omega)]
      · rw [if_neg e, if_neg (by omega)])]
    exact sZ_pick c r m (fun i => f (i + 1)) (by omega)
theorem dot_sZ (v t : List Int) (M p st : Nat) (s : Int) : ∀ r, dot v t M p st s r = s + sZ (fun i => v.getD i 0 * t.getD ((p + i * st) % M) 0) r
  | 0 => by simp [dot, sZ]
  | r + 1 => by
    rw [sZ_last]
    simp only [dot]
    rw [dot_sZ v t M p st s r]
    omega
theorem tab_T {n : Nat} (hn : 1 ≤ n) (p : Nat) : (tab15 n).getD (p % (8 * n)) 0 = tabM n (p % (8 * n)) := by
  unfold tab15
  rw [getD_map_range, if_pos (Nat.mod_lt _ (by omega))]
  rfl
theorem step_mod (a i X M : Nat) : (a % M + i * (X % M)) % M = (a + i * X) % M := by
  rw [Nat.mod_add_mod, ← Nat.add_mod_mod, Nat.mul_mod_mod, Nat.add_mod_mod]
theorem idx_f (n i k : Nat) : ((1 + n) * (2 * k + 1) % (8 * n) + i * (2 * (2 * k + 1) % (8 * n))) % (8 * n) = (2 * i + 1 + n) * (2 * k + 1) % (8 * n) := by
  rw [step_mod]
  congr 1
  rw [show i * (2 * (2 * k + 1)) = 2 * i * (2 * k + 1) by rw [← Nat.mul_assoc, Nat.mul_comm i 2], ← Nat.add_mul]
  congr 1
  omega
theorem idx_i (n j k : Nat) : ((2 * j + 1 + n) % (8 * n) + k * (2 * (2 * j + 1 + n) % (8 * n))) % (8 * n) = (2 * j + 1 + n) * (2 * k + 1) % (8 * n) := by
  rw [step_mod]
  congr 1
  rw [show k * (2 * (2 * j + 1 + n)) = (2 * j + 1 + n) * (2 * k) by rw [← Nat.mul_assoc, Nat.mul_comm k 2, Nat.mul_comm], Nat.mul_add, Nat.mul_one, Nat.add_comm]
theorem wv_wN {l i : Nat} (hl : 1 ≤ l) (hi : i < l) : wv l i = (wN l i : Int) := by
  have hw := wat_in (l := (l : Int)) (i := (i : Int)) (by omega) (by omega)
  have e : wat (l : Int) (i : Int) = ((((2 * i + 1) * 16384 / l + 1) / 2 : Nat) : Int) := by
    unfold wat
    have : (2 * (i : Int) + 1) * 16384 / (l : Int) = (((2 * i + 1) * 16384 / l : Nat) : Int) := by
      have e : (2 * (i : Int) + 1) * 16384 = (((2 * i + 1) * 16384 : Nat) : Int) := by omega
      rw [e]
      exact (Int.natCast_ediv _ _).symm
    rw [this]
    omega
  unfold wv
  rw [e, gwN_is (by omega)]
  rfl
theorem blt_t {a b : Nat} (h : a < b) : Nat.blt a b = true := by simpa [Nat.blt_eq] using h
theorem blt_f {a b : Nat} (h : ¬ a < b) : Nat.blt a b = false := by
  cases hx : Nat.blt a b with
  | false => rfl
  | true => exact absurd (by simpa [Nat.blt_eq] using hx) h
theorem sh_shN {n l j : Nat} (h : Good15 n l) (hj : j < 2 * n) : shAt n l j = (shN n l j : Int) := by
  obtain ⟨h1, h2, h3, h4, h5⟩ := h
  have e : shN n l j = cond (Nat.blt j ((n - l) / 2)) 0 (cond (Nat.blt j ((n - l) / 2 + l)) (wN l (j - (n - l) / 2)) (cond (Nat.blt j (2 * n - (n - l) / 2 - l)) 32768 (cond (Nat.blt j (2 * n - (n - l) / 2)) (wN l (2 * n - 1 - (n - l) / 2 - j)) 0))) := rfl
  rw [e]
  unfold shAt shJ shI
  generalize hz : (n - l) / 2 = z at *
  have hz2 : 2 * z + l = n := by omega
  by_cases c1 : j < z
  · rw [blt_t c1, if_neg (by omega), if_neg (by omega), if_neg (by omega)]
    rfl
  rw [blt_f c1]
  by_cases c2 : j < z + l
  · rw [blt_t c2, if_neg (by omega), if_pos (by omega), wv_wN (by omega) (by omega)]
    rfl
  rw [blt_f c2]
  by_cases c3 : j < 2 * n - z - l
  · rw [blt_t c3, if_pos (by omega)]
    rfl
  rw [blt_f c3]
  by_cases c4 : j < 2 * n - z
  · rw [blt_t c4, if_neg (by omega), if_neg (by omega), if_pos (by omega), wv_wN (by omega) (by omega)]
    rfl
  · rw [blt_f c4, if_neg (by omega), if_neg (by omega), if_neg (by omega)]
    rfl
theorem sh_mir {n l j : Nat} (h : Good15 n l) (hj : j < n) : shAt n l (2 * n - 1 - j) = shAt n l j := by
  obtain ⟨h1, h2, h3, h4, h5⟩ := h
  unfold shAt shJ shI
  generalize hz : (n - l) / 2 = z
  have hz2 : 2 * z + l = n := by omega
  by_cases c1 : j < z
  · rw [if_neg (by omega), if_neg (by omega), if_neg (by omega), if_neg (by omega), if_neg (by omega), if_neg (by omega)]
  · by_cases c2 : j < z + l
    · rw [if_neg (by omega), if_neg (by omega), if_pos (by omega), if_neg (by omega), if_pos (by omega)]
      congr 1
      omega
    · rw [if_pos (by omega), if_pos (by omega)]
theorem sh_pair {n l j : Nat} (h : Good15 n l) (hn : n ≤ 160) (hj : j < n) : -204801 ≤ shAt n l j * shAt n l j + shAt n l (n - 1 - j) * shAt n l (n - 1 - j) - 1073741824 ∧ shAt n l j * shAt n l j + shAt n l (n - 1 - j) * shAt n l (n - 1 - j) - 1073741824 ≤ 204801 ∧ shAt n l j + shAt n l (n - 1 - j) ≤ 46400 := by
  obtain ⟨h1, h2, h3, h4, h5⟩ := h
  unfold shAt shJ shI
  generalize hz : (n - l) / 2 = z
  have hz2 : 2 * z + l = n := by omega
  by_cases c1 : j < z
  · rw [if_neg (by omega), if_neg (by omega), if_neg (by omega), if_pos (by omega)]
    decide
  by_cases c2 : j < z + l
  · have hw := okW_is (windows_at (l := l) (i := j - z) (by omega) (by omega))
    rw [if_neg (by omega), if_pos (by omega), if_neg (by omega), if_pos (by omega), wv_wN (by omega) (by omega), wv_wN (by omega) (by omega)]
    have e : n - 1 - j - z = l - 1 - (j - z) := by omega
    rw [e]
    generalize wN l (j - z) = a at *
    generalize wN l (l - 1 - (j - z)) = b at *
    have e1 : (a : Int) * (a : Int) = ((a * a : Nat) : Int) := by simp
    have e2 : (b : Int) * (b : Int) = ((b * b : Nat) : Int) := by simp
    rw [e1, e2]
    generalize a * a = aa at *
    generalize b * b = bb at *
    omega
  · rw [if_pos (by omega), if_neg (by omega), if_neg (by omega), if_neg (by omega)]
    decide
theorem fwd_sum {n l : Nat} (hn : 1 ≤ n) (x : List Int) (k : Nat) : fwdAt n l x k = (16384 + sZ (fun i => fv n l x i * T n i k) (2 * n)) / 32768 := by
  unfold fwdAt
  rw [dot_sZ]
  congr 2
  refine sZ_congr fun i hi => ?_
  rw [idx_f, tab_T hn]
  unfold fwdV
  rw [getD_map_range, if_pos hi]
  rfl
theorem fv_eq {n l i : Nat} {x : List Int} (h : Good15 n l) (hi : i < 2 * n) (hx : -32768 ≤ x.getD i 0 ∧ x.getD i 0 ≤ 32767) : fv n l x i = (shAt n l i * x.getD i 0 + 16384) / 32768 := by
  have hs := shAt_in h hi
  unfold fv mul
  rw [if_neg (by omega), if_neg (by omega), if_neg (by omega), clamp_id (a := x.getD i 0) (by omega) (by omega)]
  have e1 : fac (shAt n l i) = shAt n l i := fac_id (by omega) (by omega)
  have e2 : fac (x.getD i 0) = x.getD i 0 := fac_id (by omega) (by omega)
  have e3 : (2 : Int) ^ ((15 : Int) - 1).toNat = 16384 := by decide
  have e4 : (2 : Int) ^ (15 : Int).toNat = 32768 := by decide
  rw [e1, e2, e3, e4]
theorem fv_sh {n l i : Nat} {x : List Int} (h : Good15 n l) (hi : i < 2 * n) (hx : -32768 ≤ x.getD i 0 ∧ x.getD i 0 ≤ 32767) : -shAt n l i ≤ fv n l x i ∧ fv n l x i ≤ shAt n l i := by
  have hs := shAt_in h hi
  rw [fv_eq h hi hx]
  generalize shAt n l i = s at *
  generalize x.getD i 0 = v at *
  have a1 : s * v ≤ s * 32767 := Int.mul_le_mul_of_nonneg_left hx.2 hs.1
  have a2 : s * (-32768) ≤ s * v := Int.mul_le_mul_of_nonneg_left hx.1 hs.1
  omega
theorem sZ_abs_le : ∀ {r : Nat} {f : Nat → Int} {g : Nat → Nat}, (∀ k, k < r → -(g k : Int) ≤ f k ∧ f k ≤ (g k : Int)) → -((sN g r : Nat) : Int) ≤ sZ f r ∧ sZ f r ≤ ((sN g r : Nat) : Int)
  | 0, _, _, _ => by simp [sZ, sN]
  | r + 1, f, g, h => by
    have h0 := h 0 (by omega)
    have ih := sZ_abs_le (r := r) (f := fun k => f (k + 1)) (g := fun k => g (k + 1)) fun k hk => h (k + 1) (by omega)
    simp only [sZ, sN]
    push_cast
    omega
theorem abs_mul_le {v d : Int} {s : Nat} (hv : -(s : Int) ≤ v ∧ v ≤ (s : Int)) : -((s * d.natAbs : Nat) : Int) ≤ v * d ∧ v * d ≤ ((s * d.natAbs : Nat) : Int) := by
  have h : (v * d).natAbs ≤ s * d.natAbs := by rw [Int.natAbs_mul]; exact Nat.mul_le_mul (by omega) (Nat.le_refl _)
  omega
def In16x (x : List Int) : Prop := ∀ i, -32768 ≤ x.getD i 0 ∧ x.getD i 0 ≤ 32767
def ff (n l : Nat) (x : List Int) : List Int := fwd15 n l x
def yy (n l : Nat) (x : List Int) (j : Nat) : Int := (2 * invS n (ff n l x) j + 16384 * n) / (32768 * n)
def mirV (n l : Nat) (x : List Int) (j : Nat) : Int := if j < n then -fv n l x (n - 1 - j) else fv n l x (3 * n - 1 - j)
theorem ff_in {n l : Nat} (h : Good15 n l) (hn : n ≤ 160) (x : List Int) (hx : In16x x) (k : Nat) : -17179869184 ≤ fwdAt n l x k ∧ fwdAt n l x k ≤ 17179869184 := by
  have h1 := h.1
  rw [fwd_sum (by omega)]
  have := sZ_in (b := 1073741824) (by omega) (r := 2 * n) (f := fun i => fv n l x i * T n i k) fun i hi => by
    have a := fv_sh h hi (hx i)
    have b := shAt_in h hi
    have c := T_in n i k
    have := mul_in (u := fv n l x i) (v := T n i k) (A := 32768) (B := 32768) (by omega) (by omega) c (by omega)
    omega
  omega
theorem invS_sum {n l : Nat} (h : Good15 n l) (hn : n ≤ 160) (x : List Int) (hx : In16x x) (j : Nat) : invS n (ff n l x) j = sZ (fun k => fwdAt n l x k * T n j k) n := by
  have h1 := h.1
  unfold invS
  rw [dot_sZ, Int.zero_add]
  refine sZ_congr fun k hk => ?_
  rw [idx_i, tab_T (by omega)]
  have e : (invG (ff n l x)).getD k 0 = fwdAt n l x k := by
    unfold invG ff fwd15
    rw [List.map_map, getD_map_range, if_pos hk]
    have := ff_in h hn x hx k
    show c34 (fwdAt n l x k) = _
    exact clamp_id this.1 this.2
  rw [e]
  rfl
theorem II_sum {n : Nat} (f : Nat → Int) {j : Nat} (hj : j < 2 * n) : sZ (fun i => f i * II n j i) (2 * n) = f j + (if j < n then -f (n - 1 - j) else f (3 * n - 1 - j)) := by
  by_cases h : j < n
  · rw [if_pos h, sZ_congr (g := fun i => f i * (if i = j then 1 else 0) + f i * (if i = n - 1 - j then -1 else 0)) (fun i _ => by
      unfold II
      rw [if_pos h, Int.mul_add]), ← sZ_add, sZ_pick 1 _ j _ hj, sZ_pick (-1) _ (n - 1 - j) _ (by omega)]
    omega
  · rw [if_neg h, sZ_congr (g := fun i => f i * (if i = j then 1 else 0) + f i * (if i = 3 * n - 1 - j then 1 else 0)) (fun i _ => by
      unfold II
      rw [if_neg h, Int.mul_add]), ← sZ_add, sZ_pick 1 _ j _ hj, sZ_pick 1 _ (3 * n - 1 - j) _ (by omega)]
    omega
theorem one_block {n l : Nat} (h : Good15 n l) (hn : n ≤ 160) (x : List Int) (hx : In16x x) {j : Nat} (hj : j < 2 * n) :
    ∃ e : Int, (n : Int) * 1073741824 * yy n l x j = (n : Int) * 1073741824 * (fv n l x j + mirV n l x j) + e ∧ -(2 * (wsum n l j : Int) + (n : Int) * 1610612736) ≤ e ∧ e ≤ 2 * (wsum n l j : Int) + (n : Int) * 1610612736 := by
  obtain ⟨h1, h2, h3, h4, h5⟩ := id h
  have hn0 : 0 < (n : Int) := by omega
  -- the frequencies
  obtain ⟨ep, hep, hepb⟩ : ∃ ep : Nat → Int, (∀ k, 32768 * fwdAt n l x k = sZ (fun i => fv n l x i * T n i k) (2 * n) + ep k) ∧ ∀ k, -16384 ≤ ep k ∧ ep k ≤ 16384 := by
    refine ⟨fun k => 32768 * fwdAt n l x k - sZ (fun i => fv n l x i * T n i k) (2 * n), fun k => by
      show 32768 * fwdAt n l x k = sZ (fun i => fv n l x i * T n i k) (2 * n) + (32768 * fwdAt n l x k - sZ (fun i => fv n l x i * T n i k) (2 * n))
      omega, fun k => ?_⟩
    show -16384 ≤ 32768 * fwdAt n l x k - sZ (fun i => fv n l x i * T n i k) (2 * n) ∧ 32768 * fwdAt n l x k - sZ (fun i => fv n l x i * T n i k) (2 * n) ≤ 16384
    rw [fwd_sum (by omega)]
    generalize sZ (fun i => fv n l x i * T n i k) (2 * n) = s
    omega
  -- the samples' sum
  have hS : 32768 * invS n (ff n l x) j = (n : Int) * 536870912 * (fv n l x j + mirV n l x j) + sZ (fun i => fv n l x i * DD n j i) (2 * n) + sZ (fun k => ep k * T n j k) n := by
    have e0 : ∀ k, 32768 * (fwdAt n l x k * T n j k) = sZ (fun i => fv n l x i * (T n j k * T n i k)) (2 * n) + ep k * T n j k := by
      intro k
      have a1 : 32768 * (fwdAt n l x k * T n j k) = (32768 * fwdAt n l x k) * T n j k := (Int.mul_assoc _ _ _).symm
      rw [a1, hep k, Int.add_mul]
      congr 1
      rw [Int.mul_comm, sZ_mul]
      exact sZ_congr fun i _ => by rw [← Int.mul_assoc, Int.mul_comm (T n j k), Int.mul_assoc]
    rw [invS_sum h hn x hx, sZ_mul, sZ_congr (g := fun k => sZ (fun i => fv n l x i * (T n j k * T n i k)) (2 * n) + ep k * T n j k) (fun k _ => e0 k)]
    rw [← sZ_add, sZ_swap (fun i k => fv n l x i * (T n j k * T n i k)) (2 * n) n]
    congr 1
    rw [sZ_congr (g := fun i => (n : Int) * 536870912 * (fv n l x i * II n j i) + fv n l x i * DD n j i) (fun i _ => by
      rw [← sZ_mul]
      have e : sZ (fun k => T n j k * T n i k) n = (n : Int) * 536870912 * II n j i + DD n j i := by
        show GG n j i = _
        unfold DD
        omega
      rw [e, Int.mul_add]
      congr 1
      rw [← Int.mul_assoc, Int.mul_comm (fv n l x i), Int.mul_assoc])]
    rw [← sZ_add, ← sZ_mul, II_sum _ hj]
    rfl
  have hP := sZ_abs_le (r := 2 * n) (f := fun i => fv n l x i * DD n j i) (g := fun i => shN n l i * (DD n j i).natAbs) fun i hi => by
    have a := fv_sh h hi (hx i)
    rw [sh_shN h hi] at a
    exact abs_mul_le a
  have hQ := sZ_in (b := 536870912) (by omega) (r := n) (f := fun k => ep k * T n j k) fun k _ => by
    have := mul_in (u := ep k) (v := T n j k) (A := 16384) (B := 32768) (by omega) (hepb k) (T_in n j k) (by omega)
    omega
  have hW : sN (fun i => shN n l i * (DD n j i).natAbs) (2 * n) = wsum n l j := rfl
  rw [hW] at hP
  generalize sZ (fun i => fv n l x i * DD n j i) (2 * n) = P at *
  generalize sZ (fun k => ep k * T n j k) n = Q at *
  have hy := Int.mul_ediv_add_emod (2 * invS n (ff n l x) j + 16384 * n) (32768 * n)
  have hy1 := Int.emod_nonneg (2 * invS n (ff n l x) j + 16384 * n) (show (32768 : Int) * n ≠ 0 by omega)
  have hy2 := Int.emod_lt_of_pos (2 * invS n (ff n l x) j + 16384 * n) (show 0 < (32768 : Int) * n by omega)
  have hyy : yy n l x j = (2 * invS n (ff n l x) j + 16384 * n) / (32768 * n) := rfl
  rw [← hyy] at hy
  generalize (2 * invS n (ff n l x) j + 16384 * n) % (32768 * n) = rem at *
  generalize invS n (ff n l x) j = S at *
  generalize yy n l x j = y at *
  generalize fv n l x j + mirV n l x j = u at *
  generalize (wsum n l j : Int) = w at *
  refine ⟨(n : Int) * 1073741824 * y - (n : Int) * 1073741824 * u, by omega, ?_⟩
  have e1 : (n : Int) * 1073741824 * y = 32768 * (32768 * n * y) := by
    rw [Int.mul_assoc 32768, ← Int.mul_assoc 32768 32768, ← Int.mul_assoc, Int.mul_comm (n : Int) 1073741824]
    rfl
  have e2 : (n : Int) * 1073741824 * u = 2 * ((n : Int) * 536870912 * u) := by
    rw [← Int.mul_assoc, Int.mul_comm (n : Int) 536870912, ← Int.mul_assoc, Int.mul_comm (n : Int) 1073741824]
    rfl
  rw [e1, e2]
  generalize 32768 * (n : Int) * y = ny at *
  generalize (n : Int) * 536870912 * u = nu at *
  omega
end Go.Proofs.Ytlmacbiahofmcaa.Q
namespace Go.Proofs.Ytlmacbiahofmcaa.Q
open Go.RowKit Go.Proofs.Ytlmacbiahofmcaa.P Go.Proofs.YtlmacbiahofmcaaW.PrintWords Go.Proofs.YtlmacbiahofmcaaW.PrintLast Go.Proofs.YtlmacbiahofmcaaW.PrintMore
open Go.Proofs.Ytlmacbiahofmcaa.M
set_option linter.unusedVariables false
theorem shN_le {n l j : Nat} (h : Good15 n l) (hj : j < 2 * n) : shN n l j ≤ 32768 := by
  have h1 := shAt_in h hj
  rw [sh_shN h hj] at h1
  omega
theorem sN_mul_le {c : Nat} : ∀ {r : Nat} {s f : Nat → Nat}, (∀ j, j < r → s j ≤ c) → sN (fun j => s j * f j) r ≤ c * sN f r
  | 0, _, _, _ => by simp [sN]
  | r + 1, s, f, h => by
    simp only [sN]
    have h0 := Nat.mul_le_mul (h 0 (by omega)) (Nat.le_refl (f 0))
    have ih := sN_mul_le (r := r) (s := fun k => s (k + 1)) (f := fun k => f (k + 1)) fun j hj => h (j + 1) (by omega)
    rw [Nat.mul_add]
    omega
theorem wsum_row {n l i : Nat} (h : Good15 n l) (hn : n ≤ 160) (hi : i < 2 * n) : wsum n l i ≤ 32768 * bnd n i := by
  have h1 := h.1
  have hb := chk_is (n := n) (by omega) hn (backs (by omega) hn) hi
  have hs : wsum n l i ≤ 32768 * sN (fun j => (DD n i j).natAbs) (2 * n) := sN_mul_le fun j hj => shN_le h hj
  exact Nat.le_trans hs (Nat.mul_le_mul (Nat.le_refl _) hb)
theorem bnd_le (n i : Nat) : bnd n i ≤ n * 1277952 := by
  show cond (isBad n (Nat.mod i n)) (n * 1277952) (n * 573440) ≤ _
  cases isBad n (Nat.mod i n)
  · exact Nat.mul_le_mul (Nat.le_refl n) (by decide)
  · exact Nat.le_refl _
theorem bnd_good {n i : Nat} (h : isBad n (i % n) = false) : bnd n i = n * 573440 := by
  show cond (isBad n (i % n)) (n * 1277952) (n * 573440) = _
  rw [h]
  rfl
theorem pair_bound {n l j : Nat} (h : Good15 n l) (hn : n ≤ 160) (hj : j < n) : 2 * (shN n l (n - 1 - j) * wsum n l (n + j) + shN n l j * wsum n l j) ≤ n * 1759218604441600 := by
  obtain ⟨h1, h2, h3, h4, h5⟩ := id h
  cases hb : isBad n j with
  | true => exact chkB_is (by omega) hn (bad_all hj hb) hj (by omega) (by omega) (by omega)
  | false =>
    have w1 := wsum_row h hn (i := n + j) (by omega)
    have w2 := wsum_row h hn (i := j) (by omega)
    rw [bnd_good (by rw [Nat.add_mod_left, Nat.mod_eq_of_lt hj]; exact hb)] at w1
    rw [bnd_good (by rw [Nat.mod_eq_of_lt hj]; exact hb)] at w2
    have hp := (sh_pair h hn hj).2.2
    rw [sh_shN h (by omega), sh_shN h (by omega)] at hp
    have m1 := Nat.mul_le_mul (Nat.le_refl (shN n l (n - 1 - j))) w1
    have m2 := Nat.mul_le_mul (Nat.le_refl (shN n l j)) w2
    have e : shN n l (n - 1 - j) * (32768 * (n * 573440)) + shN n l j * (32768 * (n * 573440)) = (shN n l (n - 1 - j) + shN n l j) * (32768 * (n * 573440)) := (Nat.add_mul _ _ _).symm
    have m3 : (shN n l (n - 1 - j) + shN n l j) * (32768 * (n * 573440)) ≤ 46400 * (32768 * (n * 573440)) := Nat.mul_le_mul (by omega) (Nat.le_refl _)
    generalize shN n l (n - 1 - j) * wsum n l (n + j) = p at *
    generalize shN n l j * wsum n l j = q at *
    omega
theorem le_of_scaled {N y u e c : Int} (hN : 0 < N) (h : N * y = N * u + e) (h1 : -(N * c) < e + N) (h2 : e < N * c + N) : -c ≤ y - u ∧ y - u ≤ c := by
  have e1 : N * (y - u) = e := by rw [Int.mul_sub]; omega
  constructor
  · refine Int.not_lt.mp fun hlt => ?_
    have := Int.mul_le_mul_of_nonneg_left (show y - u ≤ -c - 1 by omega) (show 0 ≤ N by omega)
    have e2 : N * (-c - 1) = -(N * c) - N := by rw [Int.mul_sub, Int.mul_neg, Int.mul_one]
    omega
  · refine Int.not_lt.mp fun hlt => ?_
    have := Int.mul_le_mul_of_nonneg_left (show c + 1 ≤ y - u by omega) (show 0 ≤ N by omega)
    have e2 : N * (c + 1) = N * c + N := by rw [Int.mul_add, Int.mul_one]
    omega
theorem mirV_in {n l j : Nat} {x : List Int} (h : Good15 n l) (hx : In16x x) (hj : j < 2 * n) : -32768 ≤ mirV n l x j ∧ mirV n l x j ≤ 32768 := by
  have key : ∀ i, i < 2 * n → -32768 ≤ fv n l x i ∧ fv n l x i ≤ 32768 := fun i hi => by
    have a := fv_sh h hi (hx i)
    have b := shAt_in h hi
    omega
  unfold mirV
  split
  · have := key (n - 1 - j) (by omega)
    omega
  · exact key (3 * n - 1 - j) (by omega)
theorem yy_in {n l : Nat} (h : Good15 n l) (hn : n ≤ 160) (x : List Int) (hx : In16x x) {j : Nat} (hj : j < 2 * n) : -65700 ≤ yy n l x j ∧ yy n l x j ≤ 65700 := by
  obtain ⟨e, he, h1, h2⟩ := one_block h hn x hx hj
  have hn4 := h.1
  have hw := wsum_row h hn hj
  have hb := bnd_le n j
  have a := fv_sh h hj (hx j)
  have b := shAt_in h hj
  have c := mirV_in h hx hj
  have := le_of_scaled (N := (n : Int) * 1073741824) (c := 82) (by omega) he (by omega) (by omega)
  omega
theorem inv_eq {n l : Nat} (h : Good15 n l) (hn : n ≤ 160) (x : List Int) (hx : In16x x) {j : Nat} (hj : j < 2 * n) : invAt n l (ff n l x) j = (shAt n l j * yy n l x j + 16384) / 32768 := by
  have hy := yy_in h hn x hx hj
  have hs := shAt_in h hj
  have e : invAt n l (ff n l x) j = mul (shAt n l j) (clamp (yy n l x j) (-16777216) 16777216) 15 := rfl
  rw [e, clamp_id (by omega) (by omega)]
  unfold mul
  rw [if_neg (by omega), if_neg (by omega), if_neg (by omega)]
  have e1 : fac (shAt n l j) = shAt n l j := fac_id (by omega) (by omega)
  have e2 : fac (yy n l x j) = yy n l x j := fac_id (by omega) (by omega)
  have e3 : (2 : Int) ^ ((15 : Int) - 1).toNat = 16384 := by decide
  have e4 : (2 : Int) ^ (15 : Int).toNat = 32768 := by decide
  rw [e1, e2, e3, e4]
theorem rnd {z s : Int} (h : z = (s + 16384) / 32768) : ∃ q, 32768 * z = s + q ∧ -16384 ≤ q ∧ q ≤ 16384 := ⟨32768 * z - s, by omega, by omega, by omega⟩
theorem ident {N a b x xm vp1 vp2 vc1 vc2 yp yc zp zc r1 r2 r3 r4 q1 q2 ep ec : Int} (hv1 : 32768 * vp1 = b * x + r1) (hv2 : 32768 * vp2 = a * xm + r2) (hv3 : 32768 * vc1 = a * x + r3) (hv4 : 32768 * vc2 = b * xm + r4)
    (hyp : N * yp = N * (vp1 + vp2) + ep) (hyc : N * yc = N * (vc1 + -vc2) + ec) (hzp : 32768 * zp = b * yp + q1) (hzc : 32768 * zc = a * yc + q2) :
    1073741824 * (N * (zp + zc - x)) = N * ((a * a + b * b - 1073741824) * x + b * (r1 + r2) + a * (r3 - r4)) + 32768 * (b * ep + a * ec) + 32768 * (N * (q1 + q2)) := by
  grind
theorem times_in {a u U : Int} (ha : 0 ≤ a) (h : -U ≤ u ∧ u ≤ U) : -(a * U) ≤ a * u ∧ a * u ≤ a * U := by
  have h1 := Int.mul_le_mul_of_nonneg_left h.1 ha
  have h2 := Int.mul_le_mul_of_nonneg_left h.2 ha
  rw [Int.mul_neg] at h1
  exact ⟨h1, h2⟩
theorem sample {n l : Nat} (h : Good15 n l) (hn : n ≤ 160) (xp xc : List Int) (hxp : In16x xp) (hxc : In16x xc) (hs : ∀ i, i < n → xp.getD (n + i) 0 = xc.getD i 0) {j : Nat} (hj : j < n) :
    -64 ≤ clamp (invAt n l (ff n l xp) (n + j) + invAt n l (ff n l xc) j) (-16777216) 16777216 - xc.getD j 0 ∧ clamp (invAt n l (ff n l xp) (n + j) + invAt n l (ff n l xc) j) (-16777216) 16777216 - xc.getD j 0 ≤ 64 := by
  have hn4 := h.1
  obtain ⟨ep, hyp, e1, e2⟩ := one_block h hn xp hxp (j := n + j) (by omega)
  obtain ⟨ec, hyc, e3, e4⟩ := one_block h hn xc hxc (j := j) (by omega)
  have sb : shAt n l (n + j) = shAt n l (n - 1 - j) := by
    have := sh_mir h (j := n - 1 - j) (by omega)
    rwa [show 2 * n - 1 - (n - 1 - j) = n + j by omega] at this
  have sa : shAt n l (2 * n - 1 - j) = shAt n l j := sh_mir h hj
  obtain ⟨r1, hv1, r1a, r1b⟩ := rnd (fv_eq h (i := n + j) (by omega) (hxp _))
  obtain ⟨r2, hv2, r2a, r2b⟩ := rnd (fv_eq h (i := 2 * n - 1 - j) (by omega) (hxp _))
  obtain ⟨r3, hv3, r3a, r3b⟩ := rnd (fv_eq h (i := j) (by omega) (hxc _))
  obtain ⟨r4, hv4, r4a, r4b⟩ := rnd (fv_eq h (i := n - 1 - j) (by omega) (hxc _))
  obtain ⟨q1, hzp, q1a, q1b⟩ := rnd (inv_eq h hn xp hxp (j := n + j) (by omega))
  obtain ⟨q2, hzc, q2a, q2b⟩ := rnd (inv_eq h hn xc hxc (j := j) (by omega))
  have mp : mirV n l xp (n + j) = fv n l xp (2 * n - 1 - j) := by
    unfold mirV
    rw [if_neg (by omega), show 3 * n - 1 - (n + j) = 2 * n - 1 - j by omega]
  have mc : mirV n l xc j = -fv n l xc (n - 1 - j) := by
    unfold mirV
    rw [if_pos hj]
  have hm : xp.getD (2 * n - 1 - j) 0 = xc.getD (n - 1 - j) 0 := by
    have := hs (n - 1 - j) (by omega)
    rwa [show n + (n - 1 - j) = 2 * n - 1 - j by omega] at this
  rw [mp] at hyp
  rw [mc] at hyc
  rw [sb, hs j hj] at hv1
  rw [sa, hm] at hv2
  rw [sb] at hzp
  have hp := sh_pair h hn hj
  have hpb := pair_bound h hn hj
  have ha := shAt_in h (j := j) (by omega)
  have hb := shAt_in h (j := n - 1 - j) (by omega)
  have ea : (shN n l j : Int) = shAt n l j := (sh_shN h (by omega)).symm
  have eb : (shN n l (n - 1 - j) : Int) = shAt n l (n - 1 - j) := (sh_shN h (by omega)).symm
  have hx := hxc j
  have hyi := yy_in h hn xp hxp (j := n + j) (by omega)
  have hyj := yy_in h hn xc hxc (j := j) (by omega)
  -- the pair's bound, in whole numbers
  have hpb2 : 2 * (shAt n l (n - 1 - j) * (wsum n l (n + j) : Int) + shAt n l j * (wsum n l j : Int)) ≤ (n : Int) * 1759218604441600 := by
    rw [← ea, ← eb, ← Int.natCast_mul, ← Int.natCast_mul]
    generalize shN n l (n - 1 - j) * wsum n l (n + j) = p at *
    generalize shN n l j * wsum n l j = q at *
    omega
  have key := ident hv1 hv2 hv3 hv4 hyp hyc hzp hzc
  clear hv1 hv2 hv3 hv4 hyp hyc ea eb hpb hm mp mc sa sb
  generalize shAt n l j = a at *
  generalize shAt n l (n - 1 - j) = b at *
  generalize (wsum n l (n + j) : Int) = wp at *
  generalize (wsum n l j : Int) = wc at *
  generalize invAt n l (ff n l xp) (n + j) = zp at *
  generalize invAt n l (ff n l xc) j = zc at *
  generalize xc.getD j 0 = x at *
  generalize yy n l xp (n + j) = yp at *
  generalize yy n l xc j = yc at *
  -- no number is clamped
  have z1 := times_in hb.1 (u := yp) (U := 65700) hyi
  have z2 := times_in ha.1 (u := yc) (U := 65700) hyj
  have hz : -16777216 ≤ zp + zc ∧ zp + zc ≤ 16777216 := by omega
  rw [clamp_id hz.1 hz.2]
  -- what is left
  have t1 := mul_in (u := a * a + b * b - 1073741824) (v := x) (A := 204801) (B := 32768) (by omega) (by omega) (by omega) (by omega)
  have t2 := times_in hb.1 (u := r1 + r2) (U := 32768) (by omega)
  have t3 := times_in ha.1 (u := r3 - r4) (U := 32768) (by omega)
  have t4 := times_in hb.1 (u := ep) (U := 2 * wp + (n : Int) * 1610612736) (by omega)
  have t5 := times_in ha.1 (u := ec) (U := 2 * wc + (n : Int) * 1610612736) (by omega)
  have m4 : b * (2 * wp + (n : Int) * 1610612736) = 2 * (b * wp) + 1610612736 * (b * n) := by grind
  have m5 : a * (2 * wc + (n : Int) * 1610612736) = 2 * (a * wc) + 1610612736 * (a * n) := by grind
  rw [m4] at t4
  rw [m5] at t5
  have hab : a * n + b * n ≤ 46400 * (n : Int) := by
    rw [← Int.add_mul]
    exact Int.mul_le_mul_of_nonneg_right (by omega) (by omega)
  have hN : (0 : Int) < (n : Int) * 1073741824 := by omega
  have t6 := times_in (a := (n : Int) * 1073741824) (by omega) (u := (a * a + b * b - 1073741824) * x + b * (r1 + r2) + a * (r3 - r4)) (U := 8231354368) (by omega)
  have t7 := times_in (a := (n : Int) * 1073741824) (by omega) (u := q1 + q2) (U := 32768) (by omega)
  generalize (a * a + b * b - 1073741824) * x + b * (r1 + r2) + a * (r3 - r4) = K at *
  generalize b * ep = bep at *
  generalize a * ec = aec at *
  generalize b * wp = bwp at *
  generalize a * wc = awc at *
  generalize a * (n : Int) = an at *
  generalize b * (n : Int) = bn at *
  generalize (n : Int) * 1073741824 * K = NK at *
  generalize (n : Int) * 1073741824 * (q1 + q2) = Nq at *
  generalize zp + zc - x = d at *
  constructor
  · refine Int.not_lt.mp fun hlt => ?_
    have := Int.mul_le_mul_of_nonneg_left (show d ≤ -65 by omega) (show 0 ≤ (n : Int) * 1073741824 by omega)
    generalize (n : Int) * 1073741824 * d = Nd at *
    omega
  · refine Int.not_lt.mp fun hlt => ?_
    have := Int.mul_le_mul_of_nonneg_left (show 65 ≤ d by omega) (show 0 ≤ (n : Int) * 1073741824 by omega)
    generalize (n : Int) * 1073741824 * d = Nd at *
    omega
end Go.Proofs.Ytlmacbiahofmcaa.Q
namespace Go.Proofs.Ytlmacbiahofmcaa.Pure
open Go.RowKit Go.Proofs.Ytlmacbiahofmcaa.P Go.Proofs.YtlmacbiahofmcaaW.PrintWords Go.Proofs.YtlmacbiahofmcaaW.PrintLast Go.Proofs.YtlmacbiahofmcaaW.PrintMore Go.Proofs.Ytlmacbiahofmcaa.Q Go.Proofs.Ytlmacbiahofmcaa.M
set_option linter.unusedVariables false
def blk (n : Nat) (x : List Int) (s : Nat) : List Int := (x.take (s + 2 * n)).drop s
theorem blk_len {n s : Nat} {x : List Int} (h : s + 2 * n ≤ x.length) : (blk n x s).length = 2 * n := by
  unfold blk
  rw [List.length_drop, List.length_take]
  omega
theorem blk_getD {n s i : Nat} {x : List Int} (h : s + 2 * n ≤ x.length) (hi : i < 2 * n) : (blk n x s).getD i 0 = x.getD (s + i) 0 := by
  unfold blk
  rw [List.getD_eq_getElem?_getD, List.getD_eq_getElem?_getD, List.getElem?_drop, List.getElem?_take, if_pos (by omega)]
theorem blk_in {n s : Nat} {x : List Int} (h : s + 2 * n ≤ x.length) (hx : In16x x) : In16x (blk n x s) := by
  intro i
  by_cases hi : i < 2 * n
  · rw [blk_getD h hi]
    exact hx _
  · have e : (blk n x s).getD i 0 = 0 := by
      rw [List.getD_eq_getElem?_getD, List.getElem?_eq_none (by rw [blk_len h]; omega)]
      rfl
    rw [e]
    omega
theorem back_l2 (n l s : Nat) (x y kept : List Int) (hn : n ≤ 160) (hy : y.length = n) (hx : s + n ≤ x.length) (hl : x.length ≤ 800) (hyb : ∀ i, i < n → 0 < s → -64 ≤ y.getD i 0 - x.getD (s + i) 0 ∧ y.getD i 0 - x.getD (s + i) 0 ≤ 64)
    (hc : Ev (fun k => madrigallaw15_MdctBack.l1 k (n : Int) (l : Int) x ((s + n : Nat) : Int) (n : Int) (l : Int) kept) true) : ∀ (r i : Nat), i + r = n →
    Ev (fun k => madrigallaw15_MdctBack.l2 k (n : Int) (l : Int) x (s : Int) y (i : Int) (n : Int) (l : Int) kept) true := by
  have hout : ∀ i : Int, Ev (fun k => madrigallaw15_MdctBack.j5 k (n : Int) (l : Int) x (s : Int) y i false (n : Int) (l : Int) kept) true := by
    intro i
    refine Ev.step (fun k => by rw [madrigallaw15_MdctBack.j5]) (evNeg (by simp) ?_)
    rw [w64 (x := (s : Int) + n) (by omega) (by omega), show (s : Int) + n = ((s + n : Nat) : Int) by omega]
    exact hc
  intro r
  induction r with
  | zero =>
    intro i hi
    refine Ev.step (fun k => by rw [madrigallaw15_MdctBack.l2]) (evNeg (by omega) ?_)
    exact hout _
  | succ r ih =>
    intro i hi
    refine Ev.step (fun k => by rw [madrigallaw15_MdctBack.l2]) (evPos (by omega) ?_)
    by_cases hs : 0 < s
    · rw [decide_eq_true (show (s : Int) > 0 by omega)]
      have b := hyb i (by omega) hs
      refine Ev.step (fun k => by rw [madrigallaw15_MdctBack.j5]) (evPos rfl ?_)
      rw [w64 (x := (s : Int) + i) (by omega) (by omega), show (s : Int) + i = ((s + i : Nat) : Int) by omega, rd_nat, rd_nat, w64 (x := y.getD i 0 - x.getD (s + i) 0) (by omega) (by omega), w64 (x := (i : Int) + 1) (by omega) (by omega)]
      refine evPos (by omega) (evPos (by omega) (evPos (by omega) (evPos (by omega) (evNeg (by omega) (evNeg (by omega) ?_)))))
      exact ih (i + 1) (by omega)
    · rw [decide_eq_false (show ¬ (s : Int) > 0 by omega)]
      exact hout _
theorem back_l1 (n l : Nat) (h : Good15 n l) (hn : n ≤ 160) (x : List Int) (hx : In16x x) (hl : x.length ≤ 800) : ∀ (m s : Nat) (kept : List Int), x.length ≤ s + m → s ≤ 2000 → kept.length = n → In24 kept →
    (0 < s → ∃ xp, In16x xp ∧ (∀ i, i < n → xp.getD (n + i) 0 = x.getD (s + i) 0) ∧ kept = (inv15 n l (ff n l xp)).drop n) →
    Ev (fun k => madrigallaw15_MdctBack.l1 k (n : Int) (l : Int) x (s : Int) (n : Int) (l : Int) kept) true := by
  obtain ⟨h1, h2, h3, h4, h5⟩ := id h
  intro m
  induction m with
  | zero =>
    intro s kept hm hs2 hk hb hp
    refine Ev.step (fun k => by rw [madrigallaw15_MdctBack.l1]) ?_
    rw [w64 (x := 2 * (n : Int)) (by omega) (by omega), w64 (x := (s : Int) + 2 * n) (by omega) (by omega)]
    exact evNeg (by omega) (evConst rfl)
  | succ m ih =>
    intro s kept hm hs2 hk hb hp
    refine Ev.step (fun k => by rw [madrigallaw15_MdctBack.l1]) ?_
    rw [w64 (x := 2 * (n : Int)) (by omega) (by omega), w64 (x := (s : Int) + 2 * n) (by omega) (by omega)]
    refine evIte (fun hin => ?_) (fun _ => evConst rfl)
    have hin' : s + 2 * n ≤ x.length := by omega
    refine evPos (by omega) (evPos (by omega) ?_)
    have eb : (x.take ((s : Int) + 2 * (n : Int)).toNat).drop (s : Int).toNat = blk n x s := by
      rw [Int.toNat_natCast, show ((s : Int) + 2 * (n : Int)).toNat = s + 2 * n by omega]
      rfl
    rw [eb]
    have hfl : (fwd15 n l (blk n x s)).length = n := by simp [fwd15]
    refine Ev.bind (fwd_ev n l h (blk n x s) (blk_len hin')) (Ev.bind (next_ev n l h (fwd15 n l (blk n x s)) kept hfl hk hb) ?_)
    refine evPos rfl (evPos rfl ?_)
    have en : (((next15 n l kept (fwd15 n l (blk n x s))).length : Int) != (n : Int)) = false := by
      rw [next15_len]
      simp
    refine Ev.step (fun k => by rw [madrigallaw15_MdctBack.j3]) (evNeg (by simp only [en]; simp) ?_)
    refine back_l2 n l s x (next15 n l kept (fwd15 n l (blk n x s))) _ hn (next15_len _ _ _ _) (by omega) hl ?_ ?_ n 0 (by omega)
    · intro i hi hs
      obtain ⟨xp, hxp, hsame, rfl⟩ := hp hs
      have hsm : ∀ i, i < n → xp.getD (n + i) 0 = (blk n x s).getD i 0 := by
        intro i hi
        rw [hsame i hi, blk_getD hin' (by omega)]
      have := sample h hn xp (blk n x s) hxp (blk_in hin' hx) hsm hi
      rw [blk_getD hin' (by omega)] at this
      unfold next15
      rw [getD_map_range, if_pos hi]
      unfold nextAt
      rw [getD_drop', inv15_getD _ _ _ _ (by omega)]
      exact this
    · refine ih (s + n) _ (by omega) (by omega) (by rw [List.length_drop, inv15_len]; omega) (in24_drop (inv15_in h _) n) (fun _ => ⟨blk n x s, blk_in hin' hx, ?_, rfl⟩)
      intro i hi
      rw [blk_getD hin' (by omega), show s + (n + i) = s + n + i by omega]
theorem back_l0 (n l : Nat) (h : Good15 n l) (hn : n ≤ 160) (x : List Int) (hl : x.length ≤ 800) : ∀ (r i : Nat), i + r = x.length → (∀ j, j < i → -32768 ≤ x.getD j 0 ∧ x.getD j 0 ≤ 32767) →
    Ev (fun k => madrigallaw15_MdctBack.l0 k (n : Int) (l : Int) x (i : Int)) true := by
  intro r
  induction r with
  | zero =>
    intro i hi hx
    refine Ev.step (fun k => by rw [madrigallaw15_MdctBack.l0]) (evNeg (by omega) ?_)
    rw [good15, decide_eq_true h, new15 h]
    refine evPos rfl (Ev.congr (fun k => by rw [Option.bind_some]) ?_)
    have hx' : In16x x := by
      intro j
      by_cases hj : j < x.length
      · exact hx j (by omega)
      · have e : x.getD j 0 = 0 := by
          rw [List.getD_eq_getElem?_getD, List.getElem?_eq_none (by omega)]
          rfl
        rw [e]
        omega
    exact back_l1 n l h hn x hx' hl x.length 0 (List.replicate n 0) (by omega) (by omega) (by simp) (in24_zeros n) (fun h0 => absurd h0 (by omega))
  | succ r ih =>
    intro i hi hx
    refine Ev.step (fun k => by rw [madrigallaw15_MdctBack.l0]) (evPos (by omega) (evPos (by omega) ?_))
    rw [rd_nat, w64 (x := (i : Int) + 1) (by omega) (by omega)]
    refine evIte (fun _ => evConst rfl) (fun c1 => evIte (fun _ => evConst rfl) (fun c2 => ?_))
    refine ih (i + 1) (by omega) ?_
    intro j hj
    by_cases e : j = i
    · subst e
      omega
    · exact hx j (by omega)
theorem MdctBack : madrigallaw15_MdctBack.Pure := by
  intro n l x
  intros
  have hyes : Ev (fun k => madrigallaw15_MdctBack.j0 k n l x true) true := Ev.step (fun k => by rw [madrigallaw15_MdctBack.j0]) (evPos rfl (evConst rfl))
  refine Ev.rounds (Ev.congr (fun k => by rw [madrigallaw15_MdctBack.f]) (Ev.bind awakeEv15 (evPos rfl ?_)))
  refine evIte (fun _ => hyes) (fun h160 => ?_)
  have eg : madrigalref10_GoodBlock.f n l = some (decide (Good15 n l)) := by
    have e : madrigalref10_GoodBlock.f n l = mdct_Good.f n l := rfl
    rw [e, good15]
  rw [eg]
  refine Ev.congr (fun k => by rw [Option.bind_some]) ?_
  refine evIte (fun hg => ?_) (fun _ => hyes)
  have hg' : Good15 n l := of_decide_eq_true hg
  refine evIte (fun _ => hyes) (fun h800 => ?_)
  by_cases hb : (x.length : Int) < wrap64 (3 * n)
  · rw [decide_eq_true hb]; exact hyes
  rw [decide_eq_false hb]
  refine Ev.step (fun k => by rw [madrigallaw15_MdctBack.j0]) (evNeg (by simp) ?_)
  obtain ⟨h1, h2, h3, h4, h5⟩ := id hg'
  obtain ⟨a, rfl⟩ : ∃ a : Nat, n = a := ⟨n.toNat, by omega⟩
  obtain ⟨b, rfl⟩ : ∃ b : Nat, l = b := ⟨l.toNat, by omega⟩
  exact back_l0 a b hg' (by omega) x (by omega) x.length 0 (by omega) (fun j hj => absurd hj (by omega))
end Go.Proofs.Ytlmacbiahofmcaa.Pure
