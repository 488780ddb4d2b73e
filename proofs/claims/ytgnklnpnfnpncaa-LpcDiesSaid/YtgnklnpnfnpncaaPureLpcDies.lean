/- A filter that is made, or fitted, dies away: without conditions. -/
import Derived.Test.YtgnklnpnfnpncaaPx19
import Derived.Test.YtgnklnpnfnpncaaWMore
import Derived.Test.YtgnklnpnfnpncaaWLast
import Derived.Test.YtgnklnpnfnpncaaPx1
import Derived.Test.YtgnklnpnfnpncaaPx2
import Derived.Test.YtgnklnpnfnpncaaPx3
import Derived.Test.YtgnklnpnfnpncaaPx4
import Derived.Test.YtgnklnpnfnpncaaPx5
import Derived.Test.YtgnklnpnfnpncaaPx6
import Derived.KernelRfl
import Derived.Laws.BitsLemmas
import Derived.Test.YtgnklnpnfnpncaaPx8
import Derived.Test.YtgnklnpnfnpncaaPx10
import Derived.Test.YtgnklnpnfnpncaaPx9
import Derived.Test.YtgnklnpnfnpncaaPx16
import Derived.Test.YtgnklnpnfnpncaaPx17
import Derived.Test.YtgnklnpnfnpncaaPx18
namespace Go.Proofs.Ytgnklnpnfnpncaa.Q
open Go.RowKit Go.Proofs.YtgnklnpnfnpncaaW.PrintWords Go.Proofs.YtgnklnpnfnpncaaW.PrintLast Go.Proofs.YtgnklnpnfnpncaaW.PrintMore
set_option linter.unusedVariables false

theorem evPos {α : Type} {c : Prop} [Decidable c] {A B : Nat → Option α} {r : α} (h : c) (hA : Ev A r) : Ev (fun k => if c then A k else B k) r := by
  obtain ⟨K, hA⟩ := hA
  exact ⟨K, fun k hk => by simp only [if_pos h]; exact hA k hk⟩
theorem evNeg {α : Type} {c : Prop} [Decidable c] {A B : Nat → Option α} {r : α} (h : ¬ c) (hB : Ev B r) : Ev (fun k => if c then A k else B k) r := by
  obtain ⟨K, hB⟩ := hB
  exact ⟨K, fun k hk => by simp only [if_neg h]; exact hB k hk⟩
theorem evIte {α : Type} {c : Prop} [Decidable c] {A B : Nat → Option α} {r : α} (hA : c → Ev A r) (hB : ¬ c → Ev B r) : Ev (fun k => if c then A k else B k) r := by
  by_cases h : c
  · exact evPos h (hA h)
  · exact evNeg h (hB h)
theorem evConst {α : Type} {r : α} {o : Option α} (h : o = some r) : Ev (fun _ => o) r := ⟨0, fun _ _ => h⟩
theorem evEq {α : Type} {g : Nat → Option α} {r r' : α} (h : Ev g r) (e : r = r') : Ev g r' := e ▸ h
theorem w64 {x : Int} (h1 : -9223372036854775808 ≤ x) (h2 : x ≤ 9223372036854775807) : wrap64 x = x := by
  unfold wrap64; omega
theorem rd_mem {l : List Int} {i : Int} (h0 : 0 ≤ i) (h1 : i < l.length) : rd l i ∈ l := by
  unfold rd
  have h : i.toNat < l.length := by omega
  rw [List.getD_eq_getElem?_getD, List.getElem?_eq_getElem h]
  exact List.getElem_mem h
theorem rd_nat (l : List Int) (n : Nat) : rd l (n : Int) = l.getD n 0 := by
  unfold rd; simp
theorem rd_mid (A : List Int) (c : Int) (B : List Int) (i : Int) (h : i = A.length) : rd (A ++ c :: B) i = c := by
  subst h
  unfold rd
  rw [List.getD_eq_getElem?_getD, Int.toNat_natCast, List.getElem?_append_right (Nat.le_refl _)]
  simp
theorem set_mid (A : List Int) (c : Int) (B : List Int) (v i : Int) (h : i = A.length) : (A ++ c :: B).set i.toNat v = A ++ v :: B := by
  subst h
  rw [Int.toNat_natCast, List.set_append_right _ _ (Nat.le_refl _)]
  simp
theorem rd_at {l : List Int} {i : Nat} (h : i < l.length) : rd l (i : Int) = l[i] := by
  unfold rd
  rw [List.getD_eq_getElem?_getD, Int.toNat_natCast, List.getElem?_eq_getElem h]
  rfl
theorem rd_in {l : List Int} {i : Int} (h0 : 0 ≤ i) (h : i.toNat < l.length) : rd l i = l[i.toNat] := by
  unfold rd
  rw [List.getD_eq_getElem?_getD, List.getElem?_eq_getElem h]
  rfl
end Go.Proofs.Ytgnklnpnfnpncaa.Q
namespace Go.Proofs.Ytgnklnpnfnpncaa.M
set_option linter.unusedVariables false
/-- Numbers brought between two others. -/
def clamp (a lo hi : Int) : Int := if lo > hi ∨ a < lo then lo else if a > hi then hi else a
theorem clamp_bounds {a lo hi : Int} (h : lo ≤ hi) : lo ≤ clamp a lo hi ∧ clamp a lo hi ≤ hi := by
  unfold clamp; repeat' split
  all_goals omega
theorem clamp_id {a lo hi : Int} (h1 : lo ≤ a) (h2 : a ≤ hi) : clamp a lo hi = a := by
  unfold clamp; repeat' split
  all_goals omega
/-- A number brought into 16 bits. -/
def sat (a : Int) : Int := clamp a (-32768) 32767
theorem sat_bounds (a : Int) : -32768 ≤ sat a ∧ sat a ≤ 32767 := clamp_bounds (by omega)
/-- How many bits a number has. -/
def bl (a : Int) : Int := if a ≤ 0 then 0 else (Nat.log2 a.toNat : Int) + 1
theorem bl_pos {a : Int} (h : 1 ≤ a) : bl a = (Nat.log2 a.toNat : Int) + 1 := by unfold bl; rw [if_neg (by omega)]
theorem bl_lo {a : Int} (h : 1 ≤ a) : (2 : Int) ^ (bl a - 1).toNat ≤ a := by
  rw [bl_pos h]
  have h1 : 2 ^ Nat.log2 a.toNat ≤ a.toNat := Nat.log2_self_le (by omega)
  have e : ((Nat.log2 a.toNat : Int) + 1 - 1).toNat = Nat.log2 a.toNat := by omega
  rw [e]
  have h2 : ((2 ^ Nat.log2 a.toNat : Nat) : Int) ≤ (a.toNat : Int) := by exact_mod_cast h1
  rw [Int.toNat_of_nonneg (by omega)] at h2
  simpa using h2
theorem bl_hi {a : Int} (h : 1 ≤ a) : a < (2 : Int) ^ (bl a).toNat := by
  rw [bl_pos h]
  have h1 : a.toNat < 2 ^ (Nat.log2 a.toNat + 1) := Nat.lt_log2_self
  have e : ((Nat.log2 a.toNat : Int) + 1).toNat = Nat.log2 a.toNat + 1 := by omega
  rw [e]
  have h2 : (a.toNat : Int) < ((2 ^ (Nat.log2 a.toNat + 1) : Nat) : Int) := by exact_mod_cast h1
  rw [Int.toNat_of_nonneg (by omega)] at h2
  simpa using h2
theorem bl_ge {a : Int} (h : 1 ≤ a) : 1 ≤ bl a := by rw [bl_pos h]; omega
theorem bl_unique {a : Int} {n : Nat} (h1 : (2 : Int) ^ n ≤ a) (h2 : a < (2 : Int) ^ (n + 1)) : bl a = n + 1 := by
  have hp : (0 : Int) < (2 : Int) ^ n := Int.pow_pos (by omega)
  have h : 1 ≤ a := by omega
  rw [bl_pos h]
  have e1 : 2 ^ n ≤ a.toNat := by
    have : ((2 ^ n : Nat) : Int) ≤ (a.toNat : Int) := by rw [Int.toNat_of_nonneg (by omega)]; simpa using h1
    exact_mod_cast this
  have e2 : a.toNat < 2 ^ (n + 1) := by
    have : (a.toNat : Int) < ((2 ^ (n + 1) : Nat) : Int) := by rw [Int.toNat_of_nonneg (by omega)]; simpa using h2
    exact_mod_cast this
  have hn : a.toNat ≠ 0 := by omega
  have f1 : n ≤ Nat.log2 a.toNat := (Nat.le_log2 hn).2 e1
  have f2 : Nat.log2 a.toNat < n + 1 := (Nat.log2_lt hn).2 e2
  omega
end Go.Proofs.Ytgnklnpnfnpncaa.M
namespace Go.Proofs.Ytgnklnpnfnpncaa.Q
open Go.RowKit Go.Proofs.Ytgnklnpnfnpncaa.P Go.Proofs.YtgnklnpnfnpncaaW.PrintWords Go.Proofs.YtgnklnpnfnpncaaW.PrintLast Go.Proofs.YtgnklnpnfnpncaaW.PrintMore
open Go.Proofs.Ytgnklnpnfnpncaa.M
set_option linter.unusedVariables false

theorem fix_clamp (a lo hi : Int) : Ev (fun k => fix_Clamp.f k a lo hi) (clamp a lo hi) := by
  have hj : ∀ b, Ev (fun k => fix_Clamp.j0 k a lo hi b) (if b = true then lo else if a > hi then hi else a) := by
    intro b
    refine Ev.step (fun k => by rw [fix_Clamp.j0]) ?_
    refine evConst ?_
    cases b <;> simp <;> split <;> rfl
  refine Ev.congr (fun k => by rw [fix_Clamp.f]) ?_
  refine evIte (fun h => ?_) (fun h => ?_)
  · exact evEq (hj true) (by unfold clamp; simp [h])
  · exact evEq (hj _) (by unfold clamp; simp [h])
end Go.Proofs.Ytgnklnpnfnpncaa.Q
namespace Go.Proofs.Ytgnklnpnfnpncaa.M
set_option linter.unusedVariables false
/-- A factor, in its bounds. -/
def fac (a : Int) : Int := clamp a (-2147483648) 2147483648
theorem fac_bounds (a : Int) : -2147483648 ≤ fac a ∧ fac a ≤ 2147483648 := clamp_bounds (by omega)
theorem fac_id {a : Int} (h1 : -2147483648 ≤ a) (h2 : a ≤ 2147483648) : fac a = a := clamp_id h1 h2
/-- A product, divided by a power of two, rounded. -/
def mul (a b s : Int) : Int := if s = 0 then fac a * fac b else if s < 0 then 0 else if s > 62 then 0 else (fac a * fac b + 2 ^ (s - 1).toNat) / 2 ^ s.toNat
theorem prod_le {x y : Int} {a b : Nat} (hx : x.natAbs ≤ a) (hy : y.natAbs ≤ b) : -((a * b : Nat) : Int) ≤ x * y ∧ x * y ≤ ((a * b : Nat) : Int) := by
  have h : (x * y).natAbs ≤ a * b := by rw [Int.natAbs_mul]; exact Nat.mul_le_mul hx hy
  omega
theorem fac_prod (a b : Int) : -4611686018427387904 ≤ fac a * fac b ∧ fac a * fac b ≤ 4611686018427387904 := by
  have h1 := fac_bounds a
  have h2 := fac_bounds b
  have h := prod_le (x := fac a) (y := fac b) (a := 2147483648) (b := 2147483648) (by omega) (by omega)
  omega
theorem pow_most {n m : Nat} (h : n ≤ m) : (2 : Int) ^ n ≤ 2 ^ m := by
  have hn : (2 : Nat) ^ n ≤ 2 ^ m := Nat.pow_le_pow_right (by omega) h
  exact_mod_cast hn
theorem pow_61 {n : Nat} (h : n ≤ 61) : (1 : Int) ≤ 2 ^ n ∧ (2 : Int) ^ n ≤ 2305843009213693952 :=
  ⟨by have h1 : (0 : Int) < 2 ^ n := Int.pow_pos (by omega)
      omega, by have := pow_most h; simpa using this⟩
theorem pow_next (n : Nat) : (2 : Int) ^ (n + 1) = 2 * 2 ^ n := by rw [Int.pow_succ]; omega
theorem fac_mono {a b : Int} (h : a ≤ b) : fac a ≤ fac b := by
  unfold fac clamp; repeat' split
  all_goals omega
theorem mul_mono {a b c s : Int} (h : a ≤ b) (hc : 0 ≤ c) : mul a c s ≤ mul b c s := by
  have h0 : 0 ≤ fac c := by
    unfold fac clamp; repeat' split
    all_goals omega
  have hf : fac a * fac c ≤ fac b * fac c := Int.mul_le_mul_of_nonneg_right (fac_mono h) h0
  unfold mul; split
  · exact hf
  · split
    · exact Int.le_refl _
    · split
      · exact Int.le_refl _
      · exact Int.ediv_le_ediv (Int.pow_pos (by omega)) (by omega)
end Go.Proofs.Ytgnklnpnfnpncaa.M
namespace Go.Proofs.Ytgnklnpnfnpncaa.Q
open Go.RowKit Go.Proofs.Ytgnklnpnfnpncaa.P Go.Proofs.YtgnklnpnfnpncaaW.PrintWords Go.Proofs.YtgnklnpnfnpncaaW.PrintLast Go.Proofs.YtgnklnpnfnpncaaW.PrintMore
open Go.Proofs.Ytgnklnpnfnpncaa.M
set_option linter.unusedVariables false

theorem fix_factor (a : Int) : Ev (fun k => fix_factor.f k a) (fac a) := by
  refine Ev.congr (fun k => by rw [fix_factor.f]) ?_
  exact Ev.bind (fix_clamp a _ _) (Ev.now _)
theorem shl1_64 {s : Int} (h0 : 0 ≤ s) (h1 : s ≤ 61) : shl .i64 1 s = 2 ^ s.toNat := by
  have hp := pow_61 (n := s.toNat) (by omega)
  unfold shl
  rw [show IntKind.i64.bits = 64 from rfl, Nat.min_eq_left (by omega), Int.one_mul, i64_w]
  exact w64 (by omega) (by omega)
theorem shr_64 {x s : Int} (h1 : s ≤ 64) : shr .i64 x s = x / 2 ^ s.toNat := by
  unfold shr
  rw [show IntKind.i64.bits = 64 from rfl, Nat.min_eq_left (by omega)]
theorem fix_mul (a b s : Int) (hs0 : -9223372036854775808 ≤ s) (hs1 : s ≤ 9223372036854775807) : Ev (fun k => fix_Mul.f k a b s) (mul a b s) := by
  have hp := fac_prod a b
  refine Ev.congr (fun k => by rw [fix_Mul.f]) (Ev.bind (fix_factor a) (Ev.bind (fix_factor b) ?_))
  unfold mul
  rw [w64 (x := fac a * fac b) (by omega) (by omega)]
  refine evIte (fun h => ?_) (fun h => ?_)
  · rw [if_pos h]; exact Ev.now _
  · rw [if_neg h]
    refine evIte (fun h2 => ?_) (fun h2 => ?_)
    · rw [if_pos h2]; exact Ev.now _
    · rw [if_neg h2]
      refine evIte (fun h3 => ?_) (fun h3 => ?_)
      · rw [if_pos h3]; exact Ev.now _
      · rw [if_neg h3, w64 (x := s - 1) (by omega) (by omega), shl1_64 (by omega) (by omega)]
        have hp2 := pow_61 (n := (s - 1).toNat) (by omega)
        rw [w64 (x := fac a * fac b + _) (by omega) (by omega), shr_64 (by omega)]
        exact evPos (by omega) (evPos (by omega) (Ev.now _))
end Go.Proofs.Ytgnklnpnfnpncaa.Q
namespace Go.Proofs.Ytgnklnpnfnpncaa.Q
open Go.RowKit Go.Proofs.Ytgnklnpnfnpncaa.P Go.Proofs.YtgnklnpnfnpncaaW.PrintWords Go.Proofs.YtgnklnpnfnpncaaW.PrintLast Go.Proofs.YtgnklnpnfnpncaaW.PrintMore
open Go.Proofs.Ytgnklnpnfnpncaa.M
set_option linter.unusedVariables false

theorem shl_64 {x s : Int} (h1 : s ≤ 64) (a0 : -9223372036854775808 ≤ x * 2 ^ s.toNat) (a1 : x * 2 ^ s.toNat ≤ 9223372036854775807) : shl .i64 x s = x * 2 ^ s.toNat := by
  unfold shl
  rw [show IntKind.i64.bits = 64 from rfl, Nat.min_eq_left (by omega), i64_w]
  exact w64 a0 a1
theorem up_bounds {a s : Int} (ha : -2147483648 ≤ a ∧ a ≤ 2147483648) (h1 : s ≤ 30) : -2305843009213693952 ≤ a * 2 ^ s.toNat ∧ a * 2 ^ s.toNat ≤ 2305843009213693952 := by
  have hp : (2 : Int) ^ s.toNat ≤ 2 ^ 30 := pow_most (by omega)
  have hp0 : (0 : Int) < 2 ^ s.toNat := Int.pow_pos (by omega)
  have h := prod_le (x := a) (y := 2 ^ s.toNat) (a := 2147483648) (b := 1073741824) (by omega) (by omega)
  omega
/-- The quotient toward nought, put down where it is not whole. -/
theorem tdiv_down {n d : Int} (hd : 1 ≤ d) : (if Int.tmod n d = 0 then Int.tdiv n d else if n < 0 then Int.tdiv n d - 1 else Int.tdiv n d) = n / d := by
  have hm : Int.tmod n d = n - d * Int.tdiv n d := by have := Int.mul_tdiv_add_tmod n d; omega
  have hmod := Int.emod_nonneg n (show d ≠ 0 by omega)
  have hlt := Int.emod_lt_of_pos n (show 0 < d by omega)
  have he := Int.mul_ediv_add_emod n d
  have hbs : d.sign = 1 := Int.sign_eq_one_of_pos (by omega)
  have ht : Int.tdiv n d = if 0 ≤ n ∨ n % d = 0 then n / d else n / d + 1 := by
    rw [Int.tdiv_eq_ediv, hbs]
    by_cases h : 0 ≤ n
    · rw [if_pos (.inl h), if_pos (.inl h)]; omega
    · by_cases h2 : n % d = 0
      · rw [if_pos (.inr (Int.dvd_of_emod_eq_zero h2)), if_pos (.inr h2)]; omega
      · rw [if_neg, if_neg]
        · rintro (h3 | h3)
          · exact h h3
          · exact h2 h3
        · rintro (h3 | h3)
          · exact h h3
          · exact h2 (Int.emod_eq_zero_of_dvd h3)
  by_cases h : 0 ≤ n ∨ n % d = 0
  · rw [if_pos h] at ht
    rw [hm, ht]
    split
    · rfl
    · rw [if_neg (by omega)]
  · rw [if_neg h] at ht
    have hmul : d * (n / d + 1) = d * (n / d) + d := by rw [Int.mul_add]; omega
    rw [hm, ht, if_neg (by omega), if_pos (by omega)]
    omega
theorem fix_div_any (a b s : Int) (hb : 1 ≤ b ∧ b ≤ 2147483648) (hs : 0 ≤ s ∧ s ≤ 30) : Ev (fun k => fix_Div.f k a b s) (fac a * 2 ^ s.toNat / b) := by
  have ha := fac_bounds a
  refine Ev.congr (fun k => by rw [fix_Div.f]) ?_
  refine Ev.bind (fix_factor a) (Ev.bind (evEq (fix_factor b) (fac_id (by omega) hb.2)) ?_)
  refine evNeg (by omega) (evNeg (by omega) ?_)
  refine Ev.step (fun k => by rw [fix_Div.j0]) ?_
  have hu := up_bounds ha hs.2
  rw [shl_64 (by omega) (by omega) (by omega)]
  generalize fac a * 2 ^ s.toNat = n at hu ⊢
  refine evNeg (by simp; omega) (evPos (by omega) (evNeg (by omega) ?_))
  have hq := tdiv_down (n := n) hb.1
  have e := Int.natAbs_tdiv n b
  have hle : n.natAbs / b.natAbs ≤ n.natAbs := Nat.div_le_self _ _
  have e2 : (Int.tdiv n b).natAbs ≤ n.natAbs := by
    rw [e]; exact hle
  rw [w64 (x := Int.tdiv n b) (by omega) (by omega), w64 (x := Int.tdiv n b - 1) (by omega) (by omega)]
  rw [← hq]
  refine evIte (fun h => ?_) (fun h => ?_)
  · rw [if_pos h]; exact Ev.now _
  · rw [if_neg h]
    have hbn : decide (b < 0) = false := by simp; omega
    rw [hbn]
    by_cases hn : n < 0
    · rw [if_pos hn, decide_eq_true hn]; exact evPos (by rfl) (Ev.now _)
    · rw [if_neg hn, decide_eq_false hn]; exact evNeg (by simp) (Ev.now _)
theorem fix_div (a b s : Int) (ha : -2147483648 ≤ a ∧ a ≤ 2147483648) (hb : 1 ≤ b ∧ b ≤ 2147483648) (hs : 0 ≤ s ∧ s ≤ 30) : Ev (fun k => fix_Div.f k a b s) (a * 2 ^ s.toNat / b) := by
  have h := fix_div_any a b s hb hs
  rw [fac_id ha.1 ha.2] at h
  exact h
end Go.Proofs.Ytgnklnpnfnpncaa.Q
namespace Go.Proofs.Ytgnklnpnfnpncaa.Q
open Go.RowKit Go.Proofs.Ytgnklnpnfnpncaa.P Go.Proofs.YtgnklnpnfnpncaaW.PrintWords Go.Proofs.YtgnklnpnfnpncaaW.PrintLast Go.Proofs.YtgnklnpnfnpncaaW.PrintMore
open Go.Proofs.Ytgnklnpnfnpncaa.M
set_option linter.unusedVariables false

/-! weakened -/
def chE (c : Int) : Nat → Int → Int
  | 0, v => v
  | n + 1, v => chE c n (mul v c 16)
def chirpL (c : Int) : Nat → List Int → List Int
  | _, [] => []
  | i, v :: l => chE c (i + 1) v :: chirpL c (i + 1) l
theorem chirpL_length (c : Int) : ∀ (i : Nat) (l : List Int), (chirpL c i l).length = l.length
  | _, [] => rfl
  | i, v :: l => by simp [chirpL, chirpL_length c (i + 1) l]
theorem chirp_l1 (c : Int) (n : Nat) : ∀ (out : List Int) (idx v : Int) (W : List Int) (len i bound j : Int) (r : List Int), bound = j + n → 0 ≤ j → bound ≤ 1000 → 0 ≤ i → i ≤ 1000 → 0 ≤ idx → idx < out.length →
    Ev (fun k => lpc_Chirp.l0 k c (out.set idx.toNat (chE c n v)) W len (i + 1)) r → Ev (fun k => lpc_Chirp.l1 k c out idx v W len i bound j) r := by
  induction n with
  | zero =>
    intro out idx v W len i bound j r hb hj hb2 hi hi2 h0 h1 h
    refine Ev.step (fun k => by rw [lpc_Chirp.l1]) ?_
    rw [w64 (x := i + 1) (by omega) (by omega)]
    exact evNeg (by omega) (evPos h0 (evPos h1 h))
  | succ n ih =>
    intro out idx v W len i bound j r hb hj hb2 hi hi2 h0 h1 h
    refine Ev.step (fun k => by rw [lpc_Chirp.l1]) ?_
    rw [w64 (x := j + 1) (by omega) (by omega)]
    refine evPos (by omega) (Ev.bind (fix_mul v c 16 (by omega) (by omega)) ?_)
    exact ih out idx _ W len i bound (j + 1) r (by omega) (by omega) hb2 hi hi2 h0 h1 h
theorem chirp_l0 (c : Int) (n : Nat) : ∀ (S A D : List Int) (i m : Int), S.length = n → D.length = A.length → i = A.length → m = ((A.length + S.length : Nat) : Int) → A.length + S.length ≤ 100 →
    Ev (fun k => lpc_Chirp.l0 k c (D ++ List.replicate n 0) (A ++ S) m i) (D ++ chirpL c A.length S) := by
  induction n with
  | zero =>
    intro S A D i m hn hd hi hm hl
    have e1 : S = [] := List.eq_nil_of_length_eq_zero hn
    subst e1
    refine Ev.step (fun k => by rw [lpc_Chirp.l0]) ?_
    simp at hm
    refine evNeg (by omega) ?_
    simpa [chirpL] using Ev.now D
  | succ n ih =>
    intro S A D i m hn hd hi hm hl
    cases S with
    | nil => simp at hn
    | cons v S =>
      simp at hn hm hl
      refine Ev.step (fun k => by rw [lpc_Chirp.l0]) ?_
      refine evPos (by omega) (evPos (by omega) (evPos (by simp; omega) ?_))
      rw [rd_mid A v S i hi, w64 (x := i + 1) (by omega) (by omega)]
      refine chirp_l1 c (A.length + 1) _ _ _ _ _ _ _ 0 _ (by omega) (by omega) (by omega) (by omega) (by omega) (by omega) (by simp; omega) ?_
      rw [List.replicate_succ, set_mid D 0 (List.replicate n 0) _ i (by omega)]
      have h := ih S (A ++ [v]) (D ++ [chE c (A.length + 1) v]) (i + 1) m (by omega) (by simp; omega) (by simp; omega) (by simp; omega) (by simp; omega)
      simpa [chirpL] using h
def chirp (l : List Int) (c : Int) : List Int := chirpL (clamp c 0 65536) 0 l
theorem lpc_chirp (l : List Int) (c : Int) (hl : l.length ≤ 32) : Ev (fun k => lpc_Chirp.f k l c) (chirp l c) := by
  refine Ev.congr (fun k => by rw [lpc_Chirp.f]) ?_
  refine evNeg (by omega) (Ev.bind (fix_clamp c 0 65536) (evPos (by omega) (evPos (by omega) ?_)))
  have h := chirp_l0 (clamp c 0 65536) l.length l [] [] 0 l.length rfl rfl rfl (by simp) (by simp; omega)
  exact h
/-- Drawn toward nought. -/
def Under (v w : Int) : Prop := (0 ≤ v ∧ 0 ≤ w ∧ w ≤ v) ∨ (v ≤ 0 ∧ w ≤ 0 ∧ v ≤ w)
theorem mul16 (a b : Int) : mul a b 16 = (fac a * fac b + 32768) / 65536 := by
  unfold mul; rw [if_neg (by omega), if_neg (by omega), if_neg (by omega)]; rfl
theorem mul_under {v c : Int} (hv : -2147483648 ≤ v ∧ v ≤ 2147483648) (hc : 0 ≤ c ∧ c ≤ 65536) : Under v (mul v c 16) := by
  rw [mul16, fac_id hv.1 hv.2, fac_id (by omega) (by omega)]
  by_cases h : 0 ≤ v
  · have h1 : v * c ≤ v * 65536 := Int.mul_le_mul_of_nonneg_left hc.2 h
    have h2 : 0 ≤ v * c := Int.mul_nonneg h hc.1
    left; omega
  · have h1 : v * 65536 ≤ v * c := Int.mul_le_mul_of_nonpos_left (by omega) hc.2
    have h2 : v * c ≤ 0 := Int.mul_nonpos_of_nonpos_of_nonneg (by omega) hc.1
    right; omega
theorem chE_under {c : Int} (hc : 0 ≤ c ∧ c ≤ 65536) : ∀ (n : Nat) {v : Int}, -2147483648 ≤ v ∧ v ≤ 2147483648 → Under v (chE c n v)
  | 0, v, hv => by unfold Under chE; omega
  | n + 1, v, hv => by
    have h1 := mul_under hv hc
    have h2 : -2147483648 ≤ mul v c 16 ∧ mul v c 16 ≤ 2147483648 := by unfold Under at h1; omega
    have h3 := chE_under hc n h2
    unfold Under at h1 h3 ⊢
    unfold chE
    omega
theorem chE_one : ∀ (n : Nat) {v : Int}, -2147483648 ≤ v ∧ v ≤ 2147483648 → chE 65536 n v = v
  | 0, v, hv => rfl
  | n + 1, v, hv => by
    have e : mul v 65536 16 = v := by
      rw [mul16, fac_id hv.1 hv.2, fac_id (by omega) (by omega)]; omega
    unfold chE
    rw [e]
    exact chE_one n hv
theorem chE_nought : ∀ (n : Nat) (v : Int), chE 0 (n + 1) v = 0
  | 0, v => by
    show mul v 0 16 = 0
    rw [mul16, fac_id (a := 0) (by omega) (by omega), Int.mul_zero]; rfl
  | n + 1, v => by
    show chE 0 (n + 1) (mul v 0 16) = 0
    exact chE_nought n _
theorem chirpL_one : ∀ (i : Nat) (l : List Int), (∀ v ∈ l, -2147483648 ≤ v ∧ v ≤ 2147483648) → chirpL 65536 i l = l
  | _, [], _ => rfl
  | i, v :: l, h => by
    unfold chirpL
    rw [chE_one (i + 1) (h v (by simp)), chirpL_one (i + 1) l (fun x hx => h x (by simp [hx]))]
theorem chirpL_nought : ∀ (i : Nat) (l : List Int), chirpL 0 i l = List.replicate l.length 0
  | _, [] => rfl
  | i, v :: l => by
    unfold chirpL
    rw [chE_nought i v, chirpL_nought (i + 1) l]
    rfl
theorem chirpL_bound {c : Int} (hc : 0 ≤ c ∧ c ≤ 65536) : ∀ (i : Nat) (l : List Int), (∀ v ∈ l, -131072 ≤ v ∧ v ≤ 131072) → ∀ v ∈ chirpL c i l, -131072 ≤ v ∧ v ≤ 131072
  | _, [], _ => by simp [chirpL]
  | i, v :: l, h => by
    intro x hx
    unfold chirpL at hx
    rcases List.mem_cons.1 hx with e | hx
    · have h1 := h v (by simp)
      have h2 := chE_under hc (i + 1) (v := v) (by omega)
      unfold Under at h2
      omega
    · exact chirpL_bound hc (i + 1) l (fun y hy => h y (by simp [hy])) x hx

/-! judged -/
def nextB (r d : Int) (old : List Int) (m i : Nat) : Int := clamp (fac (rd old i + mul r (rd old ((m : Int) - 1 - i)) 24) * 2 ^ (24 : Int).toNat / d) (-2147483648) 2147483648
def stabN : Nat → List Int → Bool
  | 0, _ => true
  | m + 1, P => if rd P m > 16760438 then false else if rd P m < -16760438 then false else stabN m ((List.range m).map (nextB (rd P m) (16777216 - mul (rd P m) (rd P m) 24) (P.take m) m))
theorem mul24 (a b : Int) : mul a b 24 = (fac a * fac b + 8388608) / 16777216 := by
  unfold mul; rw [if_neg (by omega), if_neg (by omega), if_neg (by omega)]; rfl
theorem d_bounds {r : Int} (h : -16760438 ≤ r ∧ r ≤ 16760438) : 1 ≤ 16777216 - mul r r 24 ∧ 16777216 - mul r r 24 ≤ 16777216 := by
  rw [mul24, fac_id (by omega) (by omega)]
  have h1 := prod_le (x := r) (y := r) (a := 16760438) (b := 16760438) (by omega) (by omega)
  have h2 : 0 ≤ r * r := by
    rcases Int.le_total 0 r with h | h
    · exact Int.mul_nonneg h h
    · exact Int.mul_nonneg_of_nonpos_of_nonpos h h
  omega
theorem mul24_bounds (a b : Int) : -274877906945 ≤ mul a b 24 ∧ mul a b 24 ≤ 274877906945 := by
  have h := fac_prod a b
  rw [mul24]; omega
theorem rd_bounds {l : List Int} {b : Int} (hb : 0 ≤ b) (h : ∀ x ∈ l, -b ≤ x ∧ x ≤ b) (i : Int) : -b ≤ rd l i ∧ rd l i ≤ b := by
  unfold rd
  rw [List.getD_eq_getElem?_getD]
  by_cases hi : i.toNat < l.length
  · rw [List.getElem?_eq_getElem hi]; exact h _ (List.getElem_mem hi)
  · rw [List.getElem?_eq_none (by omega)]; simp; omega
theorem stab_l2 (r d : Int) (old : List Int) (m : Nat) (hm : m ≤ 32) (hr : -16760438 ≤ r ∧ r ≤ 16760438) (hd : 1 ≤ d ∧ d ≤ 16777216) (ho : old.length = m) (hob : ∀ x ∈ old, -2147483648 ≤ x ∧ x ≤ 2147483648) {res : Bool} (n : Nat) :
    ∀ (i : Nat) (R : List Int), i + n = m → n ≤ R.length → R.length ≤ 100 →
    (Ev (fun k => lpc_Stable.l1 k ((List.range m).map (nextB r d old m) ++ R.drop n) ((m : Int) - 1)) res) →
    Ev (fun k => lpc_Stable.l2 k ((List.range i).map (nextB r d old m) ++ R) m r d old m i) res := by
  induction n with
  | zero =>
    intro i R hi hR hRl h
    have e : i = m := by omega
    subst e
    refine Ev.step (fun k => by rw [lpc_Stable.l2]) ?_
    rw [w64 (x := (i : Int) - 1) (by omega) (by omega)]
    exact evNeg (by omega) (by simpa using h)
  | succ n ih =>
    intro i R hi hR hRl h
    cases R with
    | nil => simp at hR
    | cons x R =>
      simp at hR hRl
      refine Ev.step (fun k => by rw [lpc_Stable.l2]) ?_
      have hb1 := rd_bounds (b := 2147483648) (by omega) hob (i : Int)
      have hb2 := mul24_bounds r (rd old ((m : Int) - 1 - i))
      rw [w64 (x := (m : Int) - 1) (by omega) (by omega), w64 (x := (m : Int) - 1 - i) (by omega) (by omega), w64 (x := (i : Int) + 1) (by omega) (by omega)]
      refine evPos (by omega) (evPos (by omega) (evPos (by omega) (evPos (by omega) (evPos (by omega) (Ev.bind (fix_mul _ _ 24 (by omega) (by omega)) ?_)))))
      rw [w64 (x := rd old i + _) (by omega) (by omega)]
      refine Ev.bind (fix_div_any _ d 24 (by omega) (by omega)) (Ev.bind (fix_clamp _ _ _) (evPos (by simp; omega) ?_))
      rw [set_mid ((List.range i).map (nextB r d old m)) x R _ i (by simp)]
      have h3 := ih (i + 1) R (by omega) (by omega) (by omega) (by simpa using h)
      rw [List.range_succ, List.map_append] at h3
      simpa [nextB] using h3
theorem stab_l1 (m : Nat) : ∀ (P J : List Int), P.length = m → m ≤ 32 → J.length ≤ 40 → P.length + J.length ≤ 40 → (∀ x ∈ P, -2147483648 ≤ x ∧ x ≤ 2147483648) → Ev (fun k => lpc_Stable.l1 k (P ++ J) ((m : Int) - 1)) (stabN m P) := by
  induction m with
  | zero =>
    intro P J hP hm hJ hJ2 hb
    refine Ev.step (fun k => by rw [lpc_Stable.l1]) ?_
    exact evNeg (by omega) (Ev.now _)
  | succ m ih =>
    intro P J hP hm hJ hJ2 hb
    have e0 : ((m + 1 : Nat) : Int) - 1 = (m : Int) := by omega
    rw [e0]
    have hrd : rd (P ++ J) (m : Int) = rd P m := by
      rw [rd_at (l := P ++ J) (i := m) (by simp; omega), rd_at (l := P) (i := m) (by omega)]
      exact List.getElem_append_left (by omega)
    refine Ev.step (fun k => by rw [lpc_Stable.l1]) ?_
    refine evPos (by omega) (evPos (by omega) (evPos (by simp; omega) ?_))
    rw [hrd]
    unfold stabN
    have hno : ∀ b, b = true → Ev (fun k => lpc_Stable.j2 k (P ++ J) m (rd P m) b) false := by
      intro b hb
      refine Ev.step (fun k => by rw [lpc_Stable.j2]) ?_
      exact evPos hb (Ev.now _)
    refine evIte (fun h => ?_) (fun h => ?_)
    · rw [if_pos h]; exact hno _ rfl
    · rw [if_neg h]
      by_cases h2 : rd P m < -16760438
      · rw [if_pos h2]; exact hno _ (decide_eq_true h2)
      · rw [if_neg h2, decide_eq_false h2]
        have hr : -16760438 ≤ rd P m ∧ rd P m ≤ 16760438 := by omega
        have hd := d_bounds hr
        refine Ev.step (fun k => by rw [lpc_Stable.j2]) ?_
        refine evNeg (by simp) (Ev.bind (fix_mul _ _ 24 (by omega) (by omega)) (Ev.bind (Ev.now _) (evPos (by omega) (evPos (by simp; omega) (Ev.bind (Ev.now _) ?_)))))
        rw [w64 (x := 16777216 - _) (by omega) (by omega)]
        have et : [] ++ (P ++ J).take ((m : Int)).toNat = P.take m := by
          rw [List.nil_append, Int.toNat_natCast, List.take_append_of_le_length (by omega)]
        rw [et]
        refine evPos (by simp; omega) ?_
        have key := ih ((List.range m).map (nextB (rd P m) (16777216 - mul (rd P m) (rd P m) 24) (P.take m) m)) ((P ++ J).drop m) (by simp) (by omega) (by simp; omega) (by simp; omega) (by
          intro x hx
          obtain ⟨i, _, rfl⟩ := List.mem_map.1 hx
          exact clamp_bounds (by omega))
        have h5 := stab_l2 (rd P m) (16777216 - mul (rd P m) (rd P m) 24) (P.take m) m (by omega) hr hd (by simp; omega) (fun x hx => hb x (List.mem_of_mem_take hx)) (res := stabN m ((List.range m).map (nextB (rd P m) (16777216 - mul (rd P m) (rd P m) 24) (P.take m) m))) m 0 (P ++ J) (by omega) (by simp; omega) (by simp; omega) key
        simpa using h5
def scaled (l : List Int) : List Int := l.map fun v => 4096 * clamp v (-131072) 131072
def stable (l : List Int) : Bool := if (l.length : Int) > 32 then false else stabN l.length (scaled l)
theorem stab_l0 (n : Nat) : ∀ (S A : List Int) (i m : Int), S.length = n → i = A.length → m = ((A.length + S.length : Nat) : Int) → A.length + S.length ≤ 32 →
    Ev (fun k => lpc_Stable.l0 k (scaled A ++ List.replicate n 0) (A ++ S) m i) (stabN (A.length + S.length) (scaled (A ++ S))) := by
  induction n with
  | zero =>
    intro S A i m hn hi hm hl
    have e1 : S = [] := List.eq_nil_of_length_eq_zero hn
    subst e1
    simp at hm hl
    refine Ev.step (fun k => by rw [lpc_Stable.l0]) ?_
    refine evNeg (by omega) ?_
    have h := stab_l1 A.length (scaled A) [] (by simp [scaled]) hl (by simp) (by simp [scaled]; omega) (by
      intro x hx
      obtain ⟨v, _, rfl⟩ := List.mem_map.1 hx
      have := clamp_bounds (a := v) (lo := -131072) (hi := 131072) (by omega)
      omega)
    have e : wrap64 (((scaled A ++ List.replicate 0 0).length : Int) - 1) = (A.length : Int) - 1 := by
      simp [scaled]; exact w64 (by omega) (by omega)
    rw [e]
    simpa using h
  | succ n ih =>
    intro S A i m hn hi hm hl
    cases S with
    | nil => simp at hn
    | cons v S =>
      simp at hn hm hl
      have hc := clamp_bounds (a := v) (lo := -131072) (hi := 131072) (by omega)
      refine Ev.step (fun k => by rw [lpc_Stable.l0]) ?_
      refine evPos (by omega) (evPos (by omega) (evPos (by simp; omega) ?_))
      rw [rd_mid A v S i hi, w64 (x := i + 1) (by omega) (by omega)]
      refine Ev.bind (fix_clamp _ _ _) (evPos (by simp [scaled]; omega) ?_)
      rw [w64 (x := 4096 * _) (by omega) (by omega), List.replicate_succ, set_mid (scaled A) 0 (List.replicate n 0) _ i (by simp [scaled]; omega)]
      have h := ih S (A ++ [v]) (i + 1) m (by omega) (by simp; omega) (by simp; omega) (by simp; omega)
      have e1 : A.length + (v :: S).length = (A ++ [v]).length + S.length := by simp; omega
      rw [e1]
      simpa [scaled] using h
theorem lpc_stable (l : List Int) : Ev (fun k => lpc_Stable.f k l) (stable l) := by
  refine Ev.congr (fun k => by rw [lpc_Stable.f]) ?_
  unfold stable
  refine evIte (fun h => ?_) (fun h => ?_)
  · rw [if_pos h]; exact Ev.now _
  · rw [if_neg h]
    refine evPos (by omega) (evPos (by omega) ?_)
    have h2 := stab_l0 l.length l [] 0 l.length rfl rfl (by simp) (by simp; omega)
    simpa [scaled] using h2

/-! fitted -/
def settle (l : List Int) : List Int := if stable l = true then l else List.replicate l.length 0
def fitN : Nat → Int → List Int → List Int
  | 0, _, l => settle l
  | n + 1, r, l => if stable l = true then l else fitN n (r + 1) (chirp l (65536 - 2048 * r))
theorem zeros_stable : ∀ n : Fin 33, stable (List.replicate n.val 0) = true := by decide +kernel
theorem settle_stable {l : List Int} (h : l.length ≤ 32) : stable (settle l) = true := by
  unfold settle; split
  · assumption
  · exact zeros_stable ⟨l.length, by omega⟩
theorem fitN_stable : ∀ (n : Nat) (r : Int) (l : List Int), l.length ≤ 32 → stable (fitN n r l) = true
  | 0, _, l, h => settle_stable h
  | n + 1, r, l, h => by
    unfold fitN; split
    · assumption
    · exact fitN_stable n _ _ (by unfold chirp; rw [chirpL_length]; exact h)
theorem fitN_length : ∀ (n : Nat) (r : Int) (l : List Int), (fitN n r l).length = l.length
  | 0, _, l => by unfold fitN settle; split <;> simp
  | n + 1, r, l => by
    unfold fitN; split
    · rfl
    · rw [fitN_length n]; unfold chirp; rw [chirpL_length]
theorem fitN_bound : ∀ (n : Nat) (r : Int) (l : List Int), (∀ v ∈ l, -131072 ≤ v ∧ v ≤ 131072) → ∀ v ∈ fitN n r l, -131072 ≤ v ∧ v ≤ 131072
  | 0, _, l, h => by
    unfold fitN settle; split
    · exact h
    · intro v hv; have := List.eq_of_mem_replicate hv; omega
  | n + 1, r, l, h => by
    unfold fitN; split
    · exact h
    · exact fitN_bound n _ _ (chirpL_bound (clamp_bounds (by omega)) 0 l h)
theorem fit_l1 (n : Nat) : ∀ (l : List Int) (r : Int), l.length ≤ 32 → r + n = 17 → 1 ≤ r → Ev (fun k => lpc_Fit.l1 k l r) (fitN n r l) := by
  induction n with
  | zero =>
    intro l r hl hr h1
    refine Ev.step (fun k => by rw [lpc_Fit.l1]) ?_
    refine evNeg (by omega) (Ev.bind (lpc_stable l) ?_)
    unfold fitN settle
    refine evIte (fun h => ?_) (fun h => ?_)
    · rw [if_pos h]; exact Ev.now _
    · rw [if_neg h]; exact Ev.now _
  | succ n ih =>
    intro l r hl hr h1
    refine Ev.step (fun k => by rw [lpc_Fit.l1]) ?_
    refine evPos (by omega) (Ev.bind (lpc_stable l) ?_)
    unfold fitN
    refine evIte (fun h => ?_) (fun h => ?_)
    · rw [if_pos h]
      exact Ev.bind (lpc_stable l) (evPos h (Ev.now _))
    · rw [if_neg h, w64 (x := 2048 * r) (by omega) (by omega), w64 (x := 65536 - 2048 * r) (by omega) (by omega), w64 (x := r + 1) (by omega) (by omega)]
      exact Ev.bind (lpc_chirp l _ hl) (ih _ _ (by unfold chirp; rw [chirpL_length]; exact hl) (by omega) (by omega))
def held (l : List Int) : List Int := l.map fun v => clamp v (-131072) 131072
theorem held_bound (l : List Int) : ∀ v ∈ held l, -131072 ≤ v ∧ v ≤ 131072 := by
  intro x hx
  obtain ⟨v, _, rfl⟩ := List.mem_map.1 hx
  exact clamp_bounds (by omega)
def fit (l : List Int) : List Int := fitN 16 1 (held l)
theorem fit_l0 (n : Nat) : ∀ (S A : List Int) (i m : Int), S.length = n → i = A.length → m = ((A.length + S.length : Nat) : Int) → A.length + S.length ≤ 32 →
    Ev (fun k => lpc_Fit.l0 k (held A ++ List.replicate n 0) (A ++ S) m i) (fit (A ++ S)) := by
  induction n with
  | zero =>
    intro S A i m hn hi hm hl
    have e1 : S = [] := List.eq_nil_of_length_eq_zero hn
    subst e1
    simp at hm hl
    refine Ev.step (fun k => by rw [lpc_Fit.l0]) ?_
    refine evNeg (by omega) ?_
    have h := fit_l1 16 (held A) 1 (by simpa [held] using hl) (by omega) (by omega)
    simpa [fit] using h
  | succ n ih =>
    intro S A i m hn hi hm hl
    cases S with
    | nil => simp at hn
    | cons v S =>
      simp at hn hm hl
      refine Ev.step (fun k => by rw [lpc_Fit.l0]) ?_
      refine evPos (by omega) (evPos (by omega) (evPos (by simp; omega) ?_))
      rw [rd_mid A v S i hi, w64 (x := i + 1) (by omega) (by omega)]
      refine Ev.bind (fix_clamp _ _ _) (evPos (by simp [held]; omega) ?_)
      rw [List.replicate_succ, set_mid (held A) 0 (List.replicate n 0) _ i (by simp [held]; omega)]
      have h := ih S (A ++ [v]) (i + 1) m (by omega) (by simp; omega) (by simp; omega) (by simp; omega)
      simpa [held] using h
theorem lpc_fit (l : List Int) (hl : l.length ≤ 32) : Ev (fun k => lpc_Fit.f k l) (fit l) := by
  refine Ev.congr (fun k => by rw [lpc_Fit.f]) ?_
  refine evNeg (by omega) (evPos (by omega) (evPos (by omega) ?_))
  have h := fit_l0 l.length l [] 0 l.length rfl rfl (by simp) (by simp; omega)
  simpa [held] using h
theorem fit_length (l : List Int) : (fit l).length = l.length := by unfold fit; rw [fitN_length]; simp [held]
theorem fit_bound (l : List Int) : ∀ v ∈ fit l, -131072 ≤ v ∧ v ≤ 131072 := fitN_bound 16 1 _ (held_bound l)
theorem fit_stable (l : List Int) (h : l.length ≤ 32) : stable (fit l) = true := fitN_stable 16 1 _ (by simpa [held] using h)
theorem fit_kept (l : List Int) (h : stable (held l) = true) : fit l = held l := by unfold fit fitN; rw [if_pos h]
end Go.Proofs.Ytgnklnpnfnpncaa.Q
namespace Go.Proofs.Ytgnklnpnfnpncaa.Q
open Go.RowKit
set_option linter.unusedVariables false

theorem bits_low (a : Int) (i : Nat) (hi : i ≤ 62) : Go.bits .and .i64 a (2 ^ i - 1) = a % 2 ^ i := by
  have hp : (0 : Int) < 2 ^ i := Int.pow_pos (by omega)
  have hpn : 0 < 2 ^ i := Nat.two_pow_pos i
  have hc : ((2 : Int) ^ i - 1) = ((2 ^ i - 1 : Nat) : Int) := by rw [Int.natCast_sub hpn]; simp
  have hle : (2 : Nat) ^ i ≤ 2 ^ 62 := Nat.pow_le_pow_right (by omega) hi
  unfold Go.bits
  rw [hc]
  have hb : (BitVec.ofInt 64 ((2 ^ i - 1 : Nat) : Int)).toNat = 2 ^ i - 1 := by
    rw [BitVec.ofInt_natCast, BitVec.toNat_ofNat]
    exact Nat.mod_eq_of_lt (by omega)
  have ha : (BitVec.ofInt 64 a).toNat = (a % 2 ^ 64).toNat := by rw [BitVec.toNat_ofInt]; rfl
  have hand : (BitVec.ofInt 64 a &&& BitVec.ofInt 64 ((2 ^ i - 1 : Nat) : Int)).toNat = (a % 2 ^ i).toNat := by
    rw [BitVec.toNat_and, hb, ha, Nat.and_two_pow_sub_one_eq_mod]
    have hd : (2 : Int) ^ i ∣ 2 ^ 64 := by
      refine ⟨2 ^ (64 - i), ?_⟩
      rw [← Int.pow_add]
      congr 1
      omega
    have h1 : (((a % 2 ^ 64).toNat % 2 ^ i : Nat) : Int) = a % 2 ^ i := by
      rw [Int.natCast_emod, Int.toNat_of_nonneg (Int.emod_nonneg _ (by decide))]
      have : ((2 ^ i : Nat) : Int) = (2 : Int) ^ i := by simp
      rw [this, Int.emod_emod_of_dvd _ hd]
    omega
  show IntKind.i64.wrap ((BitVec.ofInt 64 a &&& BitVec.ofInt 64 ((2 ^ i - 1 : Nat) : Int)).toNat : Int) = a % 2 ^ i
  rw [hand, Int.toNat_of_nonneg (Int.emod_nonneg _ (by omega)), IntKind.wrap_i64]
  have h1 := Int.emod_nonneg a (show (2 : Int) ^ i ≠ 0 by omega)
  have h2 := Int.emod_lt_of_pos a hp
  have h3 : (2 : Int) ^ i ≤ 2 ^ 62 := by exact_mod_cast hle
  have h4 : (2 : Int) ^ 62 = 4611686018427387904 := by decide
  omega
theorem bits_255 (a : Int) : Go.bits .and .i64 a 255 = a % 256 := bits_low a 8 (by omega)
theorem bits_1 (a : Int) : Go.bits .and .i64 a 1 = a % 2 := bits_low a 1 (by omega)
theorem bits_65535 (a : Int) : Go.bits .and .i64 a 65535 = a % 65536 := bits_low a 16 (by omega)
theorem bits_7 (a : Int) : Go.bits .and .i64 a 7 = a % 8 := bits_low a 3 (by omega)
theorem bits_8191 (a : Int) : Go.bits .and .i64 a 8191 = a % 8192 := bits_low a 13 (by omega)
end Go.Proofs.Ytgnklnpnfnpncaa.Q
namespace Go.Proofs.Ytgnklnpnfnpncaa.M
set_option linter.unusedVariables false
/-- A polynomial's value. -/
def ser (z s : Int) (l : List Int) : Int := l.foldl (fun s c => c + mul z s 30) s
/-- A cosine of a quarter's 16384ths. -/
def qr (x : Int) : Int :=
  if x ≤ 8192 then mul (ser (mul (mul x 1686629713 14) (mul x 1686629713 14) 30) (-296) [26631, -1491308, 44739243, -536870912, 1073741824]) 1 15
  else mul (mul (mul (16384 - x) 1686629713 14) (ser (mul (mul (16384 - x) 1686629713 14) (mul (16384 - x) 1686629713 14) 30) 2959 [-213044, 8947849, -178956971, 1073741824]) 30) 1 15
def fold (a : Int) : Int := if a % 65536 > 32768 then 65536 - a % 65536 else a % 65536
def cosI (a : Int) : Int := if fold a > 16384 then -qr (32768 - fold a) else qr (fold a)
theorem mul30 (a b : Int) : mul a b 30 = (fac a * fac b + 536870912) / 1073741824 := by
  unfold mul; rw [if_neg (by omega), if_neg (by omega), if_neg (by omega)]; rfl
theorem mul30_bounds (a b : Int) : -4294967297 ≤ mul a b 30 ∧ mul a b 30 ≤ 4294967297 := by
  have h := fac_prod a b
  rw [mul30]; omega
theorem mul15_bounds (a b : Int) : -140737488355330 ≤ mul a b 15 ∧ mul a b 15 ≤ 140737488355330 := by
  have h := fac_prod a b
  have e : mul a b 15 = (fac a * fac b + 16384) / 32768 := by
    unfold mul; rw [if_neg (by omega), if_neg (by omega), if_neg (by omega)]; rfl
  rw [e]; omega
theorem qr_small (x : Int) : -140737488355330 ≤ qr x ∧ qr x ≤ 140737488355330 := by
  unfold qr; split
  · exact mul15_bounds _ _
  · exact mul15_bounds _ _
/-- Does it hold of all below? -/
def all (p : Nat → Bool) : Nat → Bool
  | 0 => true
  | n + 1 => cond (p n) (all p n) false
theorem all_at {p : Nat → Bool} : ∀ {n : Nat}, all p n = true → ∀ i, i < n → p i = true
  | 0, _, i, hi => by omega
  | n + 1, h, i, hi => by
    unfold all at h
    cases hp : p n with
    | false => rw [hp] at h; simp at h
    | true =>
      rw [hp] at h
      by_cases e : i = n
      · rw [e]; exact hp
      · exact all_at (by simpa using h) i (by omega)
def okN (c s : Int) : Bool := match c, s with
  | .ofNat c, .ofNat s => Nat.ble c 32768 && Nat.ble s 32768 && Nat.ble (c * c + s * s) 1074003968 && Nat.ble 1073479680 (c * c + s * s)
  | _, _ => false
theorem okN_is {c s : Int} (h : okN c s = true) : 0 ≤ c ∧ c ≤ 32768 ∧ 0 ≤ s ∧ s ≤ 32768 ∧ c * c + s * s ≤ 1074003968 ∧ 1073479680 ≤ c * c + s * s := by
  unfold okN at h
  split at h
  · rename_i a b
    simp only [Bool.and_eq_true] at h
    have h1 := Nat.le_of_ble_eq_true h.1.1.1
    have h2 := Nat.le_of_ble_eq_true h.1.1.2
    have h3 := Nat.le_of_ble_eq_true h.1.2
    have h4 := Nat.le_of_ble_eq_true h.2
    have e : (Int.ofNat a * Int.ofNat a + Int.ofNat b * Int.ofNat b) = ((a * a + b * b : Nat) : Int) := rfl
    rw [e]
    refine ⟨Int.natCast_nonneg _, ?_, Int.natCast_nonneg _, ?_, ?_, ?_⟩
    · show ((a : Nat) : Int) ≤ _; omega
    · show ((b : Nat) : Int) ≤ _; omega
    · omega
    · omega
  · simp at h
end Go.Proofs.Ytgnklnpnfnpncaa.M
namespace Go.Proofs.Ytgnklnpnfnpncaa.Q
open Go.RowKit Go.Proofs.Ytgnklnpnfnpncaa.P Go.Proofs.YtgnklnpnfnpncaaW.PrintWords Go.Proofs.YtgnklnpnfnpncaaW.PrintLast Go.Proofs.YtgnklnpnfnpncaaW.PrintMore
open Go.Proofs.Ytgnklnpnfnpncaa.M
set_option linter.unusedVariables false

theorem series_l0 (z : Int) (n : Nat) : ∀ (S A : List Int) (s i m : Int), S.length = n → i = A.length → m = ((A.length + S.length : Nat) : Int) → m ≤ 1000 → (∀ c ∈ S, -2147483648 ≤ c ∧ c ≤ 2147483648) →
    Ev (fun k => fix_series.l0 k z s (A ++ S) m i) (ser z s S) := by
  induction n with
  | zero =>
    intro S A s i m hn hi hm hl hS
    have e1 : S = [] := List.eq_nil_of_length_eq_zero hn
    subst e1
    refine Ev.step (fun k => by rw [fix_series.l0]) ?_
    exact evNeg (by simp at hm; omega) (Ev.now _)
  | succ n ih =>
    intro S A s i m hn hi hm hl hS
    cases S with
    | nil => simp at hn
    | cons c S =>
      simp at hn hm
      have hc := hS c (by simp)
      have hb := mul30_bounds z s
      refine Ev.step (fun k => by rw [fix_series.l0]) ?_
      refine evPos (by omega) (evPos (by omega) (evPos (by simp; omega) ?_))
      refine Ev.bind (fix_mul z s 30 (by omega) (by omega)) ?_
      rw [rd_mid _ _ _ _ hi, w64 (x := i + 1) (by omega) (by omega), w64 (x := c + _) (by omega) (by omega)]
      have h := ih S (A ++ [c]) (c + mul z s 30) (i + 1) m (by omega) (by simp; omega) (by simp; omega) hl (fun y hy => hS y (by simp [hy]))
      simpa [ser] using h
theorem fix_ser (z s : Int) (l : List Int) (hl : l.length ≤ 100) (h : ∀ c ∈ l, -2147483648 ≤ c ∧ c ≤ 2147483648) : Ev (fun k => fix_series.f k z (s :: l)) (ser z s l) := by
  refine Ev.congr (fun k => by rw [fix_series.f]) ?_
  refine evPos (by simp only [List.length_cons]; omega) (evPos (by simp only [List.length_cons]; omega) (Ev.bind (Ev.now _) ?_))
  have h2 := series_l0 z l.length l [] s 0 l.length rfl rfl (by simp) (by omega) h
  exact h2
theorem cos_j1 (x : Int) (hx : 0 ≤ x ∧ x ≤ 16384) (b : Bool) : Ev (fun k => fix_Cos.j1 k x b) (if b = true then -qr x else qr x) := by
  have hq := qr_small x
  refine Ev.step (fun k => by rw [fix_Cos.j1]) ?_
  by_cases h : x ≤ 8192
  · refine evPos h (Ev.bind (fix_mul _ _ _ (by omega) (by omega)) (Ev.bind (fix_mul _ _ _ (by omega) (by omega)) (Ev.bind (fix_ser _ _ _ (by decide) (by decide)) (Ev.bind (fix_mul _ _ _ (by omega) (by omega)) ?_))))
    have e : mul (ser (mul (mul x 1686629713 14) (mul x 1686629713 14) 30) (-296) [26631, -1491308, 44739243, -536870912, 1073741824]) 1 15 = qr x := by unfold qr; rw [if_pos h]
    rw [e, w64 (x := -qr x) (by omega) (by omega)]
    refine evIte (fun hb => ?_) (fun hb => ?_)
    · rw [if_pos hb]; exact Ev.now _
    · rw [if_neg hb]; exact Ev.now _
  · refine evNeg h ?_
    rw [w64 (x := 16384 - x) (by omega) (by omega)]
    refine Ev.bind (fix_mul _ _ _ (by omega) (by omega)) (Ev.bind (fix_mul _ _ _ (by omega) (by omega)) (Ev.bind (fix_ser _ _ _ (by decide) (by decide)) (Ev.bind (fix_mul _ _ _ (by omega) (by omega)) (Ev.bind (fix_mul _ _ _ (by omega) (by omega)) ?_))))
    have e : mul (mul (mul (16384 - x) 1686629713 14) (ser (mul (mul (16384 - x) 1686629713 14) (mul (16384 - x) 1686629713 14) 30) 2959 [-213044, 8947849, -178956971, 1073741824]) 30) 1 15 = qr x := by unfold qr; rw [if_neg h]
    rw [e, w64 (x := -qr x) (by omega) (by omega)]
    refine evIte (fun hb => ?_) (fun hb => ?_)
    · rw [if_pos hb]; exact Ev.now _
    · rw [if_neg hb]; exact Ev.now _
theorem fix_cos (a : Int) : Ev (fun k => fix_Cos.f k a) (cosI a) := by
  have hj : ∀ x, 0 ≤ x → x ≤ 32768 → x = fold a → Ev (fun k => fix_Cos.j0 k x) (cosI a) := by
    intro x h0 h1 hx
    refine Ev.step (fun k => by rw [fix_Cos.j0]) ?_
    unfold cosI
    rw [← hx]
    refine evIte (fun h => ?_) (fun h => ?_)
    · rw [w64 (x := 32768 - x) (by omega) (by omega), if_pos h, decide_eq_true h]
      exact evEq (cos_j1 _ (by omega) true) (if_pos rfl)
    · rw [if_neg h, decide_eq_false h]
      exact evEq (cos_j1 _ (by omega) false) (if_neg (by simp))
  refine Ev.congr (fun k => by rw [fix_Cos.f]) ?_
  rw [bits_65535]
  refine evIte (fun h => ?_) (fun h => ?_)
  · rw [w64 (x := 65536 - a % 65536) (by omega) (by omega)]
    exact hj _ (by omega) (by omega) (by unfold fold; rw [if_pos h])
  · exact hj _ (by omega) (by omega) (by unfold fold; rw [if_neg h])
end Go.Proofs.Ytgnklnpnfnpncaa.Q
namespace Go.Proofs.Ytgnklnpnfnpncaa.Q
open Go.RowKit Go.Proofs.Ytgnklnpnfnpncaa.P Go.Proofs.YtgnklnpnfnpncaaW.PrintWords Go.Proofs.YtgnklnpnfnpncaaW.PrintLast Go.Proofs.YtgnklnpnfnpncaaW.PrintMore
open Go.Proofs.Ytgnklnpnfnpncaa.M
set_option linter.unusedVariables false

theorem poly_l1 (y : List Int) (L : Nat) (hL : y.length = L) (hL2 : L ≤ 20) (x4 : Int) (h4 : 1 ≤ x4 ∧ x4 < L) {Q : List Int → Prop} (next : ∀ f : List Int, f.length = L + 1 → ∃ r, Ev (fun k => lpc_poly.l0 k y f (x4 + 1)) r ∧ Q r) (n : Nat) :
    ∀ (f : List Int) (x5 : Int), f.length = L + 1 → x5 ≤ L → x5 = (n : Int) + 1 → ∃ r, Ev (fun k => lpc_poly.l1 k y f x4 x5) r ∧ Q r := by
  induction n with
  | zero =>
    intro f x5 hf h5 hn
    obtain ⟨r, hr, hq⟩ := next (f.set (1 : Int).toNat (wrap64 ((rd f 1) - (rd y x4)))) (by simpa using hf)
    refine ⟨r, ?_, hq⟩
    refine Ev.step (fun k => by rw [lpc_poly.l1]) ?_
    rw [w64 (x := x4 + 1) (by omega) (by omega)]
    exact evNeg (by omega) (evPos (by omega) (evPos (by omega) (evPos (by omega) hr)))
  | succ n ih =>
    intro f x5 hf h5 hn
    obtain ⟨r, hr, hq⟩ := ih (f.set x5.toNat (wrap64 ((rd f x5) + (wrap64 ((rd f (x5 - 2)) - mul (rd y x4) (rd f (x5 - 1)) 16))))) (x5 - 1) (by simpa using hf) (by omega) (by omega)
    refine ⟨r, ?_, hq⟩
    refine Ev.step (fun k => by rw [lpc_poly.l1]) ?_
    rw [w64 (x := x5 - 2) (by omega) (by omega), w64 (x := x5 - 1) (by omega) (by omega)]
    exact evPos (by omega) (evPos (by omega) (evPos (by omega) (evPos (by omega) (evPos (by omega) (evPos (by omega) (evPos (by omega) (evPos (by omega) (evPos (by omega) (Ev.bind (fix_mul _ _ 16 (by omega) (by omega)) hr)))))))))
theorem poly_l0 (y : List Int) (L : Nat) (hL : y.length = L) (hL2 : L ≤ 20) (d : Nat) : ∀ (f : List Int) (x4 : Int), f.length = L + 1 → 1 ≤ x4 → x4 + d = L → ∃ r, Ev (fun k => lpc_poly.l0 k y f x4) r ∧ r.length = L + 1 := by
  induction d with
  | zero =>
    intro f x4 hf h1 hd
    refine ⟨f, ?_, hf⟩
    refine Ev.step (fun k => by rw [lpc_poly.l0]) ?_
    exact evNeg (by omega) (Ev.now _)
  | succ d ih =>
    intro f x4 hf h1 hd
    obtain ⟨r, hr, hq⟩ := poly_l1 y L hL hL2 x4 ⟨h1, by omega⟩ (Q := fun r => r.length = L + 1) (fun f hf => ih f (x4 + 1) hf (by omega) (by omega)) (x4 - 1).toNat (f.set (x4 + 1).toNat (wrap64 ((wrap64 (2 * (rd f (x4 - 1)))) - mul (rd y x4) (rd f x4) 16))) x4 (by simpa using hf) (by omega) (by omega)
    refine ⟨r, ?_, hq⟩
    refine Ev.step (fun k => by rw [lpc_poly.l0]) ?_
    rw [w64 (x := x4 - 1) (by omega) (by omega), w64 (x := x4 + 1) (by omega) (by omega)]
    exact evPos (by omega) (evPos (by omega) (evPos (by omega) (evPos (by omega) (evPos (by omega) (Ev.bind (fix_mul _ _ 16 (by omega) (by omega)) (evPos (by omega) (evPos (by omega) hr)))))))
theorem lpc_poly_ok (y : List Int) (h : 1 ≤ y.length ∧ y.length ≤ 20) : ∃ r, Ev (fun k => lpc_poly.f k y) r ∧ r.length = y.length + 1 := by
  have e : wrap64 ((y.length : Int) + 1) = (y.length : Int) + 1 := w64 (by omega) (by omega)
  have e2 : ((y.length : Int) + 1).toNat = y.length + 1 := by omega
  obtain ⟨r, hr, hq⟩ := poly_l0 y y.length rfl h.2 (y.length - 1) (((List.replicate (y.length + 1) 0).set (0 : Int).toNat 65536).set (1 : Int).toNat (wrap64 (-(rd y 0)))) 1 (by simp) (by omega) (by omega)
  refine ⟨r, ?_, hq⟩
  refine Ev.congr (fun k => by rw [lpc_poly.f]) ?_
  rw [e, e2]
  exact evPos (by omega) (evPos (by omega) (Ev.bind (Ev.now _) (evPos (by omega) (evPos (by simp) (evPos (by simp; omega) hr)))))
theorem from_l1 (p q : List Int) (H : Nat) (hH : H ≤ 10) (hp : p.length = H + 1) (hq : q.length = H + 1) (d : Nat) : ∀ (a : List Int) (i : Int), a.length = 2 * H → 0 ≤ i → i + d = H → ∃ b : List Int, b.length = 2 * H ∧ Ev (fun k => lpc_From.l1 k p q a H i) (fit b, 0) := by
  induction d with
  | zero =>
    intro a i ha h0 hd
    refine ⟨a, ha, ?_⟩
    refine Ev.step (fun k => by rw [lpc_From.l1]) ?_
    exact evNeg (by omega) (Ev.bind (lpc_fit a (by omega)) (Ev.now _))
  | succ d ih =>
    intro a i ha h0 hd
    have key : ∀ t u : Int, ∃ b : List Int, b.length = 2 * H ∧ Ev (fun k => lpc_From.l1 k p q ((a.set i.toNat t).set ((a.length : Int) - 1 - i).toNat u) H (i + 1)) (fit b, 0) := fun t u => ih _ (i + 1) (by simpa using ha) (by omega) (by omega)
    obtain ⟨b, hb, hr⟩ := key (mul (wrap64 ((wrap64 (-(wrap64 ((rd q (i + 1)) - (rd q i))))) - (wrap64 ((rd p (i + 1)) + (rd p i))))) 1 5) (mul (wrap64 ((wrap64 ((rd q (i + 1)) - (rd q i))) - (wrap64 ((rd p (i + 1)) + (rd p i))))) 1 5)
    refine ⟨b, hb, ?_⟩
    refine Ev.step (fun k => by rw [lpc_From.l1]) ?_
    rw [w64 (x := i + 1) (by omega) (by omega), w64 (x := (a.length : Int) - 1) (by omega) (by omega), w64 (x := (a.length : Int) - 1 - i) (by omega) (by omega)]
    exact evPos (by omega) (evPos (by omega) (evPos (by omega) (evPos (by omega) (evPos (by omega) (evPos (by omega) (evPos (by omega) (Ev.bind (fix_mul _ 1 5 (by omega) (by omega)) (evPos (by omega) (Ev.bind (fix_mul _ 1 5 (by omega) (by omega)) (evPos (by omega) (evPos (by omega) hr)))))))))))
theorem from_l0 (l : List Int) (H : Nat) (hH : 1 ≤ H ∧ H ≤ 10) (hl : l.length = 2 * H) (d : Nat) : ∀ (e o : List Int) (i : Int), 0 ≤ i → i + d = 2 * H → (e.length : Int) = (i + 1) / 2 → (o.length : Int) = i / 2 → ∃ b : List Int, b.length = 2 * H ∧ Ev (fun k => lpc_From.l0 k l e o l (l.length : Int) i) (fit b, 0) := by
  induction d with
  | zero =>
    intro e o i h0 hd he ho
    obtain ⟨p, hp, hpl⟩ := lpc_poly_ok e (by omega)
    obtain ⟨q, hq, hql⟩ := lpc_poly_ok o (by omega)
    obtain ⟨b, hb, hr⟩ := from_l1 p q H hH.2 (by omega) (by omega) H (List.replicate l.length 0) 0 (by simp; omega) (by omega) (by omega)
    refine ⟨b, hb, ?_⟩
    refine Ev.step (fun k => by rw [lpc_From.l0]) ?_
    have ee : (e.length : Int) = H := by omega
    rw [ee, Int.toNat_natCast]
    exact evNeg (by omega) (Ev.bind hp (Ev.bind hq (evPos (by omega) (evPos (by omega) hr))))
  | succ d ih =>
    intro e o i h0 hd he ho
    have ht : Int.tmod i 2 = i % 2 := Int.tmod_eq_emod_of_nonneg h0
    by_cases h : i % 2 = 0
    · obtain ⟨b, hb, hr⟩ := ih (e ++ [wrap64 (4 * cosI (clamp (rd l i) 0 32768))]) o (i + 1) (by omega) (by omega) (by simp; omega) (by omega)
      refine ⟨b, hb, ?_⟩
      refine Ev.step (fun k => by rw [lpc_From.l0]) ?_
      rw [ht, w64 (x := i + 1) (by omega) (by omega)]
      exact evPos (by omega) (evPos (by omega) (evPos (by omega) (Ev.bind (fix_clamp _ _ _) (Ev.bind (fix_cos _) (evPos h (evPos (by omega) hr))))))
    · obtain ⟨b, hb, hr⟩ := ih e (o ++ [wrap64 (4 * cosI (clamp (rd l i) 0 32768))]) (i + 1) (by omega) (by omega) (by omega) (by simp; omega)
      refine ⟨b, hb, ?_⟩
      refine Ev.step (fun k => by rw [lpc_From.l0]) ?_
      rw [ht, w64 (x := i + 1) (by omega) (by omega)]
      exact evPos (by omega) (evPos (by omega) (evPos (by omega) (Ev.bind (fix_clamp _ _ _) (Ev.bind (fix_cos _) (evNeg h (evPos (by omega) hr))))))
theorem lpc_from (l : List Int) (h : l.length = 10 ∨ l.length = 16) : ∃ b : List Int, b.length = l.length ∧ Ev (fun k => lpc_From.f k l) (fit b, 0) := by
  obtain ⟨H, hH, hl⟩ : ∃ H : Nat, (1 ≤ H ∧ H ≤ 10) ∧ l.length = 2 * H := ⟨l.length / 2, by omega, by omega⟩
  obtain ⟨b, hb, hr⟩ := from_l0 l H hH hl (2 * H) [] [] 0 (by omega) (by omega) (by simp) (by simp)
  refine ⟨b, by omega, ?_⟩
  have hj : ∀ t, t = false → Ev (fun k => lpc_From.j0 k l t) (fit b, 0) := by
    intro t ht
    refine Ev.step (fun k => by rw [lpc_From.j0]) ?_
    exact evNeg (by simp [ht]) hr
  refine Ev.congr (fun k => by rw [lpc_From.f]) (evIte (fun _ => hj _ rfl) (fun h2 => hj _ ?_))
  have h3 : (l.length : Int) = 16 := by omega
  simp [h3]
theorem lpc_from_not (l : List Int) (h : ¬ (l.length = 10 ∨ l.length = 16)) : Ev (fun k => lpc_From.f k l) ([], 1) := by
  refine Ev.congr (fun k => by rw [lpc_From.f]) (evNeg (by omega) ?_)
  refine Ev.step (fun k => by rw [lpc_From.j0]) ?_
  have h3 : (l.length : Int) ≠ 16 := by omega
  exact evPos (by simpa using h3) (Ev.now _)
end Go.Proofs.Ytgnklnpnfnpncaa.Q
namespace Go.Proofs.Ytgnklnpnfnpncaa.Q
open Go.RowKit Go.Proofs.Ytgnklnpnfnpncaa.P Go.Proofs.YtgnklnpnfnpncaaW.PrintWords Go.Proofs.YtgnklnpnfnpncaaW.PrintLast Go.Proofs.YtgnklnpnfnpncaaW.PrintMore
set_option linter.unusedVariables false

theorem same_l0 (n : Nat) : ∀ (S T A B : List Int) (i : Int), S.length = n → T.length = S.length → B.length = A.length → i = A.length → A.length + S.length ≤ 1000000000 →
    Ev (fun k => madrigallaw7_same.l0 k (A ++ S) (B ++ T) i) (decide (S = T)) := by
  induction n with
  | zero =>
    intro S T A B i hn ht hb hi hl
    have e1 : S = [] := List.eq_nil_of_length_eq_zero hn
    subst e1
    have e2 : T = [] := List.eq_nil_of_length_eq_zero (by simpa using ht)
    subst e2
    refine Ev.step (fun k => by rw [madrigallaw7_same.l0]) ?_
    exact evNeg (by simp; omega) (evConst (by simp))
  | succ n ih =>
    intro S T A B i hn ht hb hi hl
    cases S with
    | nil => simp at hn
    | cons s S =>
      cases T with
      | nil => simp at ht
      | cons t T =>
        simp at hn ht hl
        refine Ev.step (fun k => by rw [madrigallaw7_same.l0]) ?_
        refine evPos (by simp; omega) (evPos (by omega) (evPos (by simp; omega) ?_))
        rw [rd_mid _ _ _ _ hi, rd_mid B t T i (by omega), w64 (x := i + 1) (by omega) (by omega)]
        refine evIte (fun h => ?_) (fun h => evConst (by simp [h]))
        have h2 := ih S T (A ++ [s]) (B ++ [t]) (i + 1) (by omega) (by omega) (by simp; omega) (by simp; omega) (by simp; omega)
        have e : decide (s :: S = t :: T) = decide (S = T) := by apply decide_eq_decide.2; simp [h]
        rw [e]
        simpa using h2
theorem same7 (a b : List Int) (h : a.length ≤ 1000000000) : Ev (fun k => madrigallaw7_same.f k a b) (decide (a = b)) := by
  refine Ev.congr (fun k => by rw [madrigallaw7_same.f]) ?_
  refine evIte (fun h2 => ?_) (fun h2 => evConst ?_)
  · have := same_l0 a.length a b [] [] 0 rfl (by omega) rfl rfl (by simpa using h)
    simpa using this
  · congr 1; symm; apply decide_eq_false; rintro rfl; exact h2 rfl
end Go.Proofs.Ytgnklnpnfnpncaa.Q
namespace Go.Proofs.Ytgnklnpnfnpncaa.Q
open Go.RowKit Go.Proofs.Ytgnklnpnfnpncaa.P Go.Proofs.YtgnklnpnfnpncaaW.PrintWords Go.Proofs.YtgnklnpnfnpncaaW.PrintLast Go.Proofs.YtgnklnpnfnpncaaW.PrintMore
open Go.Proofs.Ytgnklnpnfnpncaa.M
set_option linter.unusedVariables false

theorem ref_clamp (a lo hi : Int) : Ev (fun k => madrigalref1_Clamp.f k a lo hi) (clamp a lo hi) := by
  have hj : ∀ b, Ev (fun k => madrigalref1_Clamp.j0 k a lo hi b) (if b = true then lo else if a > hi then hi else a) := by
    intro b
    refine Ev.step (fun k => by rw [madrigalref1_Clamp.j0]) ?_
    refine evConst ?_
    cases b <;> simp <;> split <;> rfl
  refine Ev.congr (fun k => by rw [madrigalref1_Clamp.f]) ?_
  refine evIte (fun h => ?_) (fun h => ?_)
  · exact evEq (hj true) (by unfold clamp; simp [h])
  · exact evEq (hj _) (by unfold clamp; simp [h])
end Go.Proofs.Ytgnklnpnfnpncaa.Q
namespace Go.Proofs.Ytgnklnpnfnpncaa.Q
open Go.RowKit Go.Proofs.Ytgnklnpnfnpncaa.P Go.Proofs.YtgnklnpnfnpncaaW.PrintWords Go.Proofs.YtgnklnpnfnpncaaW.PrintLast Go.Proofs.YtgnklnpnfnpncaaW.PrintMore
open Go.Proofs.Ytgnklnpnfnpncaa.M
set_option linter.unusedVariables false

theorem uw64 {x : Int} (h0 : 0 ≤ x) (h1 : x < 18446744073709551616) : IntKind.u64.wrap x = x := by
  show x % 18446744073709551616 = x
  exact Int.emod_eq_of_lt h0 h1
theorem pow_62 {n : Nat} (h : n ≤ 62) : (1 : Int) ≤ 2 ^ n ∧ (2 : Int) ^ n ≤ 4611686018427387904 :=
  ⟨by have h1 : (0 : Int) < 2 ^ n := Int.pow_pos (by omega)
      omega, by have := pow_most h; simpa using this⟩
theorem round_two (p P : Int) (hP : 1 ≤ P) : (p + P) / (2 * P) = if p % (2 * P) ≥ P then p / (2 * P) + 1 else p / (2 * P) := by
  have hmod := Int.emod_nonneg p (show 2 * P ≠ 0 by omega)
  have hlt := Int.emod_lt_of_pos p (show 0 < 2 * P by omega)
  have hd := Int.mul_ediv_add_emod p (2 * P)
  split
  · refine (Int.ediv_emod_unique (a := p + P) (b := 2 * P) (r := p % (2 * P) - P) (q := p / (2 * P) + 1) (by omega)).2 ⟨?_, by omega, by omega⟩ |>.1
    rw [Int.mul_add]; omega
  · exact ((Int.ediv_emod_unique (a := p + P) (b := 2 * P) (r := p % (2 * P) + P) (q := p / (2 * P)) (by omega)).2 ⟨by omega, by omega, by omega⟩).1
theorem ref_mul (a b s : Int) (hs0 : -9223372036854775808 ≤ s) (hs1 : s ≤ 9223372036854775807) : Ev (fun k => madrigalref1_Mul.f k a b s) (mul a b s) := by
  have hp := fac_prod a b
  refine Ev.congr (fun k => by rw [madrigalref1_Mul.f]) (Ev.bind (ref_clamp a _ _) (Ev.bind (ref_clamp b _ _) ?_))
  have e : clamp a (-2147483648) 2147483648 * clamp b (-2147483648) 2147483648 = fac a * fac b := rfl
  rw [e, w64 (x := fac a * fac b) (by omega) (by omega)]
  have hno : ∀ t, t = true → Ev (fun k => madrigalref1_Mul.j0 k s (fac a * fac b) t) 0 := by
    intro t ht
    refine Ev.step (fun k => by rw [madrigalref1_Mul.j0]) ?_
    exact evPos ht (Ev.now _)
  unfold mul
  by_cases h1 : s < 0
  · rw [if_neg (show ¬ s = 0 by omega), if_pos h1]
    exact evPos h1 (hno _ rfl)
  · refine evNeg h1 ?_
    by_cases h2 : s > 62
    · rw [if_neg (show ¬ s = 0 by omega), if_neg h1, if_pos h2]
      exact hno _ (decide_eq_true h2)
    · rw [decide_eq_false h2]
      refine Ev.step (fun k => by rw [madrigalref1_Mul.j0]) ?_
      refine evNeg (by simp) (evIte (fun h3 => ?_) (fun h3 => ?_))
      · rw [if_pos h3]; exact Ev.now _
      · rw [if_neg h3, if_neg h1, if_neg h2, w64 (x := s - 1) (by omega) (by omega), uw64 (x := s - 1) (by omega) (by omega), uw64 (x := s) (by omega) (by omega), shl1_64 (by omega) (by omega), shr_64 (by omega)]
        have hs2 : s.toNat = (s - 1).toNat + 1 := by omega
        have e2 : (2 : Int) ^ s.toNat = 2 * 2 ^ (s - 1).toNat := by rw [hs2, pow_next]
        have hq := pow_61 (n := (s - 1).toNat) (by omega)
        have hr := round_two (fac a * fac b) (2 ^ (s - 1).toNat) hq.1
        have hmod := Int.emod_nonneg (fac a * fac b) (show 2 * 2 ^ (s - 1).toNat ≠ 0 by omega)
        have hlt := Int.emod_lt_of_pos (fac a * fac b) (show 0 < 2 * 2 ^ (s - 1).toNat by omega)
        have hd := Int.mul_ediv_add_emod (fac a * fac b) (2 * 2 ^ (s - 1).toNat)
        rw [Int.mul_comm] at hd
        have hq1 : -4611686018427387904 ≤ fac a * fac b / (2 * 2 ^ (s - 1).toNat) ∧ fac a * fac b / (2 * 2 ^ (s - 1).toNat) ≤ 4611686018427387904 := by
          have h := Int.natAbs_ediv_le_natAbs (fac a * fac b) (2 * 2 ^ (s - 1).toNat)
          omega
        rw [shl_64 (by omega) (by rw [e2]; omega) (by rw [e2]; omega), e2, w64 (x := fac a * fac b - _) (by omega) (by omega), w64 (x := _ + 1) (by omega) (by omega), hr]
        refine evPos (by omega) (evPos (by omega) (evIte (fun h4 => ?_) (fun h4 => ?_)))
        · rw [if_pos (by omega)]; exact Ev.now _
        · rw [if_neg (by omega)]; exact Ev.now _
end Go.Proofs.Ytgnklnpnfnpncaa.Q
namespace Go.Proofs.Ytgnklnpnfnpncaa.Pure
open Go.RowKit Go.Proofs.Ytgnklnpnfnpncaa.P Go.Proofs.YtgnklnpnfnpncaaW.PrintWords Go.Proofs.YtgnklnpnfnpncaaW.PrintLast Go.Proofs.YtgnklnpnfnpncaaW.PrintMore
open Go.Proofs.Ytgnklnpnfnpncaa.M Go.Proofs.Ytgnklnpnfnpncaa.Q
set_option linter.unusedVariables false

theorem dies_awake : Ev (fun k => madrigallaw7_awake.f k) true := Ev.of madrigallaw7_awake.mono (k := 400) (by kernel_rfl)
theorem mul12 {a : Int} (b : Int) (ha : -131072 ≤ a ∧ a ≤ 131072) : -68719476736 ≤ mul a b 12 ∧ mul a b 12 ≤ 68719476736 := by
  have hb := fac_bounds b
  have e : mul a b 12 = (fac a * fac b + 2048) / 4096 := by
    unfold mul; rw [if_neg (by omega), if_neg (by omega), if_neg (by omega)]; rfl
  have h := prod_le (x := a) (y := fac b) (a := 131072) (b := 2147483648) (by omega) (by omega)
  rw [e, fac_id (by omega) (by omega)]
  omega
theorem dies_l1 (x : List Int) (hx : x.length ≤ 16) (hb : ∀ v ∈ x, -131072 ≤ v ∧ v ≤ 131072) (o : List Int) (n : Int) (hn : 0 ≤ n ∧ n < 300) (ho : (o.length : Int) = n) (next : ∀ v, Ev (fun k => madrigallaw7_LpcDies.l0 k x (o ++ [v]) (n + 1)) true) (d : Nat) :
    ∀ (v i : Int), 0 ≤ i → i + d = x.length → (n = 0 ∧ v = 1048576) ∨ (-68719476736 * i ≤ v ∧ v ≤ 68719476736 * i) → Ev (fun k => madrigallaw7_LpcDies.l1 k x o n v i) true := by
  induction d with
  | zero =>
    intro v i h0 hd hv
    refine Ev.step (fun k => by rw [madrigallaw7_LpcDies.l1]) ?_
    rw [w64 (x := n + 1) (by omega) (by omega)]
    exact evNeg (by omega) (evNeg (by omega) (evNeg (by omega) (evPos (by omega) (next v))))
  | succ d ih =>
    intro v i h0 hd hv
    have hr := rd_bounds (b := 131072) (by omega) hb i
    refine Ev.step (fun k => by rw [madrigallaw7_LpcDies.l1]) ?_
    refine evPos (by omega) (evIte (fun h => ?_) (fun h => ?_))
    · have hm := mul12 (rd o (n - 1 - i)) hr
      rw [w64 (x := n - 1) (by omega) (by omega), w64 (x := n - 1 - i) (by omega) (by omega), w64 (x := i + 1) (by omega) (by omega)]
      refine evPos (by omega) (evPos (by omega) (evPos (by omega) (Ev.bind (ref_mul _ _ 12 (by omega) (by omega)) ?_)))
      rw [w64 (x := v + _) (by omega) (by omega)]
      exact ih _ _ (by omega) (by omega) (by omega)
    · rw [w64 (x := n + 1) (by omega) (by omega)]
      exact evNeg (by omega) (evNeg (by omega) (evPos (by omega) (next v)))
theorem dies_l0 (x : List Int) (hx : x.length ≤ 16) (hb : ∀ v ∈ x, -131072 ≤ v ∧ v ≤ 131072) (d : Nat) : ∀ (o : List Int) (n : Int), 0 ≤ n → (o.length : Int) = n → n + d = 300 → Ev (fun k => madrigallaw7_LpcDies.l0 k x o n) true := by
  induction d with
  | zero =>
    intro o n h0 ho hd
    refine Ev.step (fun k => by rw [madrigallaw7_LpcDies.l0]) ?_
    exact evNeg (by omega) (Ev.now _)
  | succ d ih =>
    intro o n h0 ho hd
    have next : ∀ v, Ev (fun k => madrigallaw7_LpcDies.l0 k x (o ++ [v]) (n + 1)) true := fun v => ih _ _ (by omega) (by simp; omega) (by omega)
    have hj : ∀ v, ((n = 0 ∧ v = 1048576) ∨ v = 0) → Ev (fun k => madrigallaw7_LpcDies.j3 k x o n v) true := by
      intro v hv
      refine Ev.step (fun k => by rw [madrigallaw7_LpcDies.j3]) ?_
      exact dies_l1 x hx hb o n (by omega) ho next x.length v 0 (by omega) (by omega) (by omega)
    refine Ev.step (fun k => by rw [madrigallaw7_LpcDies.l0]) ?_
    exact evPos (by omega) (evIte (fun h => hj _ (.inl ⟨h, rfl⟩)) (fun _ => hj _ (.inr rfl)))
theorem held_id : ∀ {l : List Int}, (∀ v ∈ l, -131072 ≤ v ∧ v ≤ 131072) → held l = l
  | [], _ => rfl
  | v :: l, h => by
    have h1 := h v (by simp)
    have e : held (v :: l) = clamp v (-131072) 131072 :: held l := rfl
    rw [e, clamp_id h1.1 h1.2, held_id (fun x hx => h x (by simp [hx]))]
theorem fit_fit (l : List Int) (h : l.length ≤ 32) : fit (fit l) = fit l := by
  have e := held_id (fit_bound l)
  rw [fit_kept (fit l) (by rw [e]; exact fit_stable l h), e]
theorem LpcDies : madrigallaw7_LpcDies.Pure := by
  intro l a _ _ _ _ _ _
  refine Ev.rounds (g := fun k => madrigallaw7_LpcDies.f k l a) ?_
  refine Ev.congr (fun k => by rw [madrigallaw7_LpcDies.f]) (Ev.bind dies_awake (evPos rfl ?_))
  refine evIte (fun _ => Ev.now _) (fun ha => ?_)
  have hl := fit_length a
  refine Ev.bind (lpc_fit a (by omega)) (evPos (by omega) (Ev.bind (lpc_stable _) (evPos (fit_stable a (by omega)) ?_)))
  refine Ev.bind (evEq (lpc_fit (fit a) (by omega)) (fit_fit a (by omega))) (Ev.bind (same7 _ _ (by omega)) ?_)
  refine Ev.step (fun k => by rw [madrigallaw7_LpcDies.j0]) ?_
  refine evNeg (by simp) ?_
  by_cases h : l.length = 10 ∨ l.length = 16
  · obtain ⟨b, hb, hf⟩ := lpc_from l h
    have hbl := fit_length b
    refine Ev.bind hf (evPos rfl (Ev.bind (lpc_stable _) (evPos (fit_stable b (by omega)) ?_)))
    refine Ev.bind (evEq (lpc_fit (fit b) (by omega)) (fit_fit b (by omega))) (Ev.bind (same7 _ _ (by omega)) ?_)
    refine Ev.step (fun k => by rw [madrigallaw7_LpcDies.j1]) ?_
    exact evNeg (by simp) (dies_l0 (fit b) (by omega) (fit_bound b) 300 [] 0 (by omega) rfl (by omega))
  · exact Ev.bind (lpc_from_not l h) (evNeg (by simp) (Ev.now _))
end Go.Proofs.Ytgnklnpnfnpncaa.Pure
