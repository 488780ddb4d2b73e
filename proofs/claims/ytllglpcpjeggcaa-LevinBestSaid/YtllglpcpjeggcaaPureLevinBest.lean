/- The first table's frequencies that are found leave the least, by the document's own reckoning: for every sound and order, without conditions. -/
import Derived.Test.YtllglpcpjeggcaaPx50
import Derived.Test.YtllglpcpjeggcaaV0
import Derived.Test.YtllglpcpjeggcaaPx1
import Derived.Test.YtllglpcpjeggcaaPx5
import Derived.Test.YtllglpcpjeggcaaPx6
import Derived.Test.YtllglpcpjeggcaaPx2
import Derived.Test.YtllglpcpjeggcaaPx3
import Derived.Test.YtllglpcpjeggcaaPx11
import Derived.Test.YtllglpcpjeggcaaPx12
import Derived.Test.YtllglpcpjeggcaaPx27
import Derived.Test.YtllglpcpjeggcaaPx31
import Derived.Test.YtllglpcpjeggcaaPx28
import Derived.Test.YtllglpcpjeggcaaPx29
import Derived.Test.YtllglpcpjeggcaaPx37
import Derived.Test.YtllglpcpjeggcaaPx38
import Derived.Test.YtllglpcpjeggcaaPx25
import Derived.KernelRfl
namespace Go.Proofs.Ytllglpcpjeggcaa.Q
open Go.RowKit Go.Proofs.YtllglpcpjeggcaaW.PrintWords Go.Proofs.YtllglpcpjeggcaaW.PrintLast Go.Proofs.YtllglpcpjeggcaaW.PrintMore
set_option linter.unusedVariables false
theorem evPos {α : Type} {c : Prop} [Decidable c] {A B : Nat → Option α} {r : α} (h : c) (hA : Ev A r) : Ev (fun k => if c then A k else B k) r := by
  obtain ⟨K, hA⟩ := hA
  exact ⟨K, fun k hk => by simp only [if_pos h]; exact hA k hk⟩
theorem evNeg {α : Type} {c : Prop} [Decidable c] {A B : Nat → Option α} {r : α} (h : ¬ c) (hB : Ev B r) : Ev (fun k => if c then A k else B k) r := by
  obtain ⟨K, hB⟩ := hB
  exact ⟨K, fun k hk => by simp only [if_neg h]; exact hB k hk⟩
theorem evIte {α : Type} {c : Prop} [Decidable c] {A B : Nat → Option α} {r : α} (hA : c → Ev A r) (hB : ¬ c → Ev B r) : Ev (fun k => if c then A k else B k) r := by
  by_cases h : c
  · exact evPos h (hA h)
  · exact evNeg h (hB h)
theorem evConst {α : Type} {r : α} {o : Option α} (h : o = some r) : Ev (fun _ => o) r := ⟨0, fun _ _ => h⟩
theorem evEq {α : Type} {g : Nat → Option α} {r r' : α} (h : Ev g r) (e : r = r') : Ev g r' := e ▸ h
theorem w64 {x : Int} (h1 : -9223372036854775808 ≤ x) (h2 : x ≤ 9223372036854775807) : wrap64 x = x := by
  unfold wrap64; omega
theorem rd_mid (A : List Int) (c : Int) (B : List Int) (i : Int) (h : i = A.length) : rd (A ++ c :: B) i = c := by
  subst h
  unfold rd
  rw [List.getD_eq_getElem?_getD, Int.toNat_natCast, List.getElem?_append_right (Nat.le_refl _)]
  simp
theorem set_mid (A : List Int) (c : Int) (B : List Int) (v i : Int) (h : i = A.length) : (A ++ c :: B).set i.toNat v = A ++ v :: B := by
  subst h
  rw [Int.toNat_natCast, List.set_append_right _ _ (Nat.le_refl _)]
  simp
theorem rd_at {l : List Int} {i : Nat} (h : i < l.length) : rd l (i : Int) = l[i] := by
  unfold rd
  rw [List.getD_eq_getElem?_getD, Int.toNat_natCast, List.getElem?_eq_getElem h]
  rfl
theorem rd_in {l : List Int} {i : Int} (h0 : 0 ≤ i) (h : i.toNat < l.length) : rd l i = l[i.toNat] := by
  unfold rd
  rw [List.getD_eq_getElem?_getD, List.getElem?_eq_getElem h]
  rfl
end Go.Proofs.Ytllglpcpjeggcaa.Q
namespace Go.Proofs.Ytllglpcpjeggcaa.M
set_option linter.unusedVariables false
def clamp (a lo hi : Int) : Int := if lo > hi ∨ a < lo then lo else if a > hi then hi else a
theorem clamp_bounds {a lo hi : Int} (h : lo ≤ hi) : lo ≤ clamp a lo hi ∧ clamp a lo hi ≤ hi := by
  unfold clamp; repeat' split
  all_goals omega
def sat (a : Int) : Int := clamp a (-32768) 32767
theorem sat_bounds (a : Int) : -32768 ≤ sat a ∧ sat a ≤ 32767 := clamp_bounds (by omega)
end Go.Proofs.Ytllglpcpjeggcaa.M
namespace Go.Proofs.Ytllglpcpjeggcaa.Q
open Go.RowKit Go.Proofs.Ytllglpcpjeggcaa.P Go.Proofs.YtllglpcpjeggcaaW.PrintWords Go.Proofs.YtllglpcpjeggcaaW.PrintLast Go.Proofs.YtllglpcpjeggcaaW.PrintMore
open Go.Proofs.Ytllglpcpjeggcaa.M
set_option linter.unusedVariables false
theorem fix_clamp (a lo hi : Int) : Ev (fun k => fix_Clamp.f k a lo hi) (clamp a lo hi) := by
  have hj : ∀ b, Ev (fun k => fix_Clamp.j0 k a lo hi b) (if b = true then lo else if a > hi then hi else a) := by
    intro b
    refine Ev.step (fun k => by rw [fix_Clamp.j0]) ?_
    refine evConst ?_
    cases b <;> simp <;> split <;> rfl
  refine Ev.congr (fun k => by rw [fix_Clamp.f]) ?_
  refine evIte (fun h => ?_) (fun h => ?_)
  · exact evEq (hj true) (by unfold clamp; simp [h])
  · exact evEq (hj _) (by unfold clamp; simp [h])
end Go.Proofs.Ytllglpcpjeggcaa.Q
namespace Go.Proofs.Ytllglpcpjeggcaa.M
set_option linter.unusedVariables false
def fac (a : Int) : Int := clamp a (-2147483648) 2147483648
theorem fac_bounds (a : Int) : -2147483648 ≤ fac a ∧ fac a ≤ 2147483648 := clamp_bounds (by omega)
def mul (a b s : Int) : Int := if s = 0 then fac a * fac b else if s < 0 then 0 else if s > 62 then 0 else (fac a * fac b + 2 ^ (s - 1).toNat) / 2 ^ s.toNat
theorem prod_le {x y : Int} {a b : Nat} (hx : x.natAbs ≤ a) (hy : y.natAbs ≤ b) : -((a * b : Nat) : Int) ≤ x * y ∧ x * y ≤ ((a * b : Nat) : Int) := by
  have h : (x * y).natAbs ≤ a * b := by rw [Int.natAbs_mul]; exact Nat.mul_le_mul hx hy
  omega
theorem fac_prod (a b : Int) : -4611686018427387904 ≤ fac a * fac b ∧ fac a * fac b ≤ 4611686018427387904 := by
  have h1 := fac_bounds a
  have h2 := fac_bounds b
  have h := prod_le (x := fac a) (y := fac b) (a := 2147483648) (b := 2147483648) (by omega) (by omega)
  omega
theorem pow_most {n m : Nat} (h : n ≤ m) : (2 : Int) ^ n ≤ 2 ^ m := by
  have hn : (2 : Nat) ^ n ≤ 2 ^ m := Nat.pow_le_pow_right (by omega) h
  exact_mod_cast hn
theorem pow_61 {n : Nat} (h : n ≤ 61) : (1 : Int) ≤ 2 ^ n ∧ (2 : Int) ^ n ≤ 2305843009213693952 :=
  ⟨by have h1 : (0 : Int) < 2 ^ n := Int.pow_pos (by omega)
      omega, by have := pow_most h; simpa using this⟩
theorem pow_next (n : Nat) : (2 : Int) ^ (n + 1) = 2 * 2 ^ n := by rw [Int.pow_succ]; omega
end Go.Proofs.Ytllglpcpjeggcaa.M
namespace Go.Proofs.Ytllglpcpjeggcaa.Q
open Go.RowKit Go.Proofs.Ytllglpcpjeggcaa.P Go.Proofs.YtllglpcpjeggcaaW.PrintWords Go.Proofs.YtllglpcpjeggcaaW.PrintLast Go.Proofs.YtllglpcpjeggcaaW.PrintMore
open Go.Proofs.Ytllglpcpjeggcaa.M
set_option linter.unusedVariables false
theorem fix_factor (a : Int) : Ev (fun k => fix_factor.f k a) (fac a) := by
  refine Ev.congr (fun k => by rw [fix_factor.f]) ?_
  exact Ev.bind (fix_clamp a _ _) (Ev.now _)
theorem shl1_64 {s : Int} (h0 : 0 ≤ s) (h1 : s ≤ 61) : shl .i64 1 s = 2 ^ s.toNat := by
  have hp := pow_61 (n := s.toNat) (by omega)
  unfold shl
  rw [show IntKind.i64.bits = 64 from rfl, Nat.min_eq_left (by omega), Int.one_mul, i64_w]
  exact w64 (by omega) (by omega)
theorem shr_64 {x s : Int} (h1 : s ≤ 64) : shr .i64 x s = x / 2 ^ s.toNat := by
  unfold shr
  rw [show IntKind.i64.bits = 64 from rfl, Nat.min_eq_left (by omega)]
theorem fix_mul (a b s : Int) (hs0 : -9223372036854775808 ≤ s) (hs1 : s ≤ 9223372036854775807) : Ev (fun k => fix_Mul.f k a b s) (mul a b s) := by
  have hp := fac_prod a b
  refine Ev.congr (fun k => by rw [fix_Mul.f]) (Ev.bind (fix_factor a) (Ev.bind (fix_factor b) ?_))
  unfold mul
  rw [w64 (x := fac a * fac b) (by omega) (by omega)]
  refine evIte (fun h => ?_) (fun h => ?_)
  · rw [if_pos h]; exact Ev.now _
  · rw [if_neg h]
    refine evIte (fun h2 => ?_) (fun h2 => ?_)
    · rw [if_pos h2]; exact Ev.now _
    · rw [if_neg h2]
      refine evIte (fun h3 => ?_) (fun h3 => ?_)
      · rw [if_pos h3]; exact Ev.now _
      · rw [if_neg h3, w64 (x := s - 1) (by omega) (by omega), shl1_64 (by omega) (by omega)]
        have hp2 := pow_61 (n := (s - 1).toNat) (by omega)
        rw [w64 (x := fac a * fac b + _) (by omega) (by omega), shr_64 (by omega)]
        exact evPos (by omega) (evPos (by omega) (Ev.now _))
end Go.Proofs.Ytllglpcpjeggcaa.Q
namespace Go.Proofs.Ytllglpcpjeggcaa.Q
open Go.RowKit Go.Proofs.Ytllglpcpjeggcaa.P Go.Proofs.YtllglpcpjeggcaaW.PrintWords Go.Proofs.YtllglpcpjeggcaaW.PrintLast Go.Proofs.YtllglpcpjeggcaaW.PrintMore
open Go.Proofs.Ytllglpcpjeggcaa.M
set_option linter.unusedVariables false
theorem shl_64 {x s : Int} (h1 : s ≤ 64) (a0 : -9223372036854775808 ≤ x * 2 ^ s.toNat) (a1 : x * 2 ^ s.toNat ≤ 9223372036854775807) : shl .i64 x s = x * 2 ^ s.toNat := by
  unfold shl
  rw [show IntKind.i64.bits = 64 from rfl, Nat.min_eq_left (by omega), i64_w]
  exact w64 a0 a1
end Go.Proofs.Ytllglpcpjeggcaa.Q
namespace Go.Proofs.Ytllglpcpjeggcaa.Q
open Go.RowKit Go.Proofs.Ytllglpcpjeggcaa.P Go.Proofs.YtllglpcpjeggcaaW.PrintWords Go.Proofs.YtllglpcpjeggcaaW.PrintLast Go.Proofs.YtllglpcpjeggcaaW.PrintMore
open Go.Proofs.Ytllglpcpjeggcaa.M
set_option linter.unusedVariables false
theorem fix_sat12 (a : Int) : Ev (fun k => fix_Sat16.f k a) (sat a) := by
  refine Ev.congr (fun k => by rw [fix_Sat16.f]) ?_
  exact Ev.bind (fix_clamp a (-32768) 32767) (Ev.now _)
def Within (b : Int) (l : List Int) : Prop := ∀ x ∈ l, -b ≤ x ∧ x ≤ b
theorem within_sat (l : List Int) : Within 32768 (l.map sat) := by
  intro x hx
  obtain ⟨v, _, rfl⟩ := List.mem_map.1 hx
  have := sat_bounds v
  omega
theorem sound_l0 (n : Nat) : ∀ (S A : List Int) (i m : Int), S.length = n → i = A.length → m = ((A.length + S.length : Nat) : Int) → A.length + S.length ≤ 1000000 →
    Ev (fun k => levin_sound.l0 k (A.map sat ++ List.replicate n 0) (A ++ S) m i) ((A ++ S).map sat) := by
  induction n with
  | zero =>
    intro S A i m hn hi hm hl
    have e1 : S = [] := List.eq_nil_of_length_eq_zero hn
    subst e1
    simp at hm hl
    refine Ev.step (fun k => by rw [levin_sound.l0]) ?_
    refine evNeg (by omega) ?_
    simpa using Ev.now (A.map sat)
  | succ n ih =>
    intro S A i m hn hi hm hl
    cases S with
    | nil => simp at hn
    | cons v S =>
      simp at hn hm hl
      refine Ev.step (fun k => by rw [levin_sound.l0]) ?_
      refine evPos (by omega) (evPos (by omega) (evPos (by simp; omega) ?_))
      rw [rd_mid A v S i hi, w64 (x := i + 1) (by omega) (by omega)]
      refine Ev.bind (fix_sat12 _) (evPos (by simp; omega) ?_)
      rw [List.replicate_succ, set_mid (A.map sat) 0 (List.replicate n 0) _ i (by simp; omega)]
      have h := ih S (A ++ [v]) (i + 1) m (by omega) (by simp; omega) (by simp; omega) (by simp; omega)
      simpa using h
theorem levin_sound' (l : List Int) (hl : l.length ≤ 1000000) : Ev (fun k => levin_sound.f k l) (l.map sat) := by
  refine Ev.congr (fun k => by rw [levin_sound.f]) ?_
  refine evPos (by omega) (evPos (by omega) ?_)
  have h := sound_l0 l.length l [] 0 l.length rfl rfl (by simp) (by simpa using hl)
  simpa using h
def tsum : List Int → List Int → Int
  | a :: l, p :: q => mul a p 12 + tsum l q
  | _, _ => 0
theorem tsum_nil (m : List Int) : tsum [] m = 0 := by cases m <;> rfl
theorem tsum_nil' (m : List Int) : tsum m [] = 0 := by cases m <;> rfl
theorem mul12_bounds (a b : Int) : -1125899906842625 ≤ mul a b 12 ∧ mul a b 12 ≤ 1125899906842625 := by
  have h := fac_prod a b
  have e : mul a b 12 = (fac a * fac b + 2048) / 4096 := by unfold mul; rw [if_neg (by omega), if_neg (by omega), if_neg (by omega)]; rfl
  rw [e]; omega
def held12 (a : List Int) : List Int := a.map fun v => clamp v (-131072) 131072
def restL (a : List Int) : List Int → List Int → List Int
  | _, [] => []
  | past, v :: x => (v - tsum a past) :: restL a (v :: past) x
theorem restL_length (a : List Int) : ∀ (x past : List Int), (restL a past x).length = x.length
  | [], _ => rfl
  | v :: x, past => by simp [restL, restL_length a x (v :: past)]
theorem rest_l1 (a P X out : List Int) (m im : Int) (n : Int) (hn : n = P.length) (hP : P.length ≤ 1000000) (ha : a.length ≤ 32) (ho : n < out.length) {r : List Int × Int} (d : Nat) : ∀ (j : Nat) (v : Int), j + d = a.length → -1125899906842625 * (100 + j) ≤ v ∧ v ≤ 1125899906842625 * (100 + j) →
    Ev (fun k => levin_Rest.l0 k (P ++ X) a (out.set n.toNat (v - tsum ((held12 a).drop j) (P.reverse.drop j))) m (wrap64 (im + 1))) r →
    Ev (fun k => levin_Rest.l1 k (P ++ X) a out n v m im a (a.length : Int) j) r := by
  induction d with
  | zero =>
    intro j v hj hv h
    refine Ev.step (fun k => by rw [levin_Rest.l1]) ?_
    refine evNeg (by omega) (evPos (by omega) (evPos ho ?_))
    have e : (held12 a).drop j = [] := List.drop_eq_nil_of_le (by simp [held12]; omega)
    rw [e, tsum_nil, Int.sub_zero] at h
    exact h
  | succ d ih =>
    intro j v hj hv h
    refine Ev.step (fun k => by rw [levin_Rest.l1]) ?_
    rw [w64 (x := n - 1) (by omega) (by omega), w64 (x := n - 1 - j) (by omega) (by omega), w64 (x := (j : Int) + 1) (by omega) (by omega)]
    refine evPos (by omega) (evPos (by omega) (evPos (by omega) ?_))
    have hja : j < a.length := by omega
    have e0 : rd a (j : Int) = a[j] := rd_at hja
    have ea : (held12 a).drop j = clamp a[j] (-131072) 131072 :: (held12 a).drop (j + 1) := by
      rw [List.drop_eq_getElem_cons (i := j) (by simp [held12]; omega)]; simp [held12]
    refine evIte (fun hc => ?_) (fun hc => ?_)
    · have hjn : j < P.length := by omega
      refine Ev.bind (fix_clamp _ _ _) (evPos (by omega) (evPos (by simp; omega) ?_))
      have e1 : rd (P ++ X) (n - 1 - j) = P.reverse[j]'(by simp; omega) := by
        rw [rd_in (by omega) (by simp; omega), List.getElem_append_left (by omega), List.getElem_reverse]
        congr 1; omega
      have hb := mul12_bounds (clamp (rd a j) (-131072) 131072) (rd (P ++ X) (n - 1 - j))
      refine Ev.bind (fix_mul _ _ 12 (by omega) (by omega)) ?_
      rw [w64 (x := v - _) (by omega) (by omega)]
      have ep : P.reverse.drop j = P.reverse[j]'(by simp; omega) :: P.reverse.drop (j + 1) := List.drop_eq_getElem_cons (by simp; omega)
      rw [ea, ep] at h
      have et : v - tsum (clamp a[j] (-131072) 131072 :: (held12 a).drop (j + 1)) (P.reverse[j]'(by simp; omega) :: P.reverse.drop (j + 1)) = v - mul (clamp (rd a j) (-131072) 131072) (rd (P ++ X) (n - 1 - j)) 12 - tsum ((held12 a).drop (j + 1)) (P.reverse.drop (j + 1)) := by
        rw [e0, e1]; simp only [tsum]; omega
      rw [et] at h
      exact ih (j + 1) _ (by omega) (by simp; omega) h
    · have ep : P.reverse.drop j = [] := List.drop_eq_nil_of_le (by simp; omega)
      have ep2 : P.reverse.drop (j + 1) = [] := List.drop_eq_nil_of_le (by simp; omega)
      refine ih (j + 1) v (by omega) (by simp; omega) ?_
      rw [ep, tsum_nil'] at h
      rw [ep2, tsum_nil']
      exact h
theorem rest_l0 (a : List Int) (ha : a.length ≤ 32) (n : Nat) : ∀ (X P D : List Int) (i m : Int), X.length = n → Within 32768 X → D.length = P.length → i = P.length → m = ((P.length + X.length : Nat) : Int) → P.length + X.length ≤ 1000000 →
    Ev (fun k => levin_Rest.l0 k (P ++ X) a (D ++ List.replicate n 0) m i) (D ++ restL (held12 a) P.reverse X, 0) := by
  induction n with
  | zero =>
    intro X P D i m hn hw hd hi hm hl
    have e1 : X = [] := List.eq_nil_of_length_eq_zero hn
    subst e1
    simp at hm hl
    refine Ev.step (fun k => by rw [levin_Rest.l0]) ?_
    refine evNeg (by omega) ?_
    simpa [restL] using Ev.now (D, (0 : Int))
  | succ n ih =>
    intro X P D i m hn hw hd hi hm hl
    cases X with
    | nil => simp at hn
    | cons v X =>
      simp at hn hm hl
      have hv := hw v (by simp)
      refine Ev.step (fun k => by rw [levin_Rest.l0]) ?_
      refine evPos (by omega) (evPos (by omega) (evPos (by simp; omega) ?_))
      rw [rd_mid P v X i hi]
      refine rest_l1 a P (v :: X) _ m i i hi (by omega) ha (by simp; omega) a.length 0 v (by omega) (by omega) ?_
      rw [List.replicate_succ, set_mid D 0 (List.replicate n 0) _ i (by omega), w64 (x := i + 1) (by omega) (by omega)]
      have h := ih X (P ++ [v]) (D ++ [v - tsum (held12 a) P.reverse]) (i + 1) m (by omega) (fun x hx => hw x (by simp [hx])) (by simp; omega) (by simp; omega) (by simp; omega) (by simp; omega)
      simpa [restL] using h
theorem levin_rest (x a : List Int) (hx : x.length ≤ 960) (ha : a.length ≤ 32) : Ev (fun k => levin_Rest.f k x a) (restL (held12 a) [] (x.map sat), 0) := by
  refine Ev.congr (fun k => by rw [levin_Rest.f]) ?_
  refine evNeg (by omega) ?_
  rw [decide_eq_false (by omega)]
  refine Ev.step (fun k => by rw [levin_Rest.j0]) ?_
  refine evNeg (by simp) (Ev.bind (levin_sound' x (by omega)) (evPos (by omega) (evPos (by simp; omega) ?_)))
  have h := rest_l0 a ha (x.map sat).length (x.map sat) [] [] 0 (x.map sat).length rfl (within_sat x) rfl rfl (by simp) (by simp; omega)
  simpa using h
def cl20 (v : Int) : Int := clamp v (-1048576) 1048576
def powL : List Int → Int
  | [] => 0
  | v :: l => cl20 v * cl20 v + powL l
theorem cl20_sq (v : Int) : 0 ≤ cl20 v * cl20 v ∧ cl20 v * cl20 v ≤ 1099511627776 := by
  have hc := clamp_bounds (a := v) (lo := -1048576) (hi := 1048576) (by omega)
  have h := prod_le (x := cl20 v) (y := cl20 v) (a := 1048576) (b := 1048576) (by unfold cl20; omega) (by unfold cl20; omega)
  refine ⟨?_, by omega⟩
  rcases Int.le_total 0 (cl20 v) with h | h
  · exact Int.mul_nonneg h h
  · exact Int.mul_nonneg_of_nonpos_of_nonpos h h
theorem power_l0 (n : Nat) : ∀ (S A : List Int) (s i m : Int), S.length = n → i = A.length → m = ((A.length + S.length : Nat) : Int) → A.length + S.length ≤ 1000 → 0 ≤ s ∧ s ≤ 1099511627776 * i →
    Ev (fun k => levin_Power.l0 k s (A ++ S) m i) (s + powL S) := by
  induction n with
  | zero =>
    intro S A s i m hn hi hm hl hs
    have e1 : S = [] := List.eq_nil_of_length_eq_zero hn
    subst e1
    refine Ev.step (fun k => by rw [levin_Power.l0]) ?_
    exact evNeg (by simp at hm; omega) (evConst (by simp [powL]))
  | succ n ih =>
    intro S A s i m hn hi hm hl hs
    cases S with
    | nil => simp at hn
    | cons v S =>
      simp at hn hm hl
      have hsq := cl20_sq v
      refine Ev.step (fun k => by rw [levin_Power.l0]) ?_
      refine evPos (by omega) (evPos (by omega) (evPos (by simp; omega) ?_))
      rw [rd_mid _ _ _ _ hi, w64 (x := i + 1) (by omega) (by omega)]
      refine Ev.bind (fix_clamp _ _ _) ?_
      have e : clamp v (-1048576) 1048576 = cl20 v := rfl
      rw [e, w64 (x := cl20 v * cl20 v) (by omega) (by omega), w64 (x := s + _) (by omega) (by omega)]
      have h := ih S (A ++ [v]) (s + cl20 v * cl20 v) (i + 1) m (by omega) (by simp; omega) (by simp; omega) (by simp; omega) (by omega)
      refine evEq (by simpa using h) ?_
      simp only [powL]; omega
theorem levin_power (l : List Int) : Ev (fun k => levin_Power.f k l) (powL (l.take 960)) := by
  refine Ev.congr (fun k => by rw [levin_Power.f]) ?_
  have hm : 0 ≤ mn (l.length : Int) 960 ∧ mn (l.length : Int) 960 ≤ l.length ∧ l.take (mn (l.length : Int) 960).toNat = l.take 960 := by
    unfold mn
    split
    · exact ⟨by omega, by omega, rfl⟩
    · refine ⟨by omega, by omega, ?_⟩
      rw [List.take_of_length_le (by omega), List.take_of_length_le (by omega)]
  refine evPos hm.1 (evPos hm.2.1 ?_)
  rw [hm.2.2]
  refine Ev.bind (Ev.now _) ?_
  have hl : (l.take 960).length ≤ 960 := List.length_take_le _ _
  have h := power_l0 (l.take 960).length (l.take 960) [] 0 0 (l.take 960).length rfl rfl (by simp) (by simp; omega) (by omega)
  simpa using h
end Go.Proofs.Ytllglpcpjeggcaa.Q
namespace Go.Proofs.Ytllglpcpjeggcaa.Q
open Go.RowKit Go.Proofs.Ytllglpcpjeggcaa.P Go.Proofs.YtllglpcpjeggcaaW.PrintWords Go.Proofs.YtllglpcpjeggcaaW.PrintLast Go.Proofs.YtllglpcpjeggcaaW.PrintMore
open Go.Proofs.Ytllglpcpjeggcaa.M
set_option linter.unusedVariables false
theorem ref_clamp (a lo hi : Int) : Ev (fun k => madrigalref1_Clamp.f k a lo hi) (clamp a lo hi) := by
  have hj : ∀ b, Ev (fun k => madrigalref1_Clamp.j0 k a lo hi b) (if b = true then lo else if a > hi then hi else a) := by
    intro b
    refine Ev.step (fun k => by rw [madrigalref1_Clamp.j0]) ?_
    refine evConst ?_
    cases b <;> simp <;> split <;> rfl
  refine Ev.congr (fun k => by rw [madrigalref1_Clamp.f]) ?_
  refine evIte (fun h => ?_) (fun h => ?_)
  · exact evEq (hj true) (by unfold clamp; simp [h])
  · exact evEq (hj _) (by unfold clamp; simp [h])
end Go.Proofs.Ytllglpcpjeggcaa.Q
namespace Go.Proofs.Ytllglpcpjeggcaa.Q
open Go.RowKit Go.Proofs.Ytllglpcpjeggcaa.P Go.Proofs.YtllglpcpjeggcaaW.PrintWords Go.Proofs.YtllglpcpjeggcaaW.PrintLast Go.Proofs.YtllglpcpjeggcaaW.PrintMore
open Go.Proofs.Ytllglpcpjeggcaa.M
set_option linter.unusedVariables false
theorem uw64 {x : Int} (h0 : 0 ≤ x) (h1 : x < 18446744073709551616) : IntKind.u64.wrap x = x := by
  show x % 18446744073709551616 = x
  exact Int.emod_eq_of_lt h0 h1
theorem round_two (p P : Int) (hP : 1 ≤ P) : (p + P) / (2 * P) = if p % (2 * P) ≥ P then p / (2 * P) + 1 else p / (2 * P) := by
  have hmod := Int.emod_nonneg p (show 2 * P ≠ 0 by omega)
  have hlt := Int.emod_lt_of_pos p (show 0 < 2 * P by omega)
  have hd := Int.mul_ediv_add_emod p (2 * P)
  split
  · refine (Int.ediv_emod_unique (a := p + P) (b := 2 * P) (r := p % (2 * P) - P) (q := p / (2 * P) + 1) (by omega)).2 ⟨?_, by omega, by omega⟩ |>.1
    rw [Int.mul_add]; omega
  · exact ((Int.ediv_emod_unique (a := p + P) (b := 2 * P) (r := p % (2 * P) + P) (q := p / (2 * P)) (by omega)).2 ⟨by omega, by omega, by omega⟩).1
theorem ref_mul (a b s : Int) (hs0 : -9223372036854775808 ≤ s) (hs1 : s ≤ 9223372036854775807) : Ev (fun k => madrigalref1_Mul.f k a b s) (mul a b s) := by
  have hp := fac_prod a b
  refine Ev.congr (fun k => by rw [madrigalref1_Mul.f]) (Ev.bind (ref_clamp a _ _) (Ev.bind (ref_clamp b _ _) ?_))
  have e : clamp a (-2147483648) 2147483648 * clamp b (-2147483648) 2147483648 = fac a * fac b := rfl
  rw [e, w64 (x := fac a * fac b) (by omega) (by omega)]
  have hno : ∀ t, t = true → Ev (fun k => madrigalref1_Mul.j0 k s (fac a * fac b) t) 0 := by
    intro t ht
    refine Ev.step (fun k => by rw [madrigalref1_Mul.j0]) ?_
    exact evPos ht (Ev.now _)
  unfold mul
  by_cases h1 : s < 0
  · rw [if_neg (show ¬ s = 0 by omega), if_pos h1]
    exact evPos h1 (hno _ rfl)
  · refine evNeg h1 ?_
    by_cases h2 : s > 62
    · rw [if_neg (show ¬ s = 0 by omega), if_neg h1, if_pos h2]
      exact hno _ (decide_eq_true h2)
    · rw [decide_eq_false h2]
      refine Ev.step (fun k => by rw [madrigalref1_Mul.j0]) ?_
      refine evNeg (by simp) (evIte (fun h3 => ?_) (fun h3 => ?_))
      · rw [if_pos h3]; exact Ev.now _
      · rw [if_neg h3, if_neg h1, if_neg h2, w64 (x := s - 1) (by omega) (by omega), uw64 (x := s - 1) (by omega) (by omega), uw64 (x := s) (by omega) (by omega), shl1_64 (by omega) (by omega), shr_64 (by omega)]
        have hs2 : s.toNat = (s - 1).toNat + 1 := by omega
        have e2 : (2 : Int) ^ s.toNat = 2 * 2 ^ (s - 1).toNat := by rw [hs2, pow_next]
        have hq := pow_61 (n := (s - 1).toNat) (by omega)
        have hr := round_two (fac a * fac b) (2 ^ (s - 1).toNat) hq.1
        have hmod := Int.emod_nonneg (fac a * fac b) (show 2 * 2 ^ (s - 1).toNat ≠ 0 by omega)
        have hlt := Int.emod_lt_of_pos (fac a * fac b) (show 0 < 2 * 2 ^ (s - 1).toNat by omega)
        have hd := Int.mul_ediv_add_emod (fac a * fac b) (2 * 2 ^ (s - 1).toNat)
        rw [Int.mul_comm] at hd
        have hq1 : -4611686018427387904 ≤ fac a * fac b / (2 * 2 ^ (s - 1).toNat) ∧ fac a * fac b / (2 * 2 ^ (s - 1).toNat) ≤ 4611686018427387904 := by
          have h := Int.natAbs_ediv_le_natAbs (fac a * fac b) (2 * 2 ^ (s - 1).toNat)
          omega
        rw [shl_64 (by omega) (by rw [e2]; omega) (by rw [e2]; omega), e2, w64 (x := fac a * fac b - _) (by omega) (by omega), w64 (x := _ + 1) (by omega) (by omega), hr]
        refine evPos (by omega) (evPos (by omega) (evIte (fun h4 => ?_) (fun h4 => ?_)))
        · rw [if_pos (by omega)]; exact Ev.now _
        · rw [if_neg (by omega)]; exact Ev.now _
end Go.Proofs.Ytllglpcpjeggcaa.Q
namespace Go.Proofs.Ytllglpcpjeggcaa.Q
open Go.RowKit Go.Proofs.Ytllglpcpjeggcaa.P Go.Proofs.YtllglpcpjeggcaaW.PrintWords Go.Proofs.YtllglpcpjeggcaaW.PrintLast Go.Proofs.YtllglpcpjeggcaaW.PrintMore
open Go.Proofs.Ytllglpcpjeggcaa.M
set_option linter.unusedVariables false
theorem ref_clamped_l0 (lo hi : Int) (n : Nat) : ∀ (S A R : List Int) (i : Int), S.length = n → i = A.length → R.length = A.length → A.length + S.length ≤ 1000000 →
    Ev (fun k => madrigalref6_clamped.l0 k (A ++ S) lo hi R i) (R ++ S.map fun v => clamp v lo hi) := by
  induction n with
  | zero =>
    intro S A R i hn hi hr hb
    have e1 : S = [] := List.eq_nil_of_length_eq_zero hn
    subst e1
    refine Ev.step (fun k => by rw [madrigalref6_clamped.l0]) ?_
    refine evNeg (by simp; omega) ?_
    simpa using Ev.now R
  | succ n ih =>
    intro S A R i hn hii hr hb
    cases S with
    | nil => simp at hn
    | cons s S =>
      simp at hn hb
      refine Ev.step (fun k => by rw [madrigalref6_clamped.l0]) ?_
      refine evPos (by simp; omega) (evPos (by omega) ?_)
      rw [rd_mid A s S i hii]
      refine Ev.bind (ref_clamp s lo hi) (evPos (by omega) ?_)
      rw [w64 (x := i + 1) (by omega) (by omega)]
      have h := ih S (A ++ [s]) (R ++ [clamp s lo hi]) (i + 1) (by omega) (by simp; omega) (by simp; omega) (by simp; omega)
      simpa using h
theorem ref_clamped (l : List Int) (lo hi : Int) (h : l.length ≤ 1000000) : Ev (fun k => madrigalref6_clamped.f k l lo hi) (l.map fun v => clamp v lo hi) := by
  refine Ev.congr (fun k => by rw [madrigalref6_clamped.f]) ?_
  have := ref_clamped_l0 lo hi l.length l [] [] 0 rfl rfl rfl (by simpa using h)
  simpa using this
end Go.Proofs.Ytllglpcpjeggcaa.Q
namespace Go.Proofs.Ytllglpcpjeggcaa.Q
open Go.RowKit Go.Proofs.Ytllglpcpjeggcaa.P Go.Proofs.YtllglpcpjeggcaaW.PrintWords Go.Proofs.YtllglpcpjeggcaaW.PrintLast Go.Proofs.YtllglpcpjeggcaaW.PrintMore
open Go.Proofs.Ytllglpcpjeggcaa.M
set_option linter.unusedVariables false
theorem rrest_l1 (a P X out : List Int) (n : Int) (hn : n = P.length) (hP : P.length ≤ 1000000) (ha : a.length ≤ 32) (ho : out.length ≤ 1000000) {r : List Int} (d : Nat) : ∀ (j : Nat) (v : Int), j + d = a.length → -1125899906842625 * (100 + j) ≤ v ∧ v ≤ 1125899906842625 * (100 + j) →
    Ev (fun k => madrigalref6_Rest.l0 k (P ++ X) a (out ++ [v - tsum (a.drop j) (P.reverse.drop j)]) (wrap64 (n + 1))) r →
    Ev (fun k => madrigalref6_Rest.l1 k (P ++ X) a out n v j) r := by
  induction d with
  | zero =>
    intro j v hj hv h
    refine Ev.step (fun k => by rw [madrigalref6_Rest.l1]) ?_
    refine evNeg (by omega) (evPos (by omega) ?_)
    have e : a.drop j = [] := List.drop_eq_nil_of_le (by omega)
    rw [e, tsum_nil, Int.sub_zero] at h
    exact h
  | succ d ih =>
    intro j v hj hv h
    refine Ev.step (fun k => by rw [madrigalref6_Rest.l1]) ?_
    rw [w64 (x := n - 1) (by omega) (by omega), w64 (x := n - 1 - j) (by omega) (by omega), w64 (x := (j : Int) + 1) (by omega) (by omega)]
    refine evPos (by omega) ?_
    have hja : j < a.length := by omega
    have e0 : rd a (j : Int) = a[j] := rd_at hja
    have ea : a.drop j = a[j] :: a.drop (j + 1) := List.drop_eq_getElem_cons hja
    refine evIte (fun hc => ?_) (fun hc => ?_)
    · have hjn : j < P.length := by omega
      refine evPos (by omega) (evPos (by omega) (evPos (by simp; omega) ?_))
      have e1 : rd (P ++ X) (n - 1 - j) = P.reverse[j]'(by simp; omega) := by
        rw [rd_in (by omega) (by simp; omega), List.getElem_append_left (by omega), List.getElem_reverse]
        congr 1; omega
      have hb := mul12_bounds (rd a j) (rd (P ++ X) (n - 1 - j))
      refine Ev.bind (ref_mul _ _ 12 (by omega) (by omega)) ?_
      rw [w64 (x := v - _) (by omega) (by omega)]
      have ep : P.reverse.drop j = P.reverse[j]'(by simp; omega) :: P.reverse.drop (j + 1) := List.drop_eq_getElem_cons (by simp; omega)
      rw [ea, ep] at h
      have et : v - tsum (a[j] :: a.drop (j + 1)) (P.reverse[j]'(by simp; omega) :: P.reverse.drop (j + 1)) = v - mul (rd a j) (rd (P ++ X) (n - 1 - j)) 12 - tsum (a.drop (j + 1)) (P.reverse.drop (j + 1)) := by
        rw [e0, e1]; simp only [tsum]; omega
      rw [et] at h
      exact ih (j + 1) _ (by omega) (by simp; omega) h
    · refine evPos (by omega) ?_
      have ep : P.reverse.drop j = [] := List.drop_eq_nil_of_le (by simp; omega)
      rw [ep, tsum_nil', Int.sub_zero] at h
      exact h
theorem rrest_l0 (a : List Int) (ha : a.length ≤ 32) (n : Nat) : ∀ (X P D : List Int) (i : Int), X.length = n → Within 32768 X → D.length = P.length → i = P.length → P.length + X.length ≤ 1000000 →
    Ev (fun k => madrigalref6_Rest.l0 k (P ++ X) a D i) (D ++ restL a P.reverse X) := by
  induction n with
  | zero =>
    intro X P D i hn hw hd hi hl
    have e1 : X = [] := List.eq_nil_of_length_eq_zero hn
    subst e1
    simp at hl
    refine Ev.step (fun k => by rw [madrigalref6_Rest.l0]) ?_
    refine evNeg (by simp; omega) ?_
    simpa [restL] using Ev.now D
  | succ n ih =>
    intro X P D i hn hw hd hi hl
    cases X with
    | nil => simp at hn
    | cons v X =>
      simp at hn hl
      have hv := hw v (by simp)
      refine Ev.step (fun k => by rw [madrigalref6_Rest.l0]) ?_
      refine evPos (by simp; omega) (evPos (by omega) ?_)
      rw [rd_mid P v X i hi]
      refine rrest_l1 a P (v :: X) D i hi (by omega) ha (by omega) a.length 0 v (by omega) (by omega) ?_
      rw [w64 (x := i + 1) (by omega) (by omega)]
      have h := ih X (P ++ [v]) (D ++ [v - tsum a P.reverse]) (i + 1) (by omega) (fun x hx => hw x (by simp [hx])) (by simp; omega) (by simp; omega) (by simp; omega)
      simpa [restL] using h
theorem ref_rest (x a : List Int) (hx : x.length ≤ 960) (ha : a.length ≤ 32) : Ev (fun k => madrigalref6_Rest.f k x a) (restL (held12 a) [] (x.map sat)) := by
  refine Ev.congr (fun k => by rw [madrigalref6_Rest.f]) (Ev.bind (ref_clamped x _ _ (by omega)) (Ev.bind (ref_clamped a _ _ (by omega)) ?_))
  have h := rrest_l0 (held12 a) (by simp [held12]; omega) (x.map sat).length (x.map sat) [] [] 0 rfl (within_sat x) rfl rfl (by simp; omega)
  exact h
theorem rpower_l0 (n : Nat) : ∀ (S A : List Int) (s i : Int), S.length = n → i = A.length → 0 ≤ s ∧ s ≤ 1099511627776 * i → A.length ≤ 960 → A.length + S.length ≤ 1000000 →
    Ev (fun k => madrigalref6_Power.l0 k (A ++ S) s i) (s + powL (S.take (960 - A.length))) := by
  induction n with
  | zero =>
    intro S A s i hn hi hs hA hl
    have e1 : S = [] := List.eq_nil_of_length_eq_zero hn
    subst e1
    refine Ev.step (fun k => by rw [madrigalref6_Power.l0]) ?_
    exact evNeg (by simp; omega) (evConst (by simp [powL]))
  | succ n ih =>
    intro S A s i hn hi hs hA hl
    cases S with
    | nil => simp at hn
    | cons v S =>
      simp at hn hl
      have hsq := cl20_sq v
      refine Ev.step (fun k => by rw [madrigalref6_Power.l0]) ?_
      refine evPos (by simp; omega) (evIte (fun h => ?_) (fun h => ?_))
      · refine evPos (by omega) ?_
        rw [rd_mid _ _ _ _ hi, w64 (x := i + 1) (by omega) (by omega)]
        refine Ev.bind (ref_clamp _ _ _) ?_
        have e : clamp v (-1048576) 1048576 = cl20 v := rfl
        rw [e, w64 (x := cl20 v * cl20 v) (by omega) (by omega), w64 (x := s + _) (by omega) (by omega)]
        have h := ih S (A ++ [v]) (s + cl20 v * cl20 v) (i + 1) (by omega) (by simp; omega) (by omega) (by simp; omega) (by simp; omega)
        refine evEq (by simpa using h) ?_
        have et : 960 - A.length = (959 - A.length) + 1 := by omega
        rw [et, List.take_succ_cons]
        simp only [powL]; omega
      · have et : 960 - A.length = 0 := by omega
        rw [et]
        exact evConst (by simp [powL])
theorem ref_power (l : List Int) (hl : l.length ≤ 1000000) : Ev (fun k => madrigalref6_Power.f k l) (powL (l.take 960)) := by
  refine Ev.congr (fun k => by rw [madrigalref6_Power.f]) ?_
  have h := rpower_l0 l.length l [] 0 0 rfl rfl (by omega) (by simp) (by simpa using hl)
  simpa using h
end Go.Proofs.Ytllglpcpjeggcaa.Q
namespace Go.Proofs.Ytllglpcpjeggcaa.Q
open Go.RowKit Go.Proofs.Ytllglpcpjeggcaa.P Go.Proofs.YtllglpcpjeggcaaW.PrintWords Go.Proofs.YtllglpcpjeggcaaW.PrintLast Go.Proofs.YtllglpcpjeggcaaW.PrintMore
set_option linter.unusedVariables false
theorem awake12 : Ev (fun k => madrigallaw12_awake.f k) true := Ev.of madrigallaw12_awake.mono (k := 2000) (by kernel_rfl)
end Go.Proofs.Ytllglpcpjeggcaa.Q
namespace Go.Proofs.Ytllglpcpjeggcaa.Pure
open Go.RowKit Go.Proofs.Ytllglpcpjeggcaa.P Go.Proofs.YtllglpcpjeggcaaW.PrintWords Go.Proofs.YtllglpcpjeggcaaW.PrintLast Go.Proofs.YtllglpcpjeggcaaW.PrintMore
open Go.Proofs.Ytllglpcpjeggcaa.M Go.Proofs.Ytllglpcpjeggcaa.Q
set_option linter.unusedVariables false
def prog (o : Int) (i : Nat) : Option (List Int) := (lsf_Decode.f 300 o (i : Int) (List.replicate o.toNat 0)).bind fun t => (lpc_From.f 300 t.1).bind fun u => some u.1
def doc (o : Int) (i : Nat) : Option (List Int) := (madrigalref6_Decode.f 300 o (i : Int) (List.replicate o.toNat 0)).bind fun t => madrigalref6_From.f 300 t
def good (o : Int) (i : Nat) : Bool := match prog o i, doc o i with
  | some a, some b => decide (a = b) && decide (a.length ≤ 32)
  | _, _ => false
theorem book10a : ((List.range 8).all fun i => good 10 i) = true := by kernel_rfl
theorem book10b : ((List.range 8).all fun i => good 10 (8 + i)) = true := by kernel_rfl
theorem book16a : ((List.range 8).all fun i => good 16 i) = true := by kernel_rfl
theorem book16b : ((List.range 8).all fun i => good 16 (8 + i)) = true := by kernel_rfl
theorem book (o : Int) (ho : o = 10 ∨ o = 16) (i : Nat) (hi : i < 16) : ∃ a : List Int, prog o i = some a ∧ doc o i = some a ∧ a.length ≤ 32 := by
  have h : good o i = true := by
    rcases Nat.lt_or_ge i 8 with h | h
    · rcases ho with rfl | rfl
      · exact List.all_eq_true.1 book10a i (List.mem_range.2 h)
      · exact List.all_eq_true.1 book16a i (List.mem_range.2 h)
    · obtain ⟨j, rfl⟩ : ∃ j, i = 8 + j := ⟨i - 8, by omega⟩
      rcases ho with rfl | rfl
      · exact List.all_eq_true.1 book10b j (List.mem_range.2 (by omega))
      · exact List.all_eq_true.1 book16b j (List.mem_range.2 (by omega))
  unfold good at h
  cases hp : prog o i with
  | none => rw [hp] at h; simp at h
  | some a =>
    cases hd : doc o i with
    | none => rw [hp, hd] at h; simp at h
    | some b =>
      rw [hp, hd] at h
      simp at h
      obtain ⟨rfl, h2⟩ := h
      exact ⟨a, rfl, rfl, h2⟩
def pick (x : List Int) (o : Int) (F : Nat → List Int) : Nat → Nat → Int → Int → Int
  | 0, _, best, _ => best
  | n + 1, i, best, least =>
    if least < 0 ∨ powL ((restL (held12 (F i)) [] (x.map sat)).take 960) < least then pick x o F n (i + 1) i (powL ((restL (held12 (F i)) [] (x.map sat)).take 960)) else pick x o F n (i + 1) best least
theorem best_l0 (x : List Int) (o : Int) (ho : o = 10 ∨ o = 16) (hx : x.length ≤ 200) (F : Nat → List Int) (hF : ∀ i, i < 16 → prog o i = some (F i) ∧ (F i).length ≤ 32) (n : Nat) : ∀ (i : Nat) (best least : Int), i + n = 16 →
    Ev (fun k => levin_Best.l0 k x o best least (i : Int)) (pick x o F n i best least, 0) := by
  induction n with
  | zero =>
    intro i best least hi
    refine Ev.step (fun k => by rw [levin_Best.l0]) ?_
    exact evNeg (by omega) (Ev.now _)
  | succ n ih =>
    intro i best least hi
    obtain ⟨hp, hl⟩ := hF i (by omega)
    unfold prog at hp
    obtain ⟨t, h1, h2⟩ := Option.bind_eq_some_iff.mp hp
    obtain ⟨u, h3, h4⟩ := Option.bind_eq_some_iff.mp h2
    have hu : u.1 = F i := Option.some.inj h4
    refine Ev.step (fun k => by rw [levin_Best.l0]) ?_
    rw [w64 (x := (i : Int) + 1) (by omega) (by omega)]
    refine evPos (by omega) (evPos (by omega) (evPos (by omega) (Ev.bind (Ev.of (lsf_Decode.mono _ _ _) h1) (Ev.bind (Ev.of (lpc_From.mono _) h3) ?_))))
    rw [hu]
    refine Ev.bind (levin_rest x (F i) (by omega) hl) (Ev.bind (levin_power (restL (held12 (F i)) [] (x.map sat))) ?_)
    unfold pick
    have e : ((i : Int) + 1) = ((i + 1 : Nat) : Int) := by omega
    rw [e]
    refine evIte (fun h => ?_) (fun h => evIte (fun h5 => ?_) (fun h5 => ?_))
    · rw [if_pos (.inl h)]; exact ih (i + 1) _ _ (by omega)
    · rw [if_pos (.inr h5)]; exact ih (i + 1) _ _ (by omega)
    · rw [if_neg (by omega)]; exact ih (i + 1) _ _ (by omega)
theorem found_l0 (x : List Int) (o : Int) (ho : o = 10 ∨ o = 16) (hx : x.length ≤ 200) (F : Nat → List Int) (hF : ∀ i, i < 16 → doc o i = some (F i) ∧ (F i).length ≤ 32) (n : Nat) : ∀ (i : Nat) (best least : Int), i + n = 16 →
    Ev (fun k => madrigalref6_Found.l0 k x o best least (i : Int)) (pick x o F n i best least) := by
  induction n with
  | zero =>
    intro i best least hi
    refine Ev.step (fun k => by rw [madrigalref6_Found.l0]) ?_
    exact evNeg (by omega) (Ev.now _)
  | succ n ih =>
    intro i best least hi
    obtain ⟨hp, hl⟩ := hF i (by omega)
    unfold doc at hp
    obtain ⟨t, h1, h2⟩ := Option.bind_eq_some_iff.mp hp
    refine Ev.step (fun k => by rw [madrigalref6_Found.l0]) ?_
    rw [w64 (x := (i : Int) + 1) (by omega) (by omega)]
    refine evPos (by omega) (evPos (by omega) (evPos (by omega) (Ev.bind (Ev.of (madrigalref6_Decode.mono _ _ _) h1) (Ev.bind (Ev.of (madrigalref6_From.mono _) h2) ?_))))
    have hrl : (restL (held12 (F i)) [] (x.map sat)).length = x.length := by rw [restL_length]; simp
    refine Ev.bind (ref_rest x (F i) (by omega) hl) (Ev.bind (ref_power _ (by omega)) ?_)
    unfold pick
    have e : ((i : Int) + 1) = ((i + 1 : Nat) : Int) := by omega
    rw [e]
    refine evIte (fun h => ?_) (fun h => evIte (fun h5 => ?_) (fun h5 => ?_))
    · rw [if_pos (.inl h)]; exact ih (i + 1) _ _ (by omega)
    · rw [if_pos (.inr h5)]; exact ih (i + 1) _ _ (by omega)
    · rw [if_neg (by omega)]; exact ih (i + 1) _ _ (by omega)
theorem best_both (x : List Int) (o : Int) (ho : o = 10 ∨ o = 16) (hx : x.length ≤ 200) : ∃ b : Int, Ev (fun k => levin_Best.f k x o) (b, 0) ∧ Ev (fun k => madrigalref6_Found.f k x o) b := by
  have hF : ∀ i, i < 16 → prog o i = some ((prog o i).getD []) ∧ doc o i = some ((prog o i).getD []) ∧ ((prog o i).getD []).length ≤ 32 := by
    intro i hi
    obtain ⟨a, h1, h2, h3⟩ := book o ho i hi
    rw [h1, h2]
    exact ⟨rfl, rfl, h3⟩
  refine ⟨pick x o (fun i => (prog o i).getD []) 16 0 0 (-1), ?_, ?_⟩
  · have hj : Ev (fun k => levin_Best.j0 k x o (decide ((x.length : Int) > 960))) (pick x o (fun i => (prog o i).getD []) 16 0 0 (-1), 0) := by
      rw [decide_eq_false (by omega)]
      refine Ev.step (fun k => by rw [levin_Best.j0]) ?_
      exact evNeg (by simp) (best_l0 x o ho hx _ (fun i hi => ⟨(hF i hi).1, (hF i hi).2.2⟩) 16 0 0 (-1) rfl)
    refine Ev.congr (fun k => by rw [levin_Best.f]) ?_
    exact evIte (fun _ => hj) (fun h1 => evIte (fun _ => hj) (fun h2 => absurd ho (by omega)))
  · refine Ev.congr (fun k => by rw [madrigalref6_Found.f]) ?_
    exact found_l0 x o ho hx _ (fun i hi => ⟨(hF i hi).2.1, (hF i hi).2.2⟩) 16 0 0 (-1) rfl
theorem LevinBest : madrigallaw12_LevinBest.Pure := by
  intro x o _ _ _ _
  refine Ev.rounds (Ev.congr (fun k => by rw [madrigallaw12_LevinBest.f]) (Ev.bind awake12 (evPos rfl ?_)))
  refine evIte (fun _ => Ev.now _) (fun hx => Ev.bind (Ev.now _) (evPos (by simp; omega) ?_))
  rw [List.nil_append]
  by_cases ho : o = 10 ∨ o = 16
  · obtain ⟨b, h1, h2⟩ := best_both x o ho (by omega)
    have hfin : Ev (fun k => (madrigalref6_Found.f k x o).bind fun t => some (b == t)) true := Ev.bind h2 (evConst (by simp))
    refine Ev.bind h1 (evIte (fun _ => evPos rfl hfin) (fun h3 => evIte (fun _ => evPos rfl hfin) (fun h4 => absurd ho (by omega))))
  · have hb : Ev (fun k => levin_Best.f k x o) (0, 1) := by
      refine Ev.congr (fun k => by rw [levin_Best.f]) (evNeg (by omega) (evNeg (by omega) ?_))
      refine Ev.step (fun k => by rw [levin_Best.j0]) ?_
      exact evPos rfl (Ev.now _)
    exact Ev.bind hb (evNeg (by omega) (evNeg (by omega) (evPos rfl (evConst rfl))))
end Go.Proofs.Ytllglpcpjeggcaa.Pure
