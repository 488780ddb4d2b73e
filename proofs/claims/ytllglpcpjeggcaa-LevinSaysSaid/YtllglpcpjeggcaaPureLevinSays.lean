/- What a sound is like, the filter that foretells it, what is left, are what the document says: for all numbers, without conditions. -/
import Derived.Test.YtllglpcpjeggcaaPx39
import Derived.Test.YtllglpcpjeggcaaV0
import Derived.Test.YtllglpcpjeggcaaPx1
import Derived.Test.YtllglpcpjeggcaaPx5
import Derived.Test.YtllglpcpjeggcaaPx6
import Derived.Test.YtllglpcpjeggcaaPx2
import Derived.Test.YtllglpcpjeggcaaPx3
import Derived.Test.YtllglpcpjeggcaaPx11
import Derived.Test.YtllglpcpjeggcaaPx12
import Derived.Test.YtllglpcpjeggcaaPx7
import Derived.Test.YtllglpcpjeggcaaPx8
import Derived.Test.YtllglpcpjeggcaaPx9
import Derived.KernelRfl
import Derived.Test.YtllglpcpjeggcaaPx4
import Derived.Test.YtllglpcpjeggcaaPx10
import Derived.Test.YtllglpcpjeggcaaPx27
import Derived.Test.YtllglpcpjeggcaaPx31
import Derived.Test.YtllglpcpjeggcaaPx30
import Derived.Test.YtllglpcpjeggcaaPx32
import Derived.Test.YtllglpcpjeggcaaPx28
import Derived.Test.YtllglpcpjeggcaaPx33
import Derived.Test.YtllglpcpjeggcaaPx34
import Derived.Test.YtllglpcpjeggcaaPx35
import Derived.Test.YtllglpcpjeggcaaPx36
import Derived.Test.YtllglpcpjeggcaaPx29
import Derived.Test.YtllglpcpjeggcaaPx37
import Derived.Test.YtllglpcpjeggcaaPx38
import Derived.Test.YtllglpcpjeggcaaPx24
import Derived.Test.YtllglpcpjeggcaaPx25
namespace Go.Proofs.Ytllglpcpjeggcaa.Q
open Go.RowKit Go.Proofs.YtllglpcpjeggcaaW.PrintWords Go.Proofs.YtllglpcpjeggcaaW.PrintLast Go.Proofs.YtllglpcpjeggcaaW.PrintMore
set_option linter.unusedVariables false
theorem evPos {α : Type} {c : Prop} [Decidable c] {A B : Nat → Option α} {r : α} (h : c) (hA : Ev A r) : Ev (fun k => if c then A k else B k) r := by
  obtain ⟨K, hA⟩ := hA
  exact ⟨K, fun k hk => by simp only [if_pos h]; exact hA k hk⟩
theorem evNeg {α : Type} {c : Prop} [Decidable c] {A B : Nat → Option α} {r : α} (h : ¬ c) (hB : Ev B r) : Ev (fun k => if c then A k else B k) r := by
  obtain ⟨K, hB⟩ := hB
  exact ⟨K, fun k hk => by simp only [if_neg h]; exact hB k hk⟩
theorem evIte {α : Type} {c : Prop} [Decidable c] {A B : Nat → Option α} {r : α} (hA : c → Ev A r) (hB : ¬ c → Ev B r) : Ev (fun k => if c then A k else B k) r := by
  by_cases h : c
  · exact evPos h (hA h)
  · exact evNeg h (hB h)
theorem evConst {α : Type} {r : α} {o : Option α} (h : o = some r) : Ev (fun _ => o) r := ⟨0, fun _ _ => h⟩
theorem evEq {α : Type} {g : Nat → Option α} {r r' : α} (h : Ev g r) (e : r = r') : Ev g r' := e ▸ h
theorem w64 {x : Int} (h1 : -9223372036854775808 ≤ x) (h2 : x ≤ 9223372036854775807) : wrap64 x = x := by
  unfold wrap64; omega
theorem rd_mid (A : List Int) (c : Int) (B : List Int) (i : Int) (h : i = A.length) : rd (A ++ c :: B) i = c := by
  subst h
  unfold rd
  rw [List.getD_eq_getElem?_getD, Int.toNat_natCast, List.getElem?_append_right (Nat.le_refl _)]
  simp
theorem set_mid (A : List Int) (c : Int) (B : List Int) (v i : Int) (h : i = A.length) : (A ++ c :: B).set i.toNat v = A ++ v :: B := by
  subst h
  rw [Int.toNat_natCast, List.set_append_right _ _ (Nat.le_refl _)]
  simp
theorem rd_at {l : List Int} {i : Nat} (h : i < l.length) : rd l (i : Int) = l[i] := by
  unfold rd
  rw [List.getD_eq_getElem?_getD, Int.toNat_natCast, List.getElem?_eq_getElem h]
  rfl
theorem rd_in {l : List Int} {i : Int} (h0 : 0 ≤ i) (h : i.toNat < l.length) : rd l i = l[i.toNat] := by
  unfold rd
  rw [List.getD_eq_getElem?_getD, List.getElem?_eq_getElem h]
  rfl
end Go.Proofs.Ytllglpcpjeggcaa.Q
namespace Go.Proofs.Ytllglpcpjeggcaa.M
set_option linter.unusedVariables false
def clamp (a lo hi : Int) : Int := if lo > hi ∨ a < lo then lo else if a > hi then hi else a
theorem clamp_bounds {a lo hi : Int} (h : lo ≤ hi) : lo ≤ clamp a lo hi ∧ clamp a lo hi ≤ hi := by
  unfold clamp; repeat' split
  all_goals omega
theorem clamp_id {a lo hi : Int} (h1 : lo ≤ a) (h2 : a ≤ hi) : clamp a lo hi = a := by
  unfold clamp; repeat' split
  all_goals omega
def sat (a : Int) : Int := clamp a (-32768) 32767
theorem sat_bounds (a : Int) : -32768 ≤ sat a ∧ sat a ≤ 32767 := clamp_bounds (by omega)
end Go.Proofs.Ytllglpcpjeggcaa.M
namespace Go.Proofs.Ytllglpcpjeggcaa.Q
open Go.RowKit Go.Proofs.Ytllglpcpjeggcaa.P Go.Proofs.YtllglpcpjeggcaaW.PrintWords Go.Proofs.YtllglpcpjeggcaaW.PrintLast Go.Proofs.YtllglpcpjeggcaaW.PrintMore
open Go.Proofs.Ytllglpcpjeggcaa.M
set_option linter.unusedVariables false
theorem fix_clamp (a lo hi : Int) : Ev (fun k => fix_Clamp.f k a lo hi) (clamp a lo hi) := by
  have hj : ∀ b, Ev (fun k => fix_Clamp.j0 k a lo hi b) (if b = true then lo else if a > hi then hi else a) := by
    intro b
    refine Ev.step (fun k => by rw [fix_Clamp.j0]) ?_
    refine evConst ?_
    cases b <;> simp <;> split <;> rfl
  refine Ev.congr (fun k => by rw [fix_Clamp.f]) ?_
  refine evIte (fun h => ?_) (fun h => ?_)
  · exact evEq (hj true) (by unfold clamp; simp [h])
  · exact evEq (hj _) (by unfold clamp; simp [h])
end Go.Proofs.Ytllglpcpjeggcaa.Q
namespace Go.Proofs.Ytllglpcpjeggcaa.M
set_option linter.unusedVariables false
def fac (a : Int) : Int := clamp a (-2147483648) 2147483648
theorem fac_bounds (a : Int) : -2147483648 ≤ fac a ∧ fac a ≤ 2147483648 := clamp_bounds (by omega)
theorem fac_id {a : Int} (h1 : -2147483648 ≤ a) (h2 : a ≤ 2147483648) : fac a = a := clamp_id h1 h2
def mul (a b s : Int) : Int := if s = 0 then fac a * fac b else if s < 0 then 0 else if s > 62 then 0 else (fac a * fac b + 2 ^ (s - 1).toNat) / 2 ^ s.toNat
theorem prod_le {x y : Int} {a b : Nat} (hx : x.natAbs ≤ a) (hy : y.natAbs ≤ b) : -((a * b : Nat) : Int) ≤ x * y ∧ x * y ≤ ((a * b : Nat) : Int) := by
  have h : (x * y).natAbs ≤ a * b := by rw [Int.natAbs_mul]; exact Nat.mul_le_mul hx hy
  omega
theorem fac_prod (a b : Int) : -4611686018427387904 ≤ fac a * fac b ∧ fac a * fac b ≤ 4611686018427387904 := by
  have h1 := fac_bounds a
  have h2 := fac_bounds b
  have h := prod_le (x := fac a) (y := fac b) (a := 2147483648) (b := 2147483648) (by omega) (by omega)
  omega
theorem pow_most {n m : Nat} (h : n ≤ m) : (2 : Int) ^ n ≤ 2 ^ m := by
  have hn : (2 : Nat) ^ n ≤ 2 ^ m := Nat.pow_le_pow_right (by omega) h
  exact_mod_cast hn
theorem pow_61 {n : Nat} (h : n ≤ 61) : (1 : Int) ≤ 2 ^ n ∧ (2 : Int) ^ n ≤ 2305843009213693952 :=
  ⟨by have h1 : (0 : Int) < 2 ^ n := Int.pow_pos (by omega)
      omega, by have := pow_most h; simpa using this⟩
theorem pow_next (n : Nat) : (2 : Int) ^ (n + 1) = 2 * 2 ^ n := by rw [Int.pow_succ]; omega
end Go.Proofs.Ytllglpcpjeggcaa.M
namespace Go.Proofs.Ytllglpcpjeggcaa.Q
open Go.RowKit Go.Proofs.Ytllglpcpjeggcaa.P Go.Proofs.YtllglpcpjeggcaaW.PrintWords Go.Proofs.YtllglpcpjeggcaaW.PrintLast Go.Proofs.YtllglpcpjeggcaaW.PrintMore
open Go.Proofs.Ytllglpcpjeggcaa.M
set_option linter.unusedVariables false
theorem fix_factor (a : Int) : Ev (fun k => fix_factor.f k a) (fac a) := by
  refine Ev.congr (fun k => by rw [fix_factor.f]) ?_
  exact Ev.bind (fix_clamp a _ _) (Ev.now _)
theorem shl1_64 {s : Int} (h0 : 0 ≤ s) (h1 : s ≤ 61) : shl .i64 1 s = 2 ^ s.toNat := by
  have hp := pow_61 (n := s.toNat) (by omega)
  unfold shl
  rw [show IntKind.i64.bits = 64 from rfl, Nat.min_eq_left (by omega), Int.one_mul, i64_w]
  exact w64 (by omega) (by omega)
theorem shr_64 {x s : Int} (h1 : s ≤ 64) : shr .i64 x s = x / 2 ^ s.toNat := by
  unfold shr
  rw [show IntKind.i64.bits = 64 from rfl, Nat.min_eq_left (by omega)]
theorem fix_mul (a b s : Int) (hs0 : -9223372036854775808 ≤ s) (hs1 : s ≤ 9223372036854775807) : Ev (fun k => fix_Mul.f k a b s) (mul a b s) := by
  have hp := fac_prod a b
  refine Ev.congr (fun k => by rw [fix_Mul.f]) (Ev.bind (fix_factor a) (Ev.bind (fix_factor b) ?_))
  unfold mul
  rw [w64 (x := fac a * fac b) (by omega) (by omega)]
  refine evIte (fun h => ?_) (fun h => ?_)
  · rw [if_pos h]; exact Ev.now _
  · rw [if_neg h]
    refine evIte (fun h2 => ?_) (fun h2 => ?_)
    · rw [if_pos h2]; exact Ev.now _
    · rw [if_neg h2]
      refine evIte (fun h3 => ?_) (fun h3 => ?_)
      · rw [if_pos h3]; exact Ev.now _
      · rw [if_neg h3, w64 (x := s - 1) (by omega) (by omega), shl1_64 (by omega) (by omega)]
        have hp2 := pow_61 (n := (s - 1).toNat) (by omega)
        rw [w64 (x := fac a * fac b + _) (by omega) (by omega), shr_64 (by omega)]
        exact evPos (by omega) (evPos (by omega) (Ev.now _))
end Go.Proofs.Ytllglpcpjeggcaa.Q
namespace Go.Proofs.Ytllglpcpjeggcaa.Q
open Go.RowKit Go.Proofs.Ytllglpcpjeggcaa.P Go.Proofs.YtllglpcpjeggcaaW.PrintWords Go.Proofs.YtllglpcpjeggcaaW.PrintLast Go.Proofs.YtllglpcpjeggcaaW.PrintMore
open Go.Proofs.Ytllglpcpjeggcaa.M
set_option linter.unusedVariables false
theorem shl_64 {x s : Int} (h1 : s ≤ 64) (a0 : -9223372036854775808 ≤ x * 2 ^ s.toNat) (a1 : x * 2 ^ s.toNat ≤ 9223372036854775807) : shl .i64 x s = x * 2 ^ s.toNat := by
  unfold shl
  rw [show IntKind.i64.bits = 64 from rfl, Nat.min_eq_left (by omega), i64_w]
  exact w64 a0 a1
theorem up_bounds {a s : Int} (ha : -2147483648 ≤ a ∧ a ≤ 2147483648) (h1 : s ≤ 30) : -2305843009213693952 ≤ a * 2 ^ s.toNat ∧ a * 2 ^ s.toNat ≤ 2305843009213693952 := by
  have hp : (2 : Int) ^ s.toNat ≤ 2 ^ 30 := pow_most (by omega)
  have hp0 : (0 : Int) < 2 ^ s.toNat := Int.pow_pos (by omega)
  have h := prod_le (x := a) (y := 2 ^ s.toNat) (a := 2147483648) (b := 1073741824) (by omega) (by omega)
  omega
theorem tdiv_down {n d : Int} (hd : 1 ≤ d) : (if Int.tmod n d = 0 then Int.tdiv n d else if n < 0 then Int.tdiv n d - 1 else Int.tdiv n d) = n / d := by
  have hm : Int.tmod n d = n - d * Int.tdiv n d := by have := Int.mul_tdiv_add_tmod n d; omega
  have hmod := Int.emod_nonneg n (show d ≠ 0 by omega)
  have hlt := Int.emod_lt_of_pos n (show 0 < d by omega)
  have he := Int.mul_ediv_add_emod n d
  have hbs : d.sign = 1 := Int.sign_eq_one_of_pos (by omega)
  have ht : Int.tdiv n d = if 0 ≤ n ∨ n % d = 0 then n / d else n / d + 1 := by
    rw [Int.tdiv_eq_ediv, hbs]
    by_cases h : 0 ≤ n
    · rw [if_pos (.inl h), if_pos (.inl h)]; omega
    · by_cases h2 : n % d = 0
      · rw [if_pos (.inr (Int.dvd_of_emod_eq_zero h2)), if_pos (.inr h2)]; omega
      · rw [if_neg, if_neg]
        · rintro (h3 | h3)
          · exact h h3
          · exact h2 h3
        · rintro (h3 | h3)
          · exact h h3
          · exact h2 (Int.emod_eq_zero_of_dvd h3)
  by_cases h : 0 ≤ n ∨ n % d = 0
  · rw [if_pos h] at ht
    rw [hm, ht]
    split
    · rfl
    · rw [if_neg (by omega)]
  · rw [if_neg h] at ht
    have hmul : d * (n / d + 1) = d * (n / d) + d := by rw [Int.mul_add]; omega
    rw [hm, ht, if_neg (by omega), if_pos (by omega)]
    omega
theorem fix_div_any (a b s : Int) (hb : 1 ≤ b ∧ b ≤ 2147483648) (hs : 0 ≤ s ∧ s ≤ 30) : Ev (fun k => fix_Div.f k a b s) (fac a * 2 ^ s.toNat / b) := by
  have ha := fac_bounds a
  refine Ev.congr (fun k => by rw [fix_Div.f]) ?_
  refine Ev.bind (fix_factor a) (Ev.bind (evEq (fix_factor b) (fac_id (by omega) hb.2)) ?_)
  refine evNeg (by omega) (evNeg (by omega) ?_)
  refine Ev.step (fun k => by rw [fix_Div.j0]) ?_
  have hu := up_bounds ha hs.2
  rw [shl_64 (by omega) (by omega) (by omega)]
  generalize fac a * 2 ^ s.toNat = n at hu ⊢
  refine evNeg (by simp; omega) (evPos (by omega) (evNeg (by omega) ?_))
  have hq := tdiv_down (n := n) hb.1
  have e := Int.natAbs_tdiv n b
  have hle : n.natAbs / b.natAbs ≤ n.natAbs := Nat.div_le_self _ _
  have e2 : (Int.tdiv n b).natAbs ≤ n.natAbs := by
    rw [e]; exact hle
  rw [w64 (x := Int.tdiv n b) (by omega) (by omega), w64 (x := Int.tdiv n b - 1) (by omega) (by omega)]
  rw [← hq]
  refine evIte (fun h => ?_) (fun h => ?_)
  · rw [if_pos h]; exact Ev.now _
  · rw [if_neg h]
    have hbn : decide (b < 0) = false := by simp; omega
    rw [hbn]
    by_cases hn : n < 0
    · rw [if_pos hn, decide_eq_true hn]; exact evPos (by rfl) (Ev.now _)
    · rw [if_neg hn, decide_eq_false hn]; exact evNeg (by simp) (Ev.now _)
end Go.Proofs.Ytllglpcpjeggcaa.Q
namespace Go.Proofs.Ytllglpcpjeggcaa.Q
open Go.RowKit Go.Proofs.Ytllglpcpjeggcaa.P Go.Proofs.YtllglpcpjeggcaaW.PrintWords Go.Proofs.YtllglpcpjeggcaaW.PrintLast Go.Proofs.YtllglpcpjeggcaaW.PrintMore
open Go.Proofs.Ytllglpcpjeggcaa.M
set_option linter.unusedVariables false
theorem fix_sat12 (a : Int) : Ev (fun k => fix_Sat16.f k a) (sat a) := by
  refine Ev.congr (fun k => by rw [fix_Sat16.f]) ?_
  exact Ev.bind (fix_clamp a (-32768) 32767) (Ev.now _)
def Within (b : Int) (l : List Int) : Prop := ∀ x ∈ l, -b ≤ x ∧ x ≤ b
theorem within_sat (l : List Int) : Within 32768 (l.map sat) := by
  intro x hx
  obtain ⟨v, _, rfl⟩ := List.mem_map.1 hx
  have := sat_bounds v
  omega
theorem sound_l0 (n : Nat) : ∀ (S A : List Int) (i m : Int), S.length = n → i = A.length → m = ((A.length + S.length : Nat) : Int) → A.length + S.length ≤ 1000000 →
    Ev (fun k => levin_sound.l0 k (A.map sat ++ List.replicate n 0) (A ++ S) m i) ((A ++ S).map sat) := by
  induction n with
  | zero =>
    intro S A i m hn hi hm hl
    have e1 : S = [] := List.eq_nil_of_length_eq_zero hn
    subst e1
    simp at hm hl
    refine Ev.step (fun k => by rw [levin_sound.l0]) ?_
    refine evNeg (by omega) ?_
    simpa using Ev.now (A.map sat)
  | succ n ih =>
    intro S A i m hn hi hm hl
    cases S with
    | nil => simp at hn
    | cons v S =>
      simp at hn hm hl
      refine Ev.step (fun k => by rw [levin_sound.l0]) ?_
      refine evPos (by omega) (evPos (by omega) (evPos (by simp; omega) ?_))
      rw [rd_mid A v S i hi, w64 (x := i + 1) (by omega) (by omega)]
      refine Ev.bind (fix_sat12 _) (evPos (by simp; omega) ?_)
      rw [List.replicate_succ, set_mid (A.map sat) 0 (List.replicate n 0) _ i (by simp; omega)]
      have h := ih S (A ++ [v]) (i + 1) m (by omega) (by simp; omega) (by simp; omega) (by simp; omega)
      simpa using h
theorem levin_sound' (l : List Int) (hl : l.length ≤ 1000000) : Ev (fun k => levin_sound.f k l) (l.map sat) := by
  refine Ev.congr (fun k => by rw [levin_sound.f]) ?_
  refine evPos (by omega) (evPos (by omega) ?_)
  have h := sound_l0 l.length l [] 0 l.length rfl rfl (by simp) (by simpa using hl)
  simpa using h
def dot : List Int → List Int → Int
  | a :: l, b :: m => a * b + dot l m
  | _, _ => 0
theorem dot_nil (m : List Int) : dot [] m = 0 := by cases m <;> rfl
theorem prod30 {a b : Int} (ha : -32768 ≤ a ∧ a ≤ 32768) (hb : -32768 ≤ b ∧ b ≤ 32768) : -1073741824 ≤ a * b ∧ a * b ≤ 1073741824 := by
  have := prod_le (x := a) (y := b) (a := 32768) (b := 32768) (by omega) (by omega)
  omega
theorem auto_l1 (x : List Int) (hx : Within 32768 x) (hl : x.length ≤ 1000000) (m : Int) {r : List Int × Int} (d : Nat) : ∀ (n : Nat) (A B : List Int) (s kk : Int) (km : Int), x.length - n = d → kk = A.length → A.length ≤ n → -1073741824 * n ≤ s ∧ s ≤ 1073741824 * n → n ≤ 1000100 →
    Ev (fun k => levin_Auto.l0 k x (A ++ (s + dot (x.drop n) (x.drop (n - A.length))) :: B) m (wrap64 (km + 1))) r →
    Ev (fun k => levin_Auto.l1 k x (A ++ s :: B) kk n m km) r := by
  induction d with
  | zero =>
    intro n A B s kk km hd hk hn hs hn2 h
    refine Ev.step (fun k => by rw [levin_Auto.l1]) ?_
    refine evNeg (by omega) ?_
    have e : x.drop n = [] := List.drop_eq_nil_of_le (by omega)
    rw [e, dot_nil, Int.add_zero] at h
    exact h
  | succ d ih =>
    intro n A B s kk km hd hk hn hs hn2 h
    have hn3 : n < x.length := by omega
    refine Ev.step (fun k => by rw [levin_Auto.l1]) ?_
    have b1 : rd x (n : Int) = x[n] := rd_at hn3
    have e3 : (n : Int) - kk = ((n - A.length : Nat) : Int) := by omega
    have b2 : rd x ((n : Int) - kk) = x[n - A.length] := by rw [e3]; exact rd_at (by omega)
    have hp := prod30 (hx _ (List.getElem_mem (n := n) (by omega))) (hx _ (List.getElem_mem (n := n - A.length) (by omega)))
    rw [w64 (x := (n : Int) - kk) (by omega) (by omega), w64 (x := (n : Int) + 1) (by omega) (by omega), rd_mid A s B kk hk, set_mid A s B _ kk hk, b1, b2]
    refine evPos (by omega) (evPos (by omega) (evPos (by simp; omega) (evPos (by omega) (evPos (by omega) (evPos (by omega) ?_)))))
    rw [w64 (x := x[n] * _) (by omega) (by omega), w64 (x := s + _) (by omega) (by omega)]
    have h3 := ih (n + 1) A B (s + x[n] * x[n - A.length]) kk km (by omega) hk (by omega) (by simp; omega) (by omega)
    have ed : dot (x.drop n) (x.drop (n - A.length)) = x[n] * x[n - A.length] + dot (x.drop (n + 1)) (x.drop (n + 1 - A.length)) := by
      rw [List.drop_eq_getElem_cons (i := n) (by omega), List.drop_eq_getElem_cons (i := n - A.length) (by omega), show n + 1 - A.length = n - A.length + 1 by omega]
      rfl
    rw [ed, ← Int.add_assoc] at h
    exact h3 h
def autoL (x : List Int) (m : Nat) : List Int := (List.range m).map fun k => dot (x.drop k) x
theorem auto_l0 (x : List Int) (hx : Within 32768 x) (hl : x.length ≤ 1000000) (M : Nat) (hM : M ≤ 100) (n : Nat) : ∀ (j : Nat) (m i : Int), j + n = M → m = M → i = j →
    Ev (fun k => levin_Auto.l0 k x (autoL x j ++ List.replicate n 0) m i) (autoL x M, 0) := by
  induction n with
  | zero =>
    intro j m i hj hm hi
    refine Ev.step (fun k => by rw [levin_Auto.l0]) ?_
    refine evNeg (by omega) ?_
    have e : j = M := by omega
    subst e
    simpa using Ev.now (autoL x j, (0 : Int))
  | succ n ih =>
    intro j m i hj hm hi
    refine Ev.step (fun k => by rw [levin_Auto.l0]) ?_
    refine evPos (by omega) ?_
    subst hi
    rw [List.replicate_succ]
    refine auto_l1 x hx hl m (x.length - j) j (autoL x j) _ 0 j j rfl (by simp [autoL]) (by simp [autoL]) (by omega) (by omega) ?_
    have h := ih (j + 1) m ((j + 1 : Nat) : Int) (by omega) hm rfl
    have e1 : autoL x (j + 1) = autoL x j ++ [dot (x.drop j) x] := by unfold autoL; rw [List.range_succ, List.map_append]; rfl
    rw [e1] at h
    have e2 : j - (autoL x j).length = 0 := by simp [autoL]
    rw [e2, List.drop_zero, Int.zero_add, w64 (x := (j : Int) + 1) (by omega) (by omega)]
    simpa using h
theorem levin_auto (l : List Int) (order : Int) (h1 : l.length ≤ 960) (h2 : 1 ≤ order) (h3 : order ≤ 32) : Ev (fun k => levin_Auto.f k l order) (autoL (l.map sat) (order.toNat + 1), 0) := by
  refine Ev.congr (fun k => by rw [levin_Auto.f]) ?_
  refine evNeg (by omega) (evNeg (by omega) ?_)
  rw [decide_eq_false (by omega)]
  refine Ev.step (fun k => by rw [levin_Auto.j0]) ?_
  refine evNeg (by simp) (Ev.bind (levin_sound' l (by omega)) ?_)
  rw [w64 (x := order + 1) (by omega) (by omega)]
  refine evPos (by omega) (evPos (by omega) (Ev.bind (Ev.now _) ?_))
  have e : (order + 1).toNat = order.toNat + 1 := by omega
  rw [e, List.length_replicate]
  have h := auto_l0 (l.map sat) (within_sat l) (by simp; omega) (order.toNat + 1) (by omega) (order.toNat + 1) 0 _ 0 (by omega) rfl rfl
  simpa [autoL] using h
theorem levin_auto_bad (l : List Int) (order : Int) (h : ¬ (l.length ≤ 960 ∧ 1 ≤ order ∧ order ≤ 32)) : Ev (fun k => levin_Auto.f k l order) ([], 1) := by
  have hj : ∀ b, b = true → Ev (fun k => levin_Auto.j0 k l order b) ([], 1) := by
    intro b hb
    refine Ev.step (fun k => by rw [levin_Auto.j0]) ?_
    exact evPos hb (Ev.now _)
  refine Ev.congr (fun k => by rw [levin_Auto.f]) ?_
  refine evIte (fun _ => hj _ rfl) (fun h1 => evIte (fun _ => hj _ rfl) (fun h2 => hj _ (decide_eq_true (by omega))))
def tsum : List Int → List Int → Int
  | a :: l, p :: q => mul a p 12 + tsum l q
  | _, _ => 0
theorem tsum_nil (m : List Int) : tsum [] m = 0 := by cases m <;> rfl
theorem tsum_nil' (m : List Int) : tsum m [] = 0 := by cases m <;> rfl
theorem mul12_bounds (a b : Int) : -1125899906842625 ≤ mul a b 12 ∧ mul a b 12 ≤ 1125899906842625 := by
  have h := fac_prod a b
  have e : mul a b 12 = (fac a * fac b + 2048) / 4096 := by unfold mul; rw [if_neg (by omega), if_neg (by omega), if_neg (by omega)]; rfl
  rw [e]; omega
def held12 (a : List Int) : List Int := a.map fun v => clamp v (-131072) 131072
def restL (a : List Int) : List Int → List Int → List Int
  | _, [] => []
  | past, v :: x => (v - tsum a past) :: restL a (v :: past) x
theorem restL_length (a : List Int) : ∀ (x past : List Int), (restL a past x).length = x.length
  | [], _ => rfl
  | v :: x, past => by simp [restL, restL_length a x (v :: past)]
theorem rest_l1 (a P X out : List Int) (m im : Int) (n : Int) (hn : n = P.length) (hP : P.length ≤ 1000000) (ha : a.length ≤ 32) (ho : n < out.length) {r : List Int × Int} (d : Nat) : ∀ (j : Nat) (v : Int), j + d = a.length → -1125899906842625 * (100 + j) ≤ v ∧ v ≤ 1125899906842625 * (100 + j) →
    Ev (fun k => levin_Rest.l0 k (P ++ X) a (out.set n.toNat (v - tsum ((held12 a).drop j) (P.reverse.drop j))) m (wrap64 (im + 1))) r →
    Ev (fun k => levin_Rest.l1 k (P ++ X) a out n v m im a (a.length : Int) j) r := by
  induction d with
  | zero =>
    intro j v hj hv h
    refine Ev.step (fun k => by rw [levin_Rest.l1]) ?_
    refine evNeg (by omega) (evPos (by omega) (evPos ho ?_))
    have e : (held12 a).drop j = [] := List.drop_eq_nil_of_le (by simp [held12]; omega)
    rw [e, tsum_nil, Int.sub_zero] at h
    exact h
  | succ d ih =>
    intro j v hj hv h
    refine Ev.step (fun k => by rw [levin_Rest.l1]) ?_
    rw [w64 (x := n - 1) (by omega) (by omega), w64 (x := n - 1 - j) (by omega) (by omega), w64 (x := (j : Int) + 1) (by omega) (by omega)]
    refine evPos (by omega) (evPos (by omega) (evPos (by omega) ?_))
    have hja : j < a.length := by omega
    have e0 : rd a (j : Int) = a[j] := rd_at hja
    have ea : (held12 a).drop j = clamp a[j] (-131072) 131072 :: (held12 a).drop (j + 1) := by
      rw [List.drop_eq_getElem_cons (i := j) (by simp [held12]; omega)]; simp [held12]
    refine evIte (fun hc => ?_) (fun hc => ?_)
    · have hjn : j < P.length := by omega
      refine Ev.bind (fix_clamp _ _ _) (evPos (by omega) (evPos (by simp; omega) ?_))
      have e1 : rd (P ++ X) (n - 1 - j) = P.reverse[j]'(by simp; omega) := by
        rw [rd_in (by omega) (by simp; omega), List.getElem_append_left (by omega), List.getElem_reverse]
        congr 1; omega
      have hb := mul12_bounds (clamp (rd a j) (-131072) 131072) (rd (P ++ X) (n - 1 - j))
      refine Ev.bind (fix_mul _ _ 12 (by omega) (by omega)) ?_
      rw [w64 (x := v - _) (by omega) (by omega)]
      have ep : P.reverse.drop j = P.reverse[j]'(by simp; omega) :: P.reverse.drop (j + 1) := List.drop_eq_getElem_cons (by simp; omega)
      rw [ea, ep] at h
      have et : v - tsum (clamp a[j] (-131072) 131072 :: (held12 a).drop (j + 1)) (P.reverse[j]'(by simp; omega) :: P.reverse.drop (j + 1)) = v - mul (clamp (rd a j) (-131072) 131072) (rd (P ++ X) (n - 1 - j)) 12 - tsum ((held12 a).drop (j + 1)) (P.reverse.drop (j + 1)) := by
        rw [e0, e1]; simp only [tsum]; omega
      rw [et] at h
      exact ih (j + 1) _ (by omega) (by simp; omega) h
    · have ep : P.reverse.drop j = [] := List.drop_eq_nil_of_le (by simp; omega)
      have ep2 : P.reverse.drop (j + 1) = [] := List.drop_eq_nil_of_le (by simp; omega)
      refine ih (j + 1) v (by omega) (by simp; omega) ?_
      rw [ep, tsum_nil'] at h
      rw [ep2, tsum_nil']
      exact h
theorem rest_l0 (a : List Int) (ha : a.length ≤ 32) (n : Nat) : ∀ (X P D : List Int) (i m : Int), X.length = n → Within 32768 X → D.length = P.length → i = P.length → m = ((P.length + X.length : Nat) : Int) → P.length + X.length ≤ 1000000 →
    Ev (fun k => levin_Rest.l0 k (P ++ X) a (D ++ List.replicate n 0) m i) (D ++ restL (held12 a) P.reverse X, 0) := by
  induction n with
  | zero =>
    intro X P D i m hn hw hd hi hm hl
    have e1 : X = [] := List.eq_nil_of_length_eq_zero hn
    subst e1
    simp at hm hl
    refine Ev.step (fun k => by rw [levin_Rest.l0]) ?_
    refine evNeg (by omega) ?_
    simpa [restL] using Ev.now (D, (0 : Int))
  | succ n ih =>
    intro X P D i m hn hw hd hi hm hl
    cases X with
    | nil => simp at hn
    | cons v X =>
      simp at hn hm hl
      have hv := hw v (by simp)
      refine Ev.step (fun k => by rw [levin_Rest.l0]) ?_
      refine evPos (by omega) (evPos (by omega) (evPos (by simp; omega) ?_))
      rw [rd_mid P v X i hi]
      refine rest_l1 a P (v :: X) _ m i i hi (by omega) ha (by simp; omega) a.length 0 v (by omega) (by omega) ?_
      rw [List.replicate_succ, set_mid D 0 (List.replicate n 0) _ i (by omega), w64 (x := i + 1) (by omega) (by omega)]
      have h := ih X (P ++ [v]) (D ++ [v - tsum (held12 a) P.reverse]) (i + 1) m (by omega) (fun x hx => hw x (by simp [hx])) (by simp; omega) (by simp; omega) (by simp; omega) (by simp; omega)
      simpa [restL] using h
theorem levin_rest (x a : List Int) (hx : x.length ≤ 960) (ha : a.length ≤ 32) : Ev (fun k => levin_Rest.f k x a) (restL (held12 a) [] (x.map sat), 0) := by
  refine Ev.congr (fun k => by rw [levin_Rest.f]) ?_
  refine evNeg (by omega) ?_
  rw [decide_eq_false (by omega)]
  refine Ev.step (fun k => by rw [levin_Rest.j0]) ?_
  refine evNeg (by simp) (Ev.bind (levin_sound' x (by omega)) (evPos (by omega) (evPos (by simp; omega) ?_)))
  have h := rest_l0 a ha (x.map sat).length (x.map sat) [] [] 0 (x.map sat).length rfl (within_sat x) rfl rfl (by simp) (by simp; omega)
  simpa using h
theorem levin_rest_bad (x a : List Int) (h : ¬ (x.length ≤ 960 ∧ a.length ≤ 32)) : Ev (fun k => levin_Rest.f k x a) ([], 1) := by
  have hj : ∀ b, b = true → Ev (fun k => levin_Rest.j0 k x a b) ([], 1) := by
    intro b hb
    refine Ev.step (fun k => by rw [levin_Rest.j0]) ?_
    exact evPos hb (Ev.now _)
  refine Ev.congr (fun k => by rw [levin_Rest.f]) ?_
  refine evIte (fun _ => hj _ rfl) (fun h1 => hj _ (decide_eq_true (by omega)))
def cl20 (v : Int) : Int := clamp v (-1048576) 1048576
def powL : List Int → Int
  | [] => 0
  | v :: l => cl20 v * cl20 v + powL l
theorem cl20_sq (v : Int) : 0 ≤ cl20 v * cl20 v ∧ cl20 v * cl20 v ≤ 1099511627776 := by
  have hc := clamp_bounds (a := v) (lo := -1048576) (hi := 1048576) (by omega)
  have h := prod_le (x := cl20 v) (y := cl20 v) (a := 1048576) (b := 1048576) (by unfold cl20; omega) (by unfold cl20; omega)
  refine ⟨?_, by omega⟩
  rcases Int.le_total 0 (cl20 v) with h | h
  · exact Int.mul_nonneg h h
  · exact Int.mul_nonneg_of_nonpos_of_nonpos h h
theorem power_l0 (n : Nat) : ∀ (S A : List Int) (s i m : Int), S.length = n → i = A.length → m = ((A.length + S.length : Nat) : Int) → A.length + S.length ≤ 1000 → 0 ≤ s ∧ s ≤ 1099511627776 * i →
    Ev (fun k => levin_Power.l0 k s (A ++ S) m i) (s + powL S) := by
  induction n with
  | zero =>
    intro S A s i m hn hi hm hl hs
    have e1 : S = [] := List.eq_nil_of_length_eq_zero hn
    subst e1
    refine Ev.step (fun k => by rw [levin_Power.l0]) ?_
    exact evNeg (by simp at hm; omega) (evConst (by simp [powL]))
  | succ n ih =>
    intro S A s i m hn hi hm hl hs
    cases S with
    | nil => simp at hn
    | cons v S =>
      simp at hn hm hl
      have hsq := cl20_sq v
      refine Ev.step (fun k => by rw [levin_Power.l0]) ?_
      refine evPos (by omega) (evPos (by omega) (evPos (by simp; omega) ?_))
      rw [rd_mid _ _ _ _ hi, w64 (x := i + 1) (by omega) (by omega)]
      refine Ev.bind (fix_clamp _ _ _) ?_
      have e : clamp v (-1048576) 1048576 = cl20 v := rfl
      rw [e, w64 (x := cl20 v * cl20 v) (by omega) (by omega), w64 (x := s + _) (by omega) (by omega)]
      have h := ih S (A ++ [v]) (s + cl20 v * cl20 v) (i + 1) m (by omega) (by simp; omega) (by simp; omega) (by simp; omega) (by omega)
      refine evEq (by simpa using h) ?_
      simp only [powL]; omega
theorem levin_power (l : List Int) : Ev (fun k => levin_Power.f k l) (powL (l.take 960)) := by
  refine Ev.congr (fun k => by rw [levin_Power.f]) ?_
  have hm : 0 ≤ mn (l.length : Int) 960 ∧ mn (l.length : Int) 960 ≤ l.length ∧ l.take (mn (l.length : Int) 960).toNat = l.take 960 := by
    unfold mn
    split
    · exact ⟨by omega, by omega, rfl⟩
    · refine ⟨by omega, by omega, ?_⟩
      rw [List.take_of_length_le (by omega), List.take_of_length_le (by omega)]
  refine evPos hm.1 (evPos hm.2.1 ?_)
  rw [hm.2.2]
  refine Ev.bind (Ev.now _) ?_
  have hl : (l.take 960).length ≤ 960 := List.length_take_le _ _
  have h := power_l0 (l.take 960).length (l.take 960) [] 0 0 (l.take 960).length rfl rfl (by simp) (by simp; omega) (by omega)
  simpa using h
end Go.Proofs.Ytllglpcpjeggcaa.Q
namespace Go.Proofs.Ytllglpcpjeggcaa.Q
open Go.RowKit Go.Proofs.Ytllglpcpjeggcaa.P Go.Proofs.YtllglpcpjeggcaaW.PrintWords Go.Proofs.YtllglpcpjeggcaaW.PrintLast Go.Proofs.YtllglpcpjeggcaaW.PrintMore
open Go.Proofs.Ytllglpcpjeggcaa.M
set_option linter.unusedVariables false
theorem autoL_length (x : List Int) (m : Nat) : (autoL x m).length = m := by simp [autoL]
end Go.Proofs.Ytllglpcpjeggcaa.Q
namespace Go.Proofs.Ytllglpcpjeggcaa.Q
open Go.RowKit Go.Proofs.Ytllglpcpjeggcaa.P Go.Proofs.YtllglpcpjeggcaaW.PrintWords Go.Proofs.YtllglpcpjeggcaaW.PrintLast Go.Proofs.YtllglpcpjeggcaaW.PrintMore
open Go.Proofs.Ytllglpcpjeggcaa.M
set_option linter.unusedVariables false
def chE (c : Int) : Nat → Int → Int
  | 0, v => v
  | n + 1, v => chE c n (mul v c 16)
def chirpL (c : Int) : Nat → List Int → List Int
  | _, [] => []
  | i, v :: l => chE c (i + 1) v :: chirpL c (i + 1) l
theorem chirpL_length (c : Int) : ∀ (i : Nat) (l : List Int), (chirpL c i l).length = l.length
  | _, [] => rfl
  | i, v :: l => by simp [chirpL, chirpL_length c (i + 1) l]
theorem chirp_l1 (c : Int) (n : Nat) : ∀ (out : List Int) (idx v : Int) (W : List Int) (len i bound j : Int) (r : List Int), bound = j + n → 0 ≤ j → bound ≤ 1000 → 0 ≤ i → i ≤ 1000 → 0 ≤ idx → idx < out.length →
    Ev (fun k => lpc_Chirp.l0 k c (out.set idx.toNat (chE c n v)) W len (i + 1)) r → Ev (fun k => lpc_Chirp.l1 k c out idx v W len i bound j) r := by
  induction n with
  | zero =>
    intro out idx v W len i bound j r hb hj hb2 hi hi2 h0 h1 h
    refine Ev.step (fun k => by rw [lpc_Chirp.l1]) ?_
    rw [w64 (x := i + 1) (by omega) (by omega)]
    exact evNeg (by omega) (evPos h0 (evPos h1 h))
  | succ n ih =>
    intro out idx v W len i bound j r hb hj hb2 hi hi2 h0 h1 h
    refine Ev.step (fun k => by rw [lpc_Chirp.l1]) ?_
    rw [w64 (x := j + 1) (by omega) (by omega)]
    refine evPos (by omega) (Ev.bind (fix_mul v c 16 (by omega) (by omega)) ?_)
    exact ih out idx _ W len i bound (j + 1) r (by omega) (by omega) hb2 hi hi2 h0 h1 h
theorem chirp_l0 (c : Int) (n : Nat) : ∀ (S A D : List Int) (i m : Int), S.length = n → D.length = A.length → i = A.length → m = ((A.length + S.length : Nat) : Int) → A.length + S.length ≤ 100 →
    Ev (fun k => lpc_Chirp.l0 k c (D ++ List.replicate n 0) (A ++ S) m i) (D ++ chirpL c A.length S) := by
  induction n with
  | zero =>
    intro S A D i m hn hd hi hm hl
    have e1 : S = [] := List.eq_nil_of_length_eq_zero hn
    subst e1
    refine Ev.step (fun k => by rw [lpc_Chirp.l0]) ?_
    simp at hm
    refine evNeg (by omega) ?_
    simpa [chirpL] using Ev.now D
  | succ n ih =>
    intro S A D i m hn hd hi hm hl
    cases S with
    | nil => simp at hn
    | cons v S =>
      simp at hn hm hl
      refine Ev.step (fun k => by rw [lpc_Chirp.l0]) ?_
      refine evPos (by omega) (evPos (by omega) (evPos (by simp; omega) ?_))
      rw [rd_mid A v S i hi, w64 (x := i + 1) (by omega) (by omega)]
      refine chirp_l1 c (A.length + 1) _ _ _ _ _ _ _ 0 _ (by omega) (by omega) (by omega) (by omega) (by omega) (by omega) (by simp; omega) ?_
      rw [List.replicate_succ, set_mid D 0 (List.replicate n 0) _ i (by omega)]
      have h := ih S (A ++ [v]) (D ++ [chE c (A.length + 1) v]) (i + 1) m (by omega) (by simp; omega) (by simp; omega) (by simp; omega) (by simp; omega)
      simpa [chirpL] using h
def chirp (l : List Int) (c : Int) : List Int := chirpL (clamp c 0 65536) 0 l
theorem lpc_chirp (l : List Int) (c : Int) (hl : l.length ≤ 32) : Ev (fun k => lpc_Chirp.f k l c) (chirp l c) := by
  refine Ev.congr (fun k => by rw [lpc_Chirp.f]) ?_
  refine evNeg (by omega) (Ev.bind (fix_clamp c 0 65536) (evPos (by omega) (evPos (by omega) ?_)))
  have h := chirp_l0 (clamp c 0 65536) l.length l [] [] 0 l.length rfl rfl rfl (by simp) (by simp; omega)
  exact h
def nextB (r d : Int) (old : List Int) (m i : Nat) : Int := clamp (fac (rd old i + mul r (rd old ((m : Int) - 1 - i)) 24) * 2 ^ (24 : Int).toNat / d) (-2147483648) 2147483648
def stabN : Nat → List Int → Bool
  | 0, _ => true
  | m + 1, P => if rd P m > 16760438 then false else if rd P m < -16760438 then false else stabN m ((List.range m).map (nextB (rd P m) (16777216 - mul (rd P m) (rd P m) 24) (P.take m) m))
theorem mul24 (a b : Int) : mul a b 24 = (fac a * fac b + 8388608) / 16777216 := by
  unfold mul; rw [if_neg (by omega), if_neg (by omega), if_neg (by omega)]; rfl
theorem d_bounds {r : Int} (h : -16760438 ≤ r ∧ r ≤ 16760438) : 1 ≤ 16777216 - mul r r 24 ∧ 16777216 - mul r r 24 ≤ 16777216 := by
  rw [mul24, fac_id (by omega) (by omega)]
  have h1 := prod_le (x := r) (y := r) (a := 16760438) (b := 16760438) (by omega) (by omega)
  have h2 : 0 ≤ r * r := by
    rcases Int.le_total 0 r with h | h
    · exact Int.mul_nonneg h h
    · exact Int.mul_nonneg_of_nonpos_of_nonpos h h
  omega
theorem mul24_bounds (a b : Int) : -274877906945 ≤ mul a b 24 ∧ mul a b 24 ≤ 274877906945 := by
  have h := fac_prod a b
  rw [mul24]; omega
theorem rd_bounds {l : List Int} {b : Int} (hb : 0 ≤ b) (h : ∀ x ∈ l, -b ≤ x ∧ x ≤ b) (i : Int) : -b ≤ rd l i ∧ rd l i ≤ b := by
  unfold rd
  rw [List.getD_eq_getElem?_getD]
  by_cases hi : i.toNat < l.length
  · rw [List.getElem?_eq_getElem hi]; exact h _ (List.getElem_mem hi)
  · rw [List.getElem?_eq_none (by omega)]; simp; omega
theorem stab_l2 (r d : Int) (old : List Int) (m : Nat) (hm : m ≤ 32) (hr : -16760438 ≤ r ∧ r ≤ 16760438) (hd : 1 ≤ d ∧ d ≤ 16777216) (ho : old.length = m) (hob : ∀ x ∈ old, -2147483648 ≤ x ∧ x ≤ 2147483648) {res : Bool} (n : Nat) :
    ∀ (i : Nat) (R : List Int), i + n = m → n ≤ R.length → R.length ≤ 100 →
    (Ev (fun k => lpc_Stable.l1 k ((List.range m).map (nextB r d old m) ++ R.drop n) ((m : Int) - 1)) res) →
    Ev (fun k => lpc_Stable.l2 k ((List.range i).map (nextB r d old m) ++ R) m r d old m i) res := by
  induction n with
  | zero =>
    intro i R hi hR hRl h
    have e : i = m := by omega
    subst e
    refine Ev.step (fun k => by rw [lpc_Stable.l2]) ?_
    rw [w64 (x := (i : Int) - 1) (by omega) (by omega)]
    exact evNeg (by omega) (by simpa using h)
  | succ n ih =>
    intro i R hi hR hRl h
    cases R with
    | nil => simp at hR
    | cons x R =>
      simp at hR hRl
      refine Ev.step (fun k => by rw [lpc_Stable.l2]) ?_
      have hb1 := rd_bounds (b := 2147483648) (by omega) hob (i : Int)
      have hb2 := mul24_bounds r (rd old ((m : Int) - 1 - i))
      rw [w64 (x := (m : Int) - 1) (by omega) (by omega), w64 (x := (m : Int) - 1 - i) (by omega) (by omega), w64 (x := (i : Int) + 1) (by omega) (by omega)]
      refine evPos (by omega) (evPos (by omega) (evPos (by omega) (evPos (by omega) (evPos (by omega) (Ev.bind (fix_mul _ _ 24 (by omega) (by omega)) ?_)))))
      rw [w64 (x := rd old i + _) (by omega) (by omega)]
      refine Ev.bind (fix_div_any _ d 24 (by omega) (by omega)) (Ev.bind (fix_clamp _ _ _) (evPos (by simp; omega) ?_))
      rw [set_mid ((List.range i).map (nextB r d old m)) x R _ i (by simp)]
      have h3 := ih (i + 1) R (by omega) (by omega) (by omega) (by simpa using h)
      rw [List.range_succ, List.map_append] at h3
      simpa [nextB] using h3
theorem stab_l1 (m : Nat) : ∀ (P J : List Int), P.length = m → m ≤ 32 → J.length ≤ 40 → P.length + J.length ≤ 40 → (∀ x ∈ P, -2147483648 ≤ x ∧ x ≤ 2147483648) → Ev (fun k => lpc_Stable.l1 k (P ++ J) ((m : Int) - 1)) (stabN m P) := by
  induction m with
  | zero =>
    intro P J hP hm hJ hJ2 hb
    refine Ev.step (fun k => by rw [lpc_Stable.l1]) ?_
    exact evNeg (by omega) (Ev.now _)
  | succ m ih =>
    intro P J hP hm hJ hJ2 hb
    have e0 : ((m + 1 : Nat) : Int) - 1 = (m : Int) := by omega
    rw [e0]
    have hrd : rd (P ++ J) (m : Int) = rd P m := by
      rw [rd_at (l := P ++ J) (i := m) (by simp; omega), rd_at (l := P) (i := m) (by omega)]
      exact List.getElem_append_left (by omega)
    refine Ev.step (fun k => by rw [lpc_Stable.l1]) ?_
    refine evPos (by omega) (evPos (by omega) (evPos (by simp; omega) ?_))
    rw [hrd]
    unfold stabN
    have hno : ∀ b, b = true → Ev (fun k => lpc_Stable.j2 k (P ++ J) m (rd P m) b) false := by
      intro b hb
      refine Ev.step (fun k => by rw [lpc_Stable.j2]) ?_
      exact evPos hb (Ev.now _)
    refine evIte (fun h => ?_) (fun h => ?_)
    · rw [if_pos h]; exact hno _ rfl
    · rw [if_neg h]
      by_cases h2 : rd P m < -16760438
      · rw [if_pos h2]; exact hno _ (decide_eq_true h2)
      · rw [if_neg h2, decide_eq_false h2]
        have hr : -16760438 ≤ rd P m ∧ rd P m ≤ 16760438 := by omega
        have hd := d_bounds hr
        refine Ev.step (fun k => by rw [lpc_Stable.j2]) ?_
        refine evNeg (by simp) (Ev.bind (fix_mul _ _ 24 (by omega) (by omega)) (Ev.bind (Ev.now _) (evPos (by omega) (evPos (by simp; omega) (Ev.bind (Ev.now _) ?_)))))
        rw [w64 (x := 16777216 - _) (by omega) (by omega)]
        have et : [] ++ (P ++ J).take ((m : Int)).toNat = P.take m := by
          rw [List.nil_append, Int.toNat_natCast, List.take_append_of_le_length (by omega)]
        rw [et]
        refine evPos (by simp; omega) ?_
        have key := ih ((List.range m).map (nextB (rd P m) (16777216 - mul (rd P m) (rd P m) 24) (P.take m) m)) ((P ++ J).drop m) (by simp) (by omega) (by simp; omega) (by simp; omega) (by
          intro x hx
          obtain ⟨i, _, rfl⟩ := List.mem_map.1 hx
          exact clamp_bounds (by omega))
        have h5 := stab_l2 (rd P m) (16777216 - mul (rd P m) (rd P m) 24) (P.take m) m (by omega) hr hd (by simp; omega) (fun x hx => hb x (List.mem_of_mem_take hx)) (res := stabN m ((List.range m).map (nextB (rd P m) (16777216 - mul (rd P m) (rd P m) 24) (P.take m) m))) m 0 (P ++ J) (by omega) (by simp; omega) (by simp; omega) key
        simpa using h5
def scaled (l : List Int) : List Int := l.map fun v => 4096 * clamp v (-131072) 131072
def stable (l : List Int) : Bool := if (l.length : Int) > 32 then false else stabN l.length (scaled l)
theorem stab_l0 (n : Nat) : ∀ (S A : List Int) (i m : Int), S.length = n → i = A.length → m = ((A.length + S.length : Nat) : Int) → A.length + S.length ≤ 32 →
    Ev (fun k => lpc_Stable.l0 k (scaled A ++ List.replicate n 0) (A ++ S) m i) (stabN (A.length + S.length) (scaled (A ++ S))) := by
  induction n with
  | zero =>
    intro S A i m hn hi hm hl
    have e1 : S = [] := List.eq_nil_of_length_eq_zero hn
    subst e1
    simp at hm hl
    refine Ev.step (fun k => by rw [lpc_Stable.l0]) ?_
    refine evNeg (by omega) ?_
    have h := stab_l1 A.length (scaled A) [] (by simp [scaled]) hl (by simp) (by simp [scaled]; omega) (by
      intro x hx
      obtain ⟨v, _, rfl⟩ := List.mem_map.1 hx
      have := clamp_bounds (a := v) (lo := -131072) (hi := 131072) (by omega)
      omega)
    have e : wrap64 (((scaled A ++ List.replicate 0 0).length : Int) - 1) = (A.length : Int) - 1 := by
      simp [scaled]; exact w64 (by omega) (by omega)
    rw [e]
    simpa using h
  | succ n ih =>
    intro S A i m hn hi hm hl
    cases S with
    | nil => simp at hn
    | cons v S =>
      simp at hn hm hl
      have hc := clamp_bounds (a := v) (lo := -131072) (hi := 131072) (by omega)
      refine Ev.step (fun k => by rw [lpc_Stable.l0]) ?_
      refine evPos (by omega) (evPos (by omega) (evPos (by simp; omega) ?_))
      rw [rd_mid A v S i hi, w64 (x := i + 1) (by omega) (by omega)]
      refine Ev.bind (fix_clamp _ _ _) (evPos (by simp [scaled]; omega) ?_)
      rw [w64 (x := 4096 * _) (by omega) (by omega), List.replicate_succ, set_mid (scaled A) 0 (List.replicate n 0) _ i (by simp [scaled]; omega)]
      have h := ih S (A ++ [v]) (i + 1) m (by omega) (by simp; omega) (by simp; omega) (by simp; omega)
      have e1 : A.length + (v :: S).length = (A ++ [v]).length + S.length := by simp; omega
      rw [e1]
      simpa [scaled] using h
theorem lpc_stable (l : List Int) : Ev (fun k => lpc_Stable.f k l) (stable l) := by
  refine Ev.congr (fun k => by rw [lpc_Stable.f]) ?_
  unfold stable
  refine evIte (fun h => ?_) (fun h => ?_)
  · rw [if_pos h]; exact Ev.now _
  · rw [if_neg h]
    refine evPos (by omega) (evPos (by omega) ?_)
    have h2 := stab_l0 l.length l [] 0 l.length rfl rfl (by simp) (by simp; omega)
    simpa [scaled] using h2
def settle (l : List Int) : List Int := if stable l = true then l else List.replicate l.length 0
def fitN : Nat → Int → List Int → List Int
  | 0, _, l => settle l
  | n + 1, r, l => if stable l = true then l else fitN n (r + 1) (chirp l (65536 - 2048 * r))
theorem zeros_stable : ∀ n : Fin 33, stable (List.replicate n.val 0) = true := by decide +kernel
theorem settle_stable {l : List Int} (h : l.length ≤ 32) : stable (settle l) = true := by
  unfold settle; split
  · assumption
  · exact zeros_stable ⟨l.length, by omega⟩
theorem fitN_stable : ∀ (n : Nat) (r : Int) (l : List Int), l.length ≤ 32 → stable (fitN n r l) = true
  | 0, _, l, h => settle_stable h
  | n + 1, r, l, h => by
    unfold fitN; split
    · assumption
    · exact fitN_stable n _ _ (by unfold chirp; rw [chirpL_length]; exact h)
theorem fitN_length : ∀ (n : Nat) (r : Int) (l : List Int), (fitN n r l).length = l.length
  | 0, _, l => by unfold fitN settle; split <;> simp
  | n + 1, r, l => by
    unfold fitN; split
    · rfl
    · rw [fitN_length n]; unfold chirp; rw [chirpL_length]
theorem fit_l1 (n : Nat) : ∀ (l : List Int) (r : Int), l.length ≤ 32 → r + n = 17 → 1 ≤ r → Ev (fun k => lpc_Fit.l1 k l r) (fitN n r l) := by
  induction n with
  | zero =>
    intro l r hl hr h1
    refine Ev.step (fun k => by rw [lpc_Fit.l1]) ?_
    refine evNeg (by omega) (Ev.bind (lpc_stable l) ?_)
    unfold fitN settle
    refine evIte (fun h => ?_) (fun h => ?_)
    · rw [if_pos h]; exact Ev.now _
    · rw [if_neg h]; exact Ev.now _
  | succ n ih =>
    intro l r hl hr h1
    refine Ev.step (fun k => by rw [lpc_Fit.l1]) ?_
    refine evPos (by omega) (Ev.bind (lpc_stable l) ?_)
    unfold fitN
    refine evIte (fun h => ?_) (fun h => ?_)
    · rw [if_pos h]
      exact Ev.bind (lpc_stable l) (evPos h (Ev.now _))
    · rw [if_neg h, w64 (x := 2048 * r) (by omega) (by omega), w64 (x := 65536 - 2048 * r) (by omega) (by omega), w64 (x := r + 1) (by omega) (by omega)]
      exact Ev.bind (lpc_chirp l _ hl) (ih _ _ (by unfold chirp; rw [chirpL_length]; exact hl) (by omega) (by omega))
def held (l : List Int) : List Int := l.map fun v => clamp v (-131072) 131072
def fit (l : List Int) : List Int := fitN 16 1 (held l)
theorem fit_l0 (n : Nat) : ∀ (S A : List Int) (i m : Int), S.length = n → i = A.length → m = ((A.length + S.length : Nat) : Int) → A.length + S.length ≤ 32 →
    Ev (fun k => lpc_Fit.l0 k (held A ++ List.replicate n 0) (A ++ S) m i) (fit (A ++ S)) := by
  induction n with
  | zero =>
    intro S A i m hn hi hm hl
    have e1 : S = [] := List.eq_nil_of_length_eq_zero hn
    subst e1
    simp at hm hl
    refine Ev.step (fun k => by rw [lpc_Fit.l0]) ?_
    refine evNeg (by omega) ?_
    have h := fit_l1 16 (held A) 1 (by simpa [held] using hl) (by omega) (by omega)
    simpa [fit] using h
  | succ n ih =>
    intro S A i m hn hi hm hl
    cases S with
    | nil => simp at hn
    | cons v S =>
      simp at hn hm hl
      refine Ev.step (fun k => by rw [lpc_Fit.l0]) ?_
      refine evPos (by omega) (evPos (by omega) (evPos (by simp; omega) ?_))
      rw [rd_mid A v S i hi, w64 (x := i + 1) (by omega) (by omega)]
      refine Ev.bind (fix_clamp _ _ _) (evPos (by simp [held]; omega) ?_)
      rw [List.replicate_succ, set_mid (held A) 0 (List.replicate n 0) _ i (by simp [held]; omega)]
      have h := ih S (A ++ [v]) (i + 1) m (by omega) (by simp; omega) (by simp; omega) (by simp; omega)
      simpa [held] using h
theorem lpc_fit (l : List Int) (hl : l.length ≤ 32) : Ev (fun k => lpc_Fit.f k l) (fit l) := by
  refine Ev.congr (fun k => by rw [lpc_Fit.f]) ?_
  refine evNeg (by omega) (evPos (by omega) (evPos (by omega) ?_))
  have h := fit_l0 l.length l [] 0 l.length rfl rfl (by simp) (by simp; omega)
  simpa [held] using h
theorem fit_length (l : List Int) : (fit l).length = l.length := by unfold fit; rw [fitN_length]; simp [held]
theorem fit_stable (l : List Int) (h : l.length ≤ 32) : stable (fit l) = true := fitN_stable 16 1 _ (by simpa [held] using h)
end Go.Proofs.Ytllglpcpjeggcaa.Q
namespace Go.Proofs.Ytllglpcpjeggcaa.Q
open Go.RowKit Go.Proofs.Ytllglpcpjeggcaa.P Go.Proofs.YtllglpcpjeggcaaW.PrintWords Go.Proofs.YtllglpcpjeggcaaW.PrintLast Go.Proofs.YtllglpcpjeggcaaW.PrintMore
open Go.Proofs.Ytllglpcpjeggcaa.M
set_option linter.unusedVariables false
theorem ev_unbind2 {α β : Type} {a : Nat → Option α} {g : Nat → α → Option β} {x : α} {r : β} (h : Ev (fun k => (a k).bind (g k)) r) (ha : Ev a x) : Ev (fun k => g k x) r := by
  obtain ⟨K, h⟩ := h
  obtain ⟨L, ha⟩ := ha
  refine ⟨K + L, fun k hk => ?_⟩
  have h1 : (a k).bind (g k) = some r := h k (by omega)
  rw [ha k (by omega)] at h1
  exact h1
def divI (a b s : Int) : Int := if fac b = 0 then 0 else if s < 0 then 0 else if s > 30 then 0 else if fac b < 0 then (-(fac a) * 2 ^ s.toNat) / (-(fac b)) else fac a * 2 ^ s.toNat / fac b
theorem fix_divI (a b s : Int) : Ev (fun k => fix_Div.f k a b s) (divI a b s) := by
  have hb := fac_bounds b
  have ha := fac_bounds a
  have hno : ∀ t, t = true → Ev (fun k => fix_Div.j0 k (fac a) (fac b) s t) 0 := by
    intro t ht
    refine Ev.step (fun k => by rw [fix_Div.j0]) ?_
    exact evPos ht (Ev.now _)
  by_cases h5 : fac b < 0 ∧ 0 ≤ s ∧ s ≤ 30
  · refine Ev.congr (fun k => by rw [fix_Div.f]) (Ev.bind (fix_factor a) (Ev.bind (fix_factor b) (evNeg (show ¬ fac b = 0 by omega) (evNeg (show ¬ s < 0 by omega) ?_))))
    rw [decide_eq_false (show ¬ s > 30 by omega)]
    unfold divI
    rw [if_neg (show ¬ fac b = 0 by omega), if_neg (show ¬ s < 0 by omega), if_neg (show ¬ s > 30 by omega), if_pos h5.1]
    refine Ev.step (fun k => by rw [fix_Div.j0]) ?_
    have hu := up_bounds ha h5.2.2
    have en : -(fac a) * 2 ^ s.toNat = -(fac a * 2 ^ s.toNat) := Int.neg_mul _ _
    rw [shl_64 (x := fac a) (s := s) (by omega) (by omega) (by omega), en]
    generalize fac a * 2 ^ s.toNat = n at hu ⊢
    generalize fac b = d at hb h5 ⊢
    have hq := tdiv_down (n := -n) (d := -d) (by omega)
    have e1 : Int.tdiv (-n) (-d) = Int.tdiv n d := Int.neg_tdiv_neg n d
    have e2 : Int.tmod (-n) (-d) = -Int.tmod n d := by rw [Int.tmod_neg, Int.neg_tmod]
    rw [e1, e2] at hq
    have e3 := Int.natAbs_tdiv n d
    have hle : n.natAbs / d.natAbs ≤ n.natAbs := Nat.div_le_self _ _
    have e4 : (Int.tdiv n d).natAbs ≤ n.natAbs := by rw [e3]; exact hle
    rw [w64 (x := Int.tdiv n d) (by omega) (by omega), w64 (x := Int.tdiv n d - 1) (by omega) (by omega)]
    refine evNeg (by simp) (evPos (by omega) (evNeg (by omega) ?_))
    rw [← hq]
    refine evIte (fun h => ?_) (fun h => ?_)
    · rw [if_pos (show -n.tmod d = 0 by omega)]; exact Ev.now _
    · rw [if_neg (show ¬ -n.tmod d = 0 by omega)]
      have hn0 : n ≠ 0 := fun e => h (by rw [e]; exact Int.zero_tmod d)
      rw [decide_eq_true (show d < 0 by omega)]
      by_cases hn : n < 0
      · rw [decide_eq_true hn, if_neg (show ¬ -n < 0 by omega)]; exact evNeg (by simp) (Ev.now _)
      · rw [decide_eq_false hn, if_pos (show -n < 0 by omega)]; exact evPos (by rfl) (Ev.now _)
  · unfold divI
    by_cases h0 : fac b = 0
    · rw [if_pos h0]
      refine Ev.congr (fun k => by rw [fix_Div.f]) (Ev.bind (fix_factor a) (Ev.bind (fix_factor b) (evPos h0 (hno _ rfl))))
    · rw [if_neg h0]
      by_cases h1 : s < 0
      · rw [if_pos h1]
        refine Ev.congr (fun k => by rw [fix_Div.f]) (Ev.bind (fix_factor a) (Ev.bind (fix_factor b) (evNeg h0 (evPos h1 (hno _ rfl)))))
      · rw [if_neg h1]
        by_cases h2 : s > 30
        · rw [if_pos h2]
          refine Ev.congr (fun k => by rw [fix_Div.f]) (Ev.bind (fix_factor a) (Ev.bind (fix_factor b) (evNeg h0 (evNeg h1 (hno _ (decide_eq_true h2))))))
        · rw [if_neg h2, if_neg (by omega)]
          have ef : fac (fac b) = fac b := fac_id hb.1 hb.2
          have h := fix_div_any a (fac b) s (by omega) (by omega)
          have h1 : Ev (fun k => (fix_factor.f k a).bind fun t126 => ((fix_factor.f k (fac b)).bind fun t127 => (if t127 = 0 then (fix_Div.j0 k t126 t127 s true) else (if s < 0 then (fix_Div.j0 k t126 t127 s true) else (fix_Div.j0 k t126 t127 s (decide (s > 30))))))) (fac a * 2 ^ s.toNat / fac b) := Ev.congr (fun k => by rw [fix_Div.f]) h
          have h2 : Ev (fun k => (fix_factor.f k (fac b)).bind fun t127 => (if t127 = 0 then (fix_Div.j0 k (fac a) t127 s true) else (if s < 0 then (fix_Div.j0 k (fac a) t127 s true) else (fix_Div.j0 k (fac a) t127 s (decide (s > 30)))))) (fac a * 2 ^ s.toNat / fac b) := ev_unbind2 (g := fun k t126 => ((fix_factor.f k (fac b)).bind fun t127 => (if t127 = 0 then (fix_Div.j0 k t126 t127 s true) else (if s < 0 then (fix_Div.j0 k t126 t127 s true) else (fix_Div.j0 k t126 t127 s (decide (s > 30))))))) h1 (fix_factor a)
          have h3 := ev_unbind2 (g := fun k t127 => (if t127 = 0 then (fix_Div.j0 k (fac a) t127 s true) else (if s < 0 then (fix_Div.j0 k (fac a) t127 s true) else (fix_Div.j0 k (fac a) t127 s (decide (s > 30)))))) h2 (evEq (fix_factor (fac b)) ef)
          exact Ev.congr (fun k => by rw [fix_Div.f]) (Ev.bind (fix_factor a) (Ev.bind (fix_factor b) h3))
end Go.Proofs.Ytllglpcpjeggcaa.Q
namespace Go.Proofs.Ytllglpcpjeggcaa.Q
open Go.RowKit Go.Proofs.Ytllglpcpjeggcaa.P Go.Proofs.YtllglpcpjeggcaaW.PrintWords Go.Proofs.YtllglpcpjeggcaaW.PrintLast Go.Proofs.YtllglpcpjeggcaaW.PrintMore
open Go.Proofs.Ytllglpcpjeggcaa.M
set_option linter.unusedVariables false
def dbl (v : Int) : Int := clamp (2 * v) (-1125899906842624) 1125899906842624
def partC (v : Int) : Int := clamp v (-2199023255552) 2199023255552
def upN : Nat → List Int → List Int
  | 0, l => l
  | n + 1, l => if rd l 0 < 536870912 then upN n (l.map dbl) else l
def dnN : Nat → List Int → List Int
  | 0, l => l
  | n + 1, l => if rd l 0 ≥ 1073741824 then dnN n (l.map (· / 2)) else l
def raise1 (l : List Int) : List Int := l.set 0 (rd l 0 + rd l 0 / 1024 + 1)
def base (l : List Int) : List Int := dnN 12 (upN 29 (l.map partC))
theorem rd_map (f : Int → Int) (l : List Int) (i : Int) (h0 : 0 ≤ i) (h1 : i < l.length) : rd (l.map f) i = f (rd l i) := by
  rw [rd_in h0 (by simp; omega), rd_in (l := l) h0 (by omega), List.getElem_map]
theorem upN_length : ∀ (n : Nat) (l : List Int), (upN n l).length = l.length
  | 0, l => rfl
  | n + 1, l => by
    unfold upN; split
    · rw [upN_length n]; simp
    · rfl
theorem dnN_length : ∀ (n : Nat) (l : List Int), (dnN n l).length = l.length
  | 0, l => rfl
  | n + 1, l => by
    unfold dnN; split
    · rw [dnN_length n]; simp
    · rfl
theorem within_dbl (l : List Int) : Within 1125899906842624 (l.map dbl) := by
  intro x hx
  obtain ⟨v, _, rfl⟩ := List.mem_map.1 hx
  have := clamp_bounds (a := 2 * v) (lo := -1125899906842624) (hi := 1125899906842624) (by omega)
  unfold dbl; omega
theorem within_half {l : List Int} (h : Within 1125899906842624 l) : Within 1125899906842624 (l.map (· / 2)) := by
  intro x hx
  obtain ⟨v, hv, rfl⟩ := List.mem_map.1 hx
  have := h v hv
  omega
theorem within_upN : ∀ (n : Nat) (l : List Int), Within 1125899906842624 l → Within 1125899906842624 (upN n l)
  | 0, l, h => h
  | n + 1, l, h => by
    unfold upN; split
    · exact within_upN n _ (within_dbl l)
    · exact h
theorem within_dnN : ∀ (n : Nat) (l : List Int), Within 1125899906842624 l → Within 1125899906842624 (dnN n l)
  | 0, l, h => h
  | n + 1, l, h => by
    unfold dnN; split
    · exact within_dnN n _ (within_half h)
    · exact h
theorem within_part (l : List Int) : Within 1125899906842624 (l.map partC) := by
  intro x hx
  obtain ⟨v, _, rfl⟩ := List.mem_map.1 hx
  have := clamp_bounds (a := v) (lo := -2199023255552) (hi := 2199023255552) (by omega)
  unfold partC; omega
theorem dbl_small {v : Int} (h1 : 1 ≤ v) (h2 : v < 536870912) : dbl v = 2 * v := clamp_id (by omega) (by omega)
theorem upN_first : ∀ (n : Nat) (l : List Int), 0 < l.length → 1 ≤ rd l 0 → rd l 0 ≤ 2199023255552 → 536870912 ≤ rd l 0 * 2 ^ n → 536870912 ≤ rd (upN n l) 0 ∧ rd (upN n l) 0 ≤ 2199023255552
  | 0, l, h0, h1, h2, h3 => by unfold upN; simp at h3; omega
  | n + 1, l, h0, h1, h2, h3 => by
    unfold upN
    split
    · rename_i h
      have e : rd (l.map dbl) 0 = 2 * rd l 0 := by rw [rd_map _ _ _ (by omega) (by omega), dbl_small h1 h]
      refine upN_first n _ (by simpa using h0) (by omega) (by omega) ?_
      rw [e, Int.mul_comm 2, Int.mul_assoc, ← Int.pow_succ']
      exact h3
    · omega
theorem dnN_first : ∀ (n : Nat) (l : List Int), 0 < l.length → 536870912 ≤ rd l 0 → rd l 0 < 1073741824 * 2 ^ n → 536870912 ≤ rd (dnN n l) 0 ∧ rd (dnN n l) 0 < 1073741824
  | 0, l, h0, h1, h2 => by unfold dnN; simp at h2; omega
  | n + 1, l, h0, h1, h2 => by
    unfold dnN
    split
    · rename_i h
      have e : rd (l.map (· / 2)) 0 = rd l 0 / 2 := by rw [rd_map _ _ _ (by omega) (by omega)]
      refine dnN_first n _ (by simpa using h0) (by omega) ?_
      rw [Int.pow_succ] at h2
      generalize (2 : Int) ^ n = P at h2 ⊢
      omega
    · omega
theorem base_first (l : List Int) (h0 : 0 < l.length) (h1 : 1 ≤ rd l 0) : 536870912 ≤ rd (base l) 0 ∧ rd (base l) 0 < 1073741824 := by
  have e : rd (l.map partC) 0 = partC (rd l 0) := rd_map _ _ _ (by omega) (by omega)
  have hp : 1 ≤ partC (rd l 0) ∧ partC (rd l 0) ≤ 2199023255552 := by
    have := clamp_bounds (a := rd l 0) (lo := -2199023255552) (hi := 2199023255552) (by omega)
    unfold partC
    refine ⟨?_, this.2⟩
    unfold clamp
    split
    · omega
    · split <;> omega
  have hu := upN_first 29 (l.map partC) (by simpa using h0) (by omega) (by omega) (by rw [e]; simp; omega)
  exact dnN_first 12 _ (by rw [upN_length]; simpa using h0) hu.1 (by simp; omega)
theorem base_length (l : List Int) : (base l).length = l.length := by unfold base; rw [dnN_length, upN_length]; simp
theorem within_base (l : List Int) : Within 1125899906842624 (base l) := within_dnN _ _ (within_upN _ _ (within_part l))
theorem scaled_l4 (n : Nat) : ∀ (S A : List Int) (i m : Int) {r : List Int}, S.length = n → i = A.length → m = ((A.length + S.length : Nat) : Int) → A.length + S.length ≤ 1000 →
    Ev (fun k => levin_scaled.l3 k ((A ++ S).map (· / 2))) r → Ev (fun k => levin_scaled.l4 k (A.map (· / 2) ++ S) m i) r := by
  induction n with
  | zero =>
    intro S A i m r hn hi hm hl h
    have e1 : S = [] := List.eq_nil_of_length_eq_zero hn
    subst e1
    simp at hm hl
    refine Ev.step (fun k => by rw [levin_scaled.l4]) ?_
    exact evNeg (by omega) (by simpa using h)
  | succ n ih =>
    intro S A i m r hn hi hm hl h
    cases S with
    | nil => simp at hn
    | cons v S =>
      simp at hn hm hl
      refine Ev.step (fun k => by rw [levin_scaled.l4]) ?_
      rw [rd_mid (A.map (· / 2)) v S i (by simpa using hi), w64 (x := i + 1) (by omega) (by omega), set_mid (A.map (· / 2)) v S _ i (by simpa using hi)]
      refine evPos (by omega) (evPos (by omega) (evPos (by simp; omega) ?_))
      have g := ih S (A ++ [v]) (i + 1) m (r := r) (by omega) (by simp; omega) (by simp; omega) (by simp; omega) (by simpa using h)
      simpa using g
theorem scaled_l3 (n : Nat) : ∀ (l : List Int), 0 < l.length → l.length ≤ 1000 → 536870912 ≤ rd l 0 → rd l 0 < 1073741824 * 2 ^ n → rd l 0 ≤ 4398046511104 →
    Ev (fun k => levin_scaled.l3 k l) (raise1 (dnN n l)) := by
  induction n with
  | zero =>
    intro l h0 hl h1 h2 h3
    simp at h2
    refine Ev.step (fun k => by rw [levin_scaled.l3]) ?_
    refine evPos (by omega) (evNeg (by omega) ?_)
    rw [Int.tdiv_eq_ediv_of_nonneg (by omega), w64 (x := rd l 0 / 1024) (by omega) (by omega), w64 (x := rd l 0 / 1024 + 1) (by omega) (by omega), w64 (by omega) (by omega)]
    refine evConst ?_
    unfold raise1 dnN
    rw [Int.add_assoc]; rfl
  | succ n ih =>
    intro l h0 hl h1 h2 h3
    refine Ev.step (fun k => by rw [levin_scaled.l3]) ?_
    refine evPos (by omega) ?_
    unfold dnN
    refine evIte (fun h => ?_) (fun h => ?_)
    · rw [if_pos h]
      have e : rd (l.map (· / 2)) 0 = rd l 0 / 2 := by rw [rd_map _ _ _ (by omega) (by omega)]
      have g := ih (l.map (· / 2)) (by simpa using h0) (by simpa using hl) (by omega) (by
        rw [e]
        rw [Int.pow_succ] at h2
        generalize (2 : Int) ^ n = P at h2 ⊢
        omega) (by omega)
      have g2 := scaled_l4 l.length l [] 0 l.length (r := raise1 (dnN n (l.map (· / 2)))) rfl rfl (by simp) (by simpa using hl) (by simpa using g)
      simpa using g2
    · rw [if_neg h, Int.tdiv_eq_ediv_of_nonneg (by omega), w64 (x := rd l 0 / 1024) (by omega) (by omega), w64 (x := rd l 0 / 1024 + 1) (by omega) (by omega), w64 (by omega) (by omega)]
      refine evConst ?_
      unfold raise1
      rw [Int.add_assoc]; rfl
theorem scaled_l2 (n : Nat) : ∀ (S A : List Int) (i m : Int) {r : List Int}, S.length = n → i = A.length → m = ((A.length + S.length : Nat) : Int) → A.length + S.length ≤ 1000 → Within 1125899906842624 S →
    Ev (fun k => levin_scaled.l1 k ((A ++ S).map dbl)) r → Ev (fun k => levin_scaled.l2 k (A.map dbl ++ S) m i) r := by
  induction n with
  | zero =>
    intro S A i m r hn hi hm hl hw h
    have e1 : S = [] := List.eq_nil_of_length_eq_zero hn
    subst e1
    simp at hm hl
    refine Ev.step (fun k => by rw [levin_scaled.l2]) ?_
    exact evNeg (by omega) (by simpa using h)
  | succ n ih =>
    intro S A i m r hn hi hm hl hw h
    cases S with
    | nil => simp at hn
    | cons v S =>
      simp at hn hm hl
      have hv := hw v (by simp)
      refine Ev.step (fun k => by rw [levin_scaled.l2]) ?_
      rw [rd_mid (A.map dbl) v S i (by simpa using hi), w64 (x := i + 1) (by omega) (by omega), w64 (x := 2 * v) (by omega) (by omega)]
      refine evPos (by omega) (evPos (by omega) (evPos (by simp; omega) (Ev.bind (fix_clamp _ _ _) ?_)))
      rw [set_mid (A.map dbl) v S _ i (by simpa using hi)]
      have g := ih S (A ++ [v]) (i + 1) m (r := r) (by omega) (by simp; omega) (by simp; omega) (by simp; omega) (fun x hx => hw x (by simp [hx])) (by simpa using h)
      simpa [dbl] using g
theorem scaled_l1 (n : Nat) : ∀ (l : List Int), 0 < l.length → l.length ≤ 1000 → Within 1125899906842624 l → 1 ≤ rd l 0 → rd l 0 ≤ 2199023255552 → 536870912 ≤ rd l 0 * 2 ^ n →
    Ev (fun k => levin_scaled.l1 k l) (raise1 (dnN 12 (upN n l))) := by
  have hend : ∀ (l : List Int), 0 < l.length → l.length ≤ 1000 → 536870912 ≤ rd l 0 → rd l 0 ≤ 2199023255552 → Ev (fun k => levin_scaled.l3 k l) (raise1 (dnN 12 l)) :=
    fun l h0 hl h1 h2 => scaled_l3 12 l h0 hl h1 (by simp; omega) (by omega)
  induction n with
  | zero =>
    intro l h0 hl hw h1 h2 h3
    simp at h3
    refine Ev.step (fun k => by rw [levin_scaled.l1]) ?_
    exact evPos (by omega) (evNeg (by omega) (hend l h0 hl h3 h2))
  | succ n ih =>
    intro l h0 hl hw h1 h2 h3
    refine Ev.step (fun k => by rw [levin_scaled.l1]) ?_
    refine evPos (by omega) ?_
    unfold upN
    refine evIte (fun h => ?_) (fun h => ?_)
    · rw [if_pos h]
      have e : rd (l.map dbl) 0 = 2 * rd l 0 := by rw [rd_map _ _ _ (by omega) (by omega), dbl_small h1 h]
      have g := ih (l.map dbl) (by simpa using h0) (by simpa using hl) (within_dbl l) (by omega) (by omega) (by
        rw [e, Int.mul_comm 2, Int.mul_assoc, ← Int.pow_succ']
        exact h3)
      have g2 := scaled_l2 l.length l [] 0 l.length (r := raise1 (dnN 12 (upN n (l.map dbl)))) rfl rfl (by simp) (by simpa using hl) hw (by simpa using g)
      simpa using g2
    · rw [if_neg h]
      exact hend l h0 hl (by omega) h2
theorem scaled_l0 (n : Nat) : ∀ (S A : List Int) (i m : Int) {r : List Int}, S.length = n → i = A.length → m = ((A.length + S.length : Nat) : Int) → A.length + S.length ≤ 1000 →
    Ev (fun k => levin_scaled.l1 k ((A ++ S).map partC)) r → Ev (fun k => levin_scaled.l0 k (A.map partC ++ List.replicate n 0) (A ++ S) m i) r := by
  induction n with
  | zero =>
    intro S A i m r hn hi hm hl h
    have e1 : S = [] := List.eq_nil_of_length_eq_zero hn
    subst e1
    simp at hm hl
    refine Ev.step (fun k => by rw [levin_scaled.l0]) ?_
    exact evNeg (by omega) (by simpa using h)
  | succ n ih =>
    intro S A i m r hn hi hm hl h
    cases S with
    | nil => simp at hn
    | cons v S =>
      simp at hn hm hl
      refine Ev.step (fun k => by rw [levin_scaled.l0]) ?_
      rw [rd_mid A v S i hi, w64 (x := i + 1) (by omega) (by omega)]
      refine evPos (by omega) (evPos (by omega) (evPos (by simp; omega) (Ev.bind (fix_clamp _ _ _) (evPos (by simp; omega) ?_))))
      rw [List.replicate_succ, set_mid (A.map partC) 0 (List.replicate n 0) _ i (by simpa using hi)]
      have g := ih S (A ++ [v]) (i + 1) m (r := r) (by omega) (by simp; omega) (by simp; omega) (by simp; omega) (by simpa using h)
      simpa [partC] using g
theorem part_range {v : Int} (h : 1 ≤ v) : 1 ≤ partC v ∧ partC v ≤ 2199023255552 := by
  have := clamp_bounds (a := v) (lo := -2199023255552) (hi := 2199023255552) (by omega)
  unfold partC
  refine ⟨?_, this.2⟩
  unfold clamp
  split
  · omega
  · split <;> omega
theorem levin_scaled' (l : List Int) (h0 : 0 < l.length) (hl : l.length ≤ 1000) (h1 : 1 ≤ rd l 0) : Ev (fun k => levin_scaled.f k l) (raise1 (base l)) := by
  refine Ev.congr (fun k => by rw [levin_scaled.f]) ?_
  refine evPos (by omega) (evPos (by omega) ?_)
  have e : rd (l.map partC) 0 = partC (rd l 0) := rd_map _ _ _ (by omega) (by omega)
  have hp := part_range h1
  have g := scaled_l1 29 (l.map partC) (by simpa using h0) (by simpa using hl) (within_part l) (by omega) (by omega) (by rw [e]; simp; omega)
  have g2 := scaled_l0 l.length l [] 0 l.length (r := raise1 (base l)) rfl rfl (by simp) (by simpa using hl) (by simpa [base] using g)
  simpa using g2
def tN (r A : List Int) (m : Nat) : Nat → Int
  | 0 => rd r ((m : Int) + 1)
  | j + 1 => tN r A m j - mul (rd A j) (rd r ((m : Int) - j)) 24
def mir (r A : List Int) (m : Nat) (e : Int) : Int := clamp (divI (tN r A m m) e 24) (-16760438) 16760438
def aI (A : List Int) (m : Nat) (k : Int) (i : Nat) : Int := clamp (rd A i - mul k (rd A ((m : Int) - 1 - i)) 24) (-2147483648) 2147483648
def nextA (A : List Int) (m : Nat) (k : Int) : List Int := (List.range m).map (aI A m k) ++ [k]
def nextE (e k : Int) : Int := mx (mul e (16777216 - mul k k 24) 24) 1
def solveN (r : List Int) : Nat → Nat → List Int → Int → List Int
  | 0, _, A, _ => A
  | n + 1, m, A, e => solveN r n (m + 1) (nextA A m (mir r A m e)) (nextE e (mir r A m e))
def solved (l : List Int) : List Int := fit ((solveN (raise1 (base l)) (l.length - 1) 0 [] (rd (raise1 (base l)) 0)).map fun v => mul v 1 12)
theorem nextA_length (A : List Int) (m : Nat) (k : Int) : (nextA A m k).length = m + 1 := by simp [nextA]
theorem solveN_length (r : List Int) : ∀ (n m : Nat) (A : List Int) (e : Int), A.length = m → (solveN r n m A e).length = m + n
  | 0, m, A, e, h => by simpa [solveN] using h
  | n + 1, m, A, e, h => by
    unfold solveN
    rw [solveN_length r n (m + 1) _ _ (nextA_length _ _ _)]; omega
def Big (A : List Int) : Prop := Within 2147483648 A
theorem big_next (A : List Int) (m : Nat) (r : List Int) (e : Int) : Big (nextA A m (mir r A m e)) := by
  intro x hx
  unfold nextA at hx
  rcases List.mem_append.1 hx with h | h
  · obtain ⟨i, _, rfl⟩ := List.mem_map.1 h
    have := clamp_bounds (a := rd A i - mul (mir r A m e) (rd A ((m : Int) - 1 - i)) 24) (lo := -2147483648) (hi := 2147483648) (by omega)
    unfold aI; omega
  · simp at h
    have := clamp_bounds (a := divI (tN r A m m) e 24) (lo := -16760438) (hi := 16760438) (by omega)
    unfold mir at h; omega
theorem tN_bounds (r A : List Int) (m : Nat) (hr : Within 1125899906842625 r) (hm : m ≤ 100) : ∀ j : Nat, j ≤ 100 → -1125899906842625 - 274877906945 * j ≤ tN r A m j ∧ tN r A m j ≤ 1125899906842625 + 274877906945 * j
  | 0, _ => by have := rd_bounds (b := 1125899906842625) (by omega) hr ((m : Int) + 1); simp [tN]; omega
  | j + 1, h => by
    have ih := tN_bounds r A m hr hm j (by omega)
    have := mul24_bounds (rd A j) (rd r ((m : Int) - j))
    unfold tN; omega
theorem rd_left (A B : List Int) (i : Int) (h0 : 0 ≤ i) (h1 : i < A.length) : rd (A ++ B) i = rd A i := by
  rw [rd_in h0 (by simp; omega), rd_in (l := A) h0 (by omega), List.getElem_append_left (by omega)]
theorem solve_l3 (n : Nat) : ∀ (S A : List Int) (i m : Int), S.length = n → i = A.length → m = ((A.length + S.length : Nat) : Int) → A.length + S.length ≤ 32 →
    Ev (fun k => levin_Solve.l3 k (A.map (fun v => mul v 1 12) ++ S) m i) (fit ((A ++ S).map fun v => mul v 1 12), 0) := by
  induction n with
  | zero =>
    intro S A i m hn hi hm hl
    have e1 : S = [] := List.eq_nil_of_length_eq_zero hn
    subst e1
    simp at hm hl
    refine Ev.step (fun k => by rw [levin_Solve.l3]) ?_
    refine evNeg (by omega) ?_
    have h := lpc_fit (A.map fun v => mul v 1 12) (by simpa using hl)
    simp only [List.append_nil]
    exact Ev.bind h (Ev.now (fit (A.map fun v => mul v 1 12), (0 : Int)))
  | succ n ih =>
    intro S A i m hn hi hm hl
    cases S with
    | nil => simp at hn
    | cons v S =>
      simp at hn hm hl
      refine Ev.step (fun k => by rw [levin_Solve.l3]) ?_
      rw [rd_mid (A.map fun v => mul v 1 12) v S i (by simpa using hi), w64 (x := i + 1) (by omega) (by omega)]
      refine evPos (by omega) (evPos (by omega) (evPos (by simp; omega) (Ev.bind (fix_mul _ _ 12 (by omega) (by omega)) ?_)))
      rw [set_mid (A.map fun v => mul v 1 12) v S _ i (by simpa using hi)]
      have g := ih S (A ++ [v]) (i + 1) m (by omega) (by simp; omega) (by simp; omega) (by simp; omega)
      simpa using g
theorem solve_l2 (r A Z : List Int) (e kk : Int) (m : Nat) (hA : A.length = m) (hm : m ≤ 32) (hb : Big A) (ord : Int) (km : Int) (hkm : km = m) {res : List Int × Int} (x : Int) (d : Nat) : ∀ (i : Nat), i + d = m →
    Ev (fun k => levin_Solve.l0 k r (nextA A m kk ++ Z) (nextE e kk) ord (wrap64 (km + 1))) res →
    Ev (fun k => levin_Solve.l2 k r ((List.range i).map (aI A m kk) ++ A.drop i ++ x :: Z) e m kk A ord km m i) res := by
  induction d with
  | zero =>
    intro i hi h
    have e0 : i = m := by omega
    subst e0
    refine Ev.step (fun k => by rw [levin_Solve.l2]) ?_
    have e1 : A.drop i = [] := List.drop_eq_nil_of_le (by omega)
    rw [e1, List.append_nil]
    have b1 := mul24_bounds kk kk
    refine evNeg (by omega) (evPos (by omega) (evPos (by simp; omega) (Ev.bind (fix_mul _ _ 24 (by omega) (by omega)) ?_)))
    rw [w64 (x := 16777216 - _) (by omega) (by omega)]
    refine Ev.bind (fix_mul _ _ 24 (by omega) (by omega)) ?_
    rw [set_mid ((List.range i).map (aI A i kk)) x Z kk i (by simp)]
    have e2 : (List.range i).map (aI A i kk) ++ kk :: Z = nextA A i kk ++ Z := by simp [nextA]
    rw [e2]
    exact h
  | succ d ih =>
    intro i hi h
    refine Ev.step (fun k => by rw [levin_Solve.l2]) ?_
    have hb1 := rd_bounds (b := 2147483648) (by omega) hb (i : Int)
    have hb2 := mul24_bounds kk (rd A ((m : Int) - 1 - i))
    rw [w64 (x := (m : Int) - 1) (by omega) (by omega), w64 (x := (m : Int) - 1 - i) (by omega) (by omega), w64 (x := (i : Int) + 1) (by omega) (by omega)]
    refine evPos (by omega) (evPos (by omega) (evPos (by omega) (evPos (by omega) (evPos (by omega) (Ev.bind (fix_mul _ _ 24 (by omega) (by omega)) ?_)))))
    rw [w64 (x := rd A i - _) (by omega) (by omega)]
    refine Ev.bind (fix_clamp _ _ _) (evPos (by simp; omega) ?_)
    have e1 : A.drop i = A[i]'(by omega) :: A.drop (i + 1) := List.drop_eq_getElem_cons (by omega)
    rw [e1, List.append_assoc, List.cons_append, set_mid ((List.range i).map (aI A m kk)) _ _ _ i (by simp)]
    have g := ih (i + 1) (by omega) h
    rw [List.range_succ, List.map_append] at g
    simpa [aI] using g
theorem solve_l1 (r A Z : List Int) (e : Int) (m : Nat) (hA : A.length = m) (hm : m ≤ 31) (hb : Big A) (hr : Within 1125899906842625 r) (hrl : m + 1 < r.length) (ord km : Int) (hkm : km = m) {res : List Int × Int} (x : Int) (hZ : Z.length ≤ 100)
    (h : Ev (fun k => levin_Solve.l0 k r (nextA A m (mir r A m e) ++ Z) (nextE e (mir r A m e)) ord (wrap64 (km + 1))) res) (d : Nat) : ∀ (j : Nat), j + d = m →
    Ev (fun k => levin_Solve.l1 k r (A ++ x :: Z) e m (tN r A m j) ord km m j) res := by
  induction d with
  | zero =>
    intro j hj
    have e0 : j = m := by omega
    subst e0
    refine Ev.step (fun k => by rw [levin_Solve.l1]) ?_
    refine evNeg (by omega) (Ev.bind (fix_divI _ _ _) (Ev.bind (fix_clamp _ _ _) (Ev.bind (Ev.now _) (evPos (by omega) (evPos (by simp; omega) (Ev.bind (Ev.now _) ?_))))))
    have et : (A ++ x :: Z).take ((j : Int)).toNat = A := by rw [Int.toNat_natCast, ← hA]; simp
    rw [et]
    refine evPos (by simp; omega) ?_
    have g := solve_l2 r A Z e (mir r A j e) j hA (by omega) hb ord km hkm (res := res) x j 0 (by omega) h
    simpa [mir] using g
  | succ d ih =>
    intro j hj
    have hb1 := tN_bounds r A m hr (by omega) j (by omega)
    have hb2 := mul24_bounds (rd A j) (rd r ((m : Int) - j))
    refine Ev.step (fun k => by rw [levin_Solve.l1]) ?_
    rw [w64 (x := (m : Int) - j) (by omega) (by omega), w64 (x := (j : Int) + 1) (by omega) (by omega), rd_left A _ j (by omega) (by omega)]
    refine evPos (by omega) (evPos (by omega) (evPos (by simp; omega) (evPos (by omega) (evPos (by omega) (Ev.bind (fix_mul _ _ 24 (by omega) (by omega)) ?_)))))
    rw [w64 (x := tN r A m j - _) (by omega) (by omega)]
    exact ih (j + 1) (by omega)
theorem solve_l0 (r : List Int) (hr : Within 1125899906842625 r) (M : Nat) (hM : M ≤ 32) (hrl : r.length = M + 1) (n : Nat) : ∀ (m : Nat) (A : List Int) (e i ord : Int), m + n = M → A.length = m → Big A → i = m → ord = M →
    Ev (fun k => levin_Solve.l0 k r (A ++ List.replicate n 0) e ord i) (fit ((solveN r n m A e).map fun v => mul v 1 12), 0) := by
  induction n with
  | zero =>
    intro m A e i ord hm hA hb hi ho
    refine Ev.step (fun k => by rw [levin_Solve.l0]) ?_
    refine evNeg (by omega) ?_
    have g := solve_l3 A.length A [] 0 A.length rfl rfl (by simp) (by simp; omega)
    simpa [solveN] using g
  | succ n ih =>
    intro m A e i ord hm hA hb hi ho
    subst hi
    refine Ev.step (fun k => by rw [levin_Solve.l0]) ?_
    rw [w64 (x := (m : Int) + 1) (by omega) (by omega), List.replicate_succ]
    refine evPos (by omega) (evPos (by omega) (evPos (by omega) ?_))
    refine solve_l1 r A _ e m hA (by omega) hb hr (by omega) ord m rfl 0 (by simp; omega) ?_ m 0 (by omega)
    have g := ih (m + 1) (nextA A m (mir r A m e)) (nextE e (mir r A m e)) ((m + 1 : Nat) : Int) ord (by omega) (nextA_length _ _ _) (big_next A m r e) rfl ho
    rw [w64 (x := (m : Int) + 1) (by omega) (by omega)]
    exact g
theorem within_raise (l : List Int) (h0 : 0 < l.length) (h1 : 1 ≤ rd l 0) : Within 1125899906842625 (raise1 (base l)) := by
  intro x hx
  have hb := base_first l h0 h1
  unfold raise1 at hx
  rcases List.mem_or_eq_of_mem_set hx with h | h
  · have := within_base l x h; omega
  · omega
theorem levin_solve (l : List Int) (h1 : 2 ≤ l.length) (h2 : l.length ≤ 33) : Ev (fun k => levin_Solve.f k l) (if rd l 0 < 1 then List.replicate (l.length - 1) 0 else solved l, 0) := by
  refine Ev.congr (fun k => by rw [levin_Solve.f]) ?_
  refine evNeg (by omega) ?_
  rw [decide_eq_false (by omega)]
  refine Ev.step (fun k => by rw [levin_Solve.j0]) ?_
  have e1 : ((l.length : Int) - 1).toNat = l.length - 1 := by omega
  rw [w64 (x := (l.length : Int) - 1) (by omega) (by omega), e1]
  refine evNeg (by simp) (evPos (by omega) (evPos (by omega) (Ev.bind (Ev.now _) (evPos (by omega) (evIte (fun h => ?_) (fun h => ?_))))))
  · rw [if_pos h]; exact Ev.now _
  · rw [if_neg h]
    refine Ev.bind (levin_scaled' l (by omega) (by omega) (by omega)) ?_
    have e2 : (raise1 (base l)).length = l.length := by unfold raise1; rw [List.length_set, base_length]
    refine evPos (by omega) ?_
    have g := solve_l0 (raise1 (base l)) (within_raise l (by omega) (by omega)) (l.length - 1) (by omega) (by omega) (l.length - 1) 0 [] (rd (raise1 (base l)) 0) 0 ((l.length - 1 : Nat) : Int) (by omega) rfl (by intro x hx; simp at hx) rfl rfl
    simpa [solved] using g
theorem levin_solve_bad (l : List Int) (h : ¬ (2 ≤ l.length ∧ l.length ≤ 33)) : Ev (fun k => levin_Solve.f k l) ([], 1) := by
  have hj : ∀ b, b = true → Ev (fun k => levin_Solve.j0 k l b) ([], 1) := by
    intro b hb
    refine Ev.step (fun k => by rw [levin_Solve.j0]) ?_
    exact evPos hb (Ev.now _)
  refine Ev.congr (fun k => by rw [levin_Solve.f]) ?_
  refine evIte (fun _ => hj _ rfl) (fun h1 => hj _ (decide_eq_true (by omega)))
end Go.Proofs.Ytllglpcpjeggcaa.Q
namespace Go.Proofs.Ytllglpcpjeggcaa.Q
open Go.RowKit Go.Proofs.Ytllglpcpjeggcaa.P Go.Proofs.YtllglpcpjeggcaaW.PrintWords Go.Proofs.YtllglpcpjeggcaaW.PrintLast Go.Proofs.YtllglpcpjeggcaaW.PrintMore
open Go.Proofs.Ytllglpcpjeggcaa.M
set_option linter.unusedVariables false
theorem ref_clamp (a lo hi : Int) : Ev (fun k => madrigalref1_Clamp.f k a lo hi) (clamp a lo hi) := by
  have hj : ∀ b, Ev (fun k => madrigalref1_Clamp.j0 k a lo hi b) (if b = true then lo else if a > hi then hi else a) := by
    intro b
    refine Ev.step (fun k => by rw [madrigalref1_Clamp.j0]) ?_
    refine evConst ?_
    cases b <;> simp <;> split <;> rfl
  refine Ev.congr (fun k => by rw [madrigalref1_Clamp.f]) ?_
  refine evIte (fun h => ?_) (fun h => ?_)
  · exact evEq (hj true) (by unfold clamp; simp [h])
  · exact evEq (hj _) (by unfold clamp; simp [h])
end Go.Proofs.Ytllglpcpjeggcaa.Q
namespace Go.Proofs.Ytllglpcpjeggcaa.Q
open Go.RowKit Go.Proofs.Ytllglpcpjeggcaa.P Go.Proofs.YtllglpcpjeggcaaW.PrintWords Go.Proofs.YtllglpcpjeggcaaW.PrintLast Go.Proofs.YtllglpcpjeggcaaW.PrintMore
open Go.Proofs.Ytllglpcpjeggcaa.M
set_option linter.unusedVariables false
theorem uw64 {x : Int} (h0 : 0 ≤ x) (h1 : x < 18446744073709551616) : IntKind.u64.wrap x = x := by
  show x % 18446744073709551616 = x
  exact Int.emod_eq_of_lt h0 h1
theorem round_two (p P : Int) (hP : 1 ≤ P) : (p + P) / (2 * P) = if p % (2 * P) ≥ P then p / (2 * P) + 1 else p / (2 * P) := by
  have hmod := Int.emod_nonneg p (show 2 * P ≠ 0 by omega)
  have hlt := Int.emod_lt_of_pos p (show 0 < 2 * P by omega)
  have hd := Int.mul_ediv_add_emod p (2 * P)
  split
  · refine (Int.ediv_emod_unique (a := p + P) (b := 2 * P) (r := p % (2 * P) - P) (q := p / (2 * P) + 1) (by omega)).2 ⟨?_, by omega, by omega⟩ |>.1
    rw [Int.mul_add]; omega
  · exact ((Int.ediv_emod_unique (a := p + P) (b := 2 * P) (r := p % (2 * P) + P) (q := p / (2 * P)) (by omega)).2 ⟨by omega, by omega, by omega⟩).1
theorem ref_mul (a b s : Int) (hs0 : -9223372036854775808 ≤ s) (hs1 : s ≤ 9223372036854775807) : Ev (fun k => madrigalref1_Mul.f k a b s) (mul a b s) := by
  have hp := fac_prod a b
  refine Ev.congr (fun k => by rw [madrigalref1_Mul.f]) (Ev.bind (ref_clamp a _ _) (Ev.bind (ref_clamp b _ _) ?_))
  have e : clamp a (-2147483648) 2147483648 * clamp b (-2147483648) 2147483648 = fac a * fac b := rfl
  rw [e, w64 (x := fac a * fac b) (by omega) (by omega)]
  have hno : ∀ t, t = true → Ev (fun k => madrigalref1_Mul.j0 k s (fac a * fac b) t) 0 := by
    intro t ht
    refine Ev.step (fun k => by rw [madrigalref1_Mul.j0]) ?_
    exact evPos ht (Ev.now _)
  unfold mul
  by_cases h1 : s < 0
  · rw [if_neg (show ¬ s = 0 by omega), if_pos h1]
    exact evPos h1 (hno _ rfl)
  · refine evNeg h1 ?_
    by_cases h2 : s > 62
    · rw [if_neg (show ¬ s = 0 by omega), if_neg h1, if_pos h2]
      exact hno _ (decide_eq_true h2)
    · rw [decide_eq_false h2]
      refine Ev.step (fun k => by rw [madrigalref1_Mul.j0]) ?_
      refine evNeg (by simp) (evIte (fun h3 => ?_) (fun h3 => ?_))
      · rw [if_pos h3]; exact Ev.now _
      · rw [if_neg h3, if_neg h1, if_neg h2, w64 (x := s - 1) (by omega) (by omega), uw64 (x := s - 1) (by omega) (by omega), uw64 (x := s) (by omega) (by omega), shl1_64 (by omega) (by omega), shr_64 (by omega)]
        have hs2 : s.toNat = (s - 1).toNat + 1 := by omega
        have e2 : (2 : Int) ^ s.toNat = 2 * 2 ^ (s - 1).toNat := by rw [hs2, pow_next]
        have hq := pow_61 (n := (s - 1).toNat) (by omega)
        have hr := round_two (fac a * fac b) (2 ^ (s - 1).toNat) hq.1
        have hmod := Int.emod_nonneg (fac a * fac b) (show 2 * 2 ^ (s - 1).toNat ≠ 0 by omega)
        have hlt := Int.emod_lt_of_pos (fac a * fac b) (show 0 < 2 * 2 ^ (s - 1).toNat by omega)
        have hd := Int.mul_ediv_add_emod (fac a * fac b) (2 * 2 ^ (s - 1).toNat)
        rw [Int.mul_comm] at hd
        have hq1 : -4611686018427387904 ≤ fac a * fac b / (2 * 2 ^ (s - 1).toNat) ∧ fac a * fac b / (2 * 2 ^ (s - 1).toNat) ≤ 4611686018427387904 := by
          have h := Int.natAbs_ediv_le_natAbs (fac a * fac b) (2 * 2 ^ (s - 1).toNat)
          omega
        rw [shl_64 (by omega) (by rw [e2]; omega) (by rw [e2]; omega), e2, w64 (x := fac a * fac b - _) (by omega) (by omega), w64 (x := _ + 1) (by omega) (by omega), hr]
        refine evPos (by omega) (evPos (by omega) (evIte (fun h4 => ?_) (fun h4 => ?_)))
        · rw [if_pos (by omega)]; exact Ev.now _
        · rw [if_neg (by omega)]; exact Ev.now _
end Go.Proofs.Ytllglpcpjeggcaa.Q
namespace Go.Proofs.Ytllglpcpjeggcaa.Q
open Go.RowKit Go.Proofs.Ytllglpcpjeggcaa.P Go.Proofs.YtllglpcpjeggcaaW.PrintWords Go.Proofs.YtllglpcpjeggcaaW.PrintLast Go.Proofs.YtllglpcpjeggcaaW.PrintMore
set_option linter.unusedVariables false
theorem ref_down {a d : Int} (hd : 1 ≤ d) (h0 : -9223372036854775807 ≤ a) (h1 : a ≤ 9223372036854775807) : madrigalref1_Down.f a d = some (a / d) := by
  unfold madrigalref1_Down.f
  rw [if_neg (by omega)]
  have hmod := Int.emod_nonneg a (show d ≠ 0 by omega)
  have hlt := Int.emod_lt_of_pos a (show 0 < d by omega)
  have he := Int.mul_ediv_add_emod a d
  have hbs : d.sign = 1 := Int.sign_eq_one_of_pos (by omega)
  have hm : Int.tmod a d = a - d * Int.tdiv a d := by have := Int.mul_tdiv_add_tmod a d; omega
  have hq2 : a / d ≤ 9223372036854775807 := by
    by_cases h : 0 ≤ a
    · have := Int.ediv_le_self d h; omega
    · have : a / d < 0 := Int.ediv_neg_of_neg_of_pos (by omega) (by omega)
      omega
  have hq1 : -9223372036854775807 ≤ a / d := by
    rw [Int.le_ediv_iff_mul_le (by omega)]
    have : (-9223372036854775807 : Int) * d ≤ -9223372036854775807 * 1 := Int.mul_le_mul_of_nonpos_left (by omega) (by omega)
    omega
  have ht : Int.tdiv a d = if 0 ≤ a ∨ a % d = 0 then a / d else a / d + 1 := by
    rw [Int.tdiv_eq_ediv, hbs]
    by_cases h : 0 ≤ a
    · rw [if_pos (.inl h), if_pos (.inl h)]; omega
    · by_cases h2 : a % d = 0
      · rw [if_pos (.inr (Int.dvd_of_emod_eq_zero h2)), if_pos (.inr h2)]; omega
      · rw [if_neg, if_neg]
        · rintro (h3 | h3)
          · exact h h3
          · exact h2 h3
        · rintro (h3 | h3)
          · exact h h3
          · exact h2 (Int.emod_eq_zero_of_dvd h3)
  by_cases h : 0 ≤ a ∨ a % d = 0
  · rw [if_pos h] at ht
    rw [hm, ht, if_neg (by omega), w64 (by omega) (by omega)]
  · rw [if_neg h] at ht
    have hmul : d * (a / d + 1) = d * (a / d) + d := by rw [Int.mul_add]; omega
    have hneg : a / d < 0 := Int.ediv_neg_of_neg_of_pos (by omega) (by omega)
    rw [hm, ht, if_pos (by omega), w64 (x := a / d + 1) (by omega) (by omega), w64 (by omega) (by omega)]
    congr 1
    omega
end Go.Proofs.Ytllglpcpjeggcaa.Q
namespace Go.Proofs.Ytllglpcpjeggcaa.Q
open Go.RowKit Go.Proofs.Ytllglpcpjeggcaa.P Go.Proofs.YtllglpcpjeggcaaW.PrintWords Go.Proofs.YtllglpcpjeggcaaW.PrintLast Go.Proofs.YtllglpcpjeggcaaW.PrintMore
open Go.Proofs.Ytllglpcpjeggcaa.M
set_option linter.unusedVariables false
theorem ref_div (a b s : Int) (hs0 : -9223372036854775808 ≤ s) (hs1 : s ≤ 9223372036854775807) : Ev (fun k => madrigalref1_Div.f k a b s) (divI a b s) := by
  have hb := fac_bounds b
  have ha := fac_bounds a
  have hno : ∀ t, t = true → Ev (fun k => madrigalref1_Div.j0 k (fac a) (fac b) s t) 0 := by
    intro t ht
    refine Ev.step (fun k => by rw [madrigalref1_Div.j0]) ?_
    exact evPos ht (Ev.now _)
  have e1 : clamp a (-2147483648) 2147483648 = fac a := rfl
  have e2 : clamp b (-2147483648) 2147483648 = fac b := rfl
  refine Ev.congr (fun k => by rw [madrigalref1_Div.f]) (Ev.bind (evEq (ref_clamp a _ _) e1) (Ev.bind (evEq (ref_clamp b _ _) e2) ?_))
  unfold divI
  refine evIte (fun h => ?_) (fun h => ?_)
  · rw [if_pos h]; exact hno _ rfl
  · rw [if_neg h]
    refine evIte (fun h1 => ?_) (fun h1 => ?_)
    · rw [if_pos h1]; exact hno _ rfl
    · rw [if_neg h1]
      by_cases h2 : s > 30
      · rw [if_pos h2]; exact hno _ (decide_eq_true h2)
      · rw [if_neg h2, decide_eq_false h2]
        refine Ev.step (fun k => by rw [madrigalref1_Div.j0]) ?_
        have hu := up_bounds ha (show s ≤ 30 by omega)
        have en : -(fac a) * 2 ^ s.toNat = -(fac a * 2 ^ s.toNat) := Int.neg_mul _ _
        rw [uw64 (x := s) (by omega) (by omega), shl1_64 (by omega) (by omega), w64 (x := -(fac a)) (by omega) (by omega), w64 (x := -(fac b)) (by omega) (by omega), en, w64 (x := fac a * 2 ^ s.toNat) (by omega) (by omega), w64 (x := -(fac a * 2 ^ s.toNat)) (by omega) (by omega)]
        refine evNeg (by simp) (evIte (fun h3 => ?_) (fun h3 => ?_))
        · rw [if_pos h3, ref_down (by omega) (by omega) (by omega)]
          exact evPos (by omega) (Ev.bind (Ev.now _) (Ev.now _))
        · rw [if_neg h3, ref_down (by omega) (by omega) (by omega)]
          exact evPos (by omega) (Ev.bind (Ev.now _) (Ev.now _))
end Go.Proofs.Ytllglpcpjeggcaa.Q
namespace Go.Proofs.Ytllglpcpjeggcaa.Q
open Go.RowKit Go.Proofs.Ytllglpcpjeggcaa.P Go.Proofs.YtllglpcpjeggcaaW.PrintWords Go.Proofs.YtllglpcpjeggcaaW.PrintLast Go.Proofs.YtllglpcpjeggcaaW.PrintMore
open Go.Proofs.Ytllglpcpjeggcaa.M
set_option linter.unusedVariables false
theorem ref_clamped_l0 (lo hi : Int) (n : Nat) : ∀ (S A R : List Int) (i : Int), S.length = n → i = A.length → R.length = A.length → A.length + S.length ≤ 1000000 →
    Ev (fun k => madrigalref6_clamped.l0 k (A ++ S) lo hi R i) (R ++ S.map fun v => clamp v lo hi) := by
  induction n with
  | zero =>
    intro S A R i hn hi hr hb
    have e1 : S = [] := List.eq_nil_of_length_eq_zero hn
    subst e1
    refine Ev.step (fun k => by rw [madrigalref6_clamped.l0]) ?_
    refine evNeg (by simp; omega) ?_
    simpa using Ev.now R
  | succ n ih =>
    intro S A R i hn hii hr hb
    cases S with
    | nil => simp at hn
    | cons s S =>
      simp at hn hb
      refine Ev.step (fun k => by rw [madrigalref6_clamped.l0]) ?_
      refine evPos (by simp; omega) (evPos (by omega) ?_)
      rw [rd_mid A s S i hii]
      refine Ev.bind (ref_clamp s lo hi) (evPos (by omega) ?_)
      rw [w64 (x := i + 1) (by omega) (by omega)]
      have h := ih S (A ++ [s]) (R ++ [clamp s lo hi]) (i + 1) (by omega) (by simp; omega) (by simp; omega) (by simp; omega)
      simpa using h
theorem ref_clamped (l : List Int) (lo hi : Int) (h : l.length ≤ 1000000) : Ev (fun k => madrigalref6_clamped.f k l lo hi) (l.map fun v => clamp v lo hi) := by
  refine Ev.congr (fun k => by rw [madrigalref6_clamped.f]) ?_
  have := ref_clamped_l0 lo hi l.length l [] [] 0 rfl rfl rfl (by simpa using h)
  simpa using this
end Go.Proofs.Ytllglpcpjeggcaa.Q
namespace Go.Proofs.Ytllglpcpjeggcaa.Q
open Go.RowKit Go.Proofs.Ytllglpcpjeggcaa.P Go.Proofs.YtllglpcpjeggcaaW.PrintWords Go.Proofs.YtllglpcpjeggcaaW.PrintLast Go.Proofs.YtllglpcpjeggcaaW.PrintMore
open Go.Proofs.Ytllglpcpjeggcaa.M
set_option linter.unusedVariables false
theorem rchirp_l1 (c : Int) (X : List Int) (out : List Int) (i : Int) (hi0 : 0 ≤ i) (hi : i ≤ 1000) (ho : out.length ≤ 1000) {r : List Int} (n : Nat) : ∀ (j v : Int), j + n = i + 1 → 0 ≤ j →
    Ev (fun k => madrigalref6_Chirp.l0 k X c (out ++ [chE c n v]) (wrap64 (i + 1))) r → Ev (fun k => madrigalref6_Chirp.l1 k X c out i v j) r := by
  induction n with
  | zero =>
    intro j v hj h0 h
    refine Ev.step (fun k => by rw [madrigalref6_Chirp.l1]) ?_
    exact evNeg (by omega) (evPos (by omega) h)
  | succ n ih =>
    intro j v hj h0 h
    refine Ev.step (fun k => by rw [madrigalref6_Chirp.l1]) ?_
    rw [w64 (x := j + 1) (by omega) (by omega)]
    refine evPos (by omega) (Ev.bind (ref_mul v c 16 (by omega) (by omega)) ?_)
    exact ih (j + 1) _ (by omega) (by omega) h
theorem rchirp_l0 (c : Int) (n : Nat) : ∀ (S A D : List Int) (i : Int), S.length = n → D.length = A.length → i = A.length → A.length + S.length ≤ 100 →
    Ev (fun k => madrigalref6_Chirp.l0 k (A ++ S) c D i) (D ++ chirpL c A.length S) := by
  induction n with
  | zero =>
    intro S A D i hn hd hi hl
    have e1 : S = [] := List.eq_nil_of_length_eq_zero hn
    subst e1
    refine Ev.step (fun k => by rw [madrigalref6_Chirp.l0]) ?_
    refine evNeg (by simp; omega) ?_
    simpa [chirpL] using Ev.now D
  | succ n ih =>
    intro S A D i hn hd hi hl
    cases S with
    | nil => simp at hn
    | cons v S =>
      simp at hn hl
      refine Ev.step (fun k => by rw [madrigalref6_Chirp.l0]) ?_
      refine evPos (by simp; omega) (evPos (by omega) ?_)
      rw [rd_mid A v S i hi]
      refine rchirp_l1 c _ D i (by omega) (by omega) (by omega) (A.length + 1) 0 v (by omega) (by omega) ?_
      rw [w64 (x := i + 1) (by omega) (by omega)]
      have h := ih S (A ++ [v]) (D ++ [chE c (A.length + 1) v]) (i + 1) (by omega) (by simp; omega) (by simp; omega) (by simp; omega)
      simpa [chirpL] using h
theorem ref_chirp (l : List Int) (c : Int) (hl : l.length ≤ 32) : Ev (fun k => madrigalref6_Chirp.f k l c) (chirp l c) := by
  refine Ev.congr (fun k => by rw [madrigalref6_Chirp.f]) ?_
  refine evNeg (by omega) (Ev.bind (ref_clamp c 0 65536) ?_)
  have h := rchirp_l0 (clamp c 0 65536) l.length l [] [] 0 rfl rfl rfl (by simp; omega)
  exact h
def nextB' (r d : Int) (old : List Int) (m i : Nat) : Int := clamp (divI (rd old i + mul r (rd old ((m : Int) - 1 - i)) 24) d 24) (-2147483648) 2147483648
theorem nextB_eq (r d : Int) (old : List Int) (m i : Nat) (hd : 1 ≤ d ∧ d ≤ 16777216) : nextB' r d old m i = nextB r d old m i := by
  unfold nextB' nextB divI
  rw [fac_id (a := d) (by omega) (by omega), if_neg (by omega), if_neg (by omega), if_neg (by omega), if_neg (by omega)]
theorem rd_left' (A B : List Int) (i : Int) (h0 : 0 ≤ i) (h1 : i < A.length) : rd (A ++ B) i = rd A i := by
  rw [rd_in h0 (by simp; omega), rd_in (l := A) h0 (by omega), List.getElem_append_left (by omega)]
theorem rstab_l2 (r d : Int) (old J : List Int) (m : Nat) (hm : m ≤ 32) (hr : -16760438 ≤ r ∧ r ≤ 16760438) (hd : 1 ≤ d ∧ d ≤ 16777216) (ho : old.length = m) (hJ : J.length ≤ 60) (hob : ∀ x ∈ old, -2147483648 ≤ x ∧ x ≤ 2147483648) {res : Bool} (n : Nat) :
    ∀ (i : Nat) (R : List Int), i + n = m → n ≤ R.length → R.length ≤ 100 →
    (Ev (fun k => madrigalref6_Stable.l1 k ((List.range m).map (nextB r d old m) ++ R.drop n) ((m : Int) - 1)) res) →
    Ev (fun k => madrigalref6_Stable.l2 k ((List.range i).map (nextB r d old m) ++ R) m r d (old ++ J) i) res := by
  induction n with
  | zero =>
    intro i R hi hR hRl h
    have e : i = m := by omega
    subst e
    refine Ev.step (fun k => by rw [madrigalref6_Stable.l2]) ?_
    rw [w64 (x := (i : Int) - 1) (by omega) (by omega)]
    exact evNeg (by omega) (by simpa using h)
  | succ n ih =>
    intro i R hi hR hRl h
    cases R with
    | nil => simp at hR
    | cons x R =>
      simp at hR hRl
      refine Ev.step (fun k => by rw [madrigalref6_Stable.l2]) ?_
      have hb1 := rd_bounds (b := 2147483648) (by omega) hob (i : Int)
      have hb2 := mul24_bounds r (rd old ((m : Int) - 1 - i))
      rw [w64 (x := (m : Int) - 1) (by omega) (by omega), w64 (x := (m : Int) - 1 - i) (by omega) (by omega), w64 (x := (i : Int) + 1) (by omega) (by omega), rd_left' old J i (by omega) (by omega), rd_left' old J ((m : Int) - 1 - i) (by omega) (by omega)]
      refine evPos (by omega) (evPos (by omega) (evPos (by simp; omega) (evPos (by omega) (evPos (by simp; omega) (Ev.bind (ref_mul _ _ 24 (by omega) (by omega)) ?_)))))
      rw [w64 (x := rd old i + _) (by omega) (by omega)]
      refine Ev.bind (ref_div _ d 24 (by omega) (by omega)) (Ev.bind (ref_clamp _ _ _) (evPos (by simp; omega) ?_))
      rw [set_mid ((List.range i).map (nextB r d old m)) x R _ i (by simp)]
      have h3 := ih (i + 1) R (by omega) (by omega) (by omega) (by simpa using h)
      rw [List.range_succ, List.map_append] at h3
      have e9 := nextB_eq r d old m i hd
      unfold nextB' at e9
      rw [e9]
      simpa using h3
theorem rstab_l1 (m : Nat) : ∀ (P J : List Int), P.length = m → m ≤ 32 → J.length ≤ 40 → P.length + J.length ≤ 40 → (∀ x ∈ P, -2147483648 ≤ x ∧ x ≤ 2147483648) → Ev (fun k => madrigalref6_Stable.l1 k (P ++ J) ((m : Int) - 1)) (stabN m P) := by
  induction m with
  | zero =>
    intro P J hP hm hJ hJ2 hb
    refine Ev.step (fun k => by rw [madrigalref6_Stable.l1]) ?_
    exact evNeg (by omega) (Ev.now _)
  | succ m ih =>
    intro P J hP hm hJ hJ2 hb
    have e0 : ((m + 1 : Nat) : Int) - 1 = (m : Int) := by omega
    rw [e0]
    have hrd : rd (P ++ J) (m : Int) = rd P m := rd_left' P J m (by omega) (by omega)
    refine Ev.step (fun k => by rw [madrigalref6_Stable.l1]) ?_
    refine evPos (by omega) (evPos (by omega) (evPos (by simp; omega) ?_))
    rw [hrd]
    unfold stabN
    have hno : ∀ b, b = true → Ev (fun k => madrigalref6_Stable.j2 k (P ++ J) m (rd P m) b) false := by
      intro b hb
      refine Ev.step (fun k => by rw [madrigalref6_Stable.j2]) ?_
      exact evPos hb (Ev.now _)
    refine evIte (fun h => ?_) (fun h => ?_)
    · rw [if_pos h]; exact hno _ rfl
    · rw [if_neg h]
      by_cases h2 : rd P m < -16760438
      · rw [if_pos h2]; exact hno _ (decide_eq_true h2)
      · rw [if_neg h2, decide_eq_false h2]
        have hr : -16760438 ≤ rd P m ∧ rd P m ≤ 16760438 := by omega
        have hd := d_bounds hr
        refine Ev.step (fun k => by rw [madrigalref6_Stable.j2]) ?_
        refine evNeg (by simp) (Ev.bind (ref_mul _ _ 24 (by omega) (by omega)) (Ev.bind (Ev.now _) (evPos (by simp; omega) ?_)))
        rw [w64 (x := 16777216 - _) (by omega) (by omega), List.nil_append]
        have key := ih ((List.range m).map (nextB (rd P m) (16777216 - mul (rd P m) (rd P m) 24) (P.take m) m)) ((P ++ J).drop m) (by simp) (by omega) (by simp; omega) (by simp; omega) (by
          intro x hx
          obtain ⟨i, _, rfl⟩ := List.mem_map.1 hx
          exact clamp_bounds (by omega))
        have h5 := rstab_l2 (rd P m) (16777216 - mul (rd P m) (rd P m) 24) (P.take m) ((P ++ J).drop m) m (by omega) hr hd (by simp; omega) (by simp; omega) (fun x hx => hb x (List.mem_of_mem_take hx)) (res := stabN m ((List.range m).map (nextB (rd P m) (16777216 - mul (rd P m) (rd P m) 24) (P.take m) m))) m 0 (P ++ J) (by omega) (by simp; omega) (by simp; omega) key
        have et : P.take m ++ (P ++ J).drop m = P ++ J := by
          have : P.take m = (P ++ J).take m := by rw [List.take_append_of_le_length (by omega)]
          rw [this, List.take_append_drop]
        rw [et] at h5
        simpa using h5
theorem rstab_l0 (n : Nat) : ∀ (S A : List Int) (i : Int), S.length = n → i = A.length → A.length + S.length ≤ 32 → (∀ x ∈ S, -131072 ≤ x ∧ x ≤ 131072) → (∀ x ∈ A, -536870912 ≤ x ∧ x ≤ 536870912) →
    Ev (fun k => madrigalref6_Stable.l0 k (A ++ S) i) (stabN (A.length + S.length) (A ++ S.map fun v => 4096 * v)) := by
  induction n with
  | zero =>
    intro S A i hn hi hl hS hA
    have e1 : S = [] := List.eq_nil_of_length_eq_zero hn
    subst e1
    simp at hl
    refine Ev.step (fun k => by rw [madrigalref6_Stable.l0]) ?_
    refine evNeg (by simp; omega) ?_
    have h := rstab_l1 A.length A [] rfl hl (by simp) (by simp; omega) (fun x hx => by have := hA x hx; omega)
    have e : wrap64 (((A ++ []).length : Int) - 1) = (A.length : Int) - 1 := by simp; exact w64 (by omega) (by omega)
    rw [e]
    simpa using h
  | succ n ih =>
    intro S A i hn hi hl hS hA
    cases S with
    | nil => simp at hn
    | cons v S =>
      simp at hn hl
      have hv := hS v (by simp)
      refine Ev.step (fun k => by rw [madrigalref6_Stable.l0]) ?_
      refine evPos (by simp; omega) (evPos (by omega) ?_)
      rw [rd_mid A v S i hi, w64 (x := i + 1) (by omega) (by omega), w64 (x := v * 4096) (by omega) (by omega), set_mid A v S _ i hi]
      have h := ih S (A ++ [v * 4096]) (i + 1) (by omega) (by simp; omega) (by simp; omega) (fun x hx => hS x (by simp [hx])) (by
        intro x hx
        rcases List.mem_append.1 hx with hx | hx
        · exact hA x hx
        · simp at hx; omega)
      have e1 : A.length + (v :: S).length = (A ++ [v * 4096]).length + S.length := by simp; omega
      have e2 : A ++ (v :: S).map (fun v => 4096 * v) = (A ++ [v * 4096]) ++ S.map fun v => 4096 * v := by simp [Int.mul_comm]
      rw [e1, e2]
      simpa using h
theorem ref_stable (l : List Int) : Ev (fun k => madrigalref6_Stable.f k l) (stable l) := by
  refine Ev.congr (fun k => by rw [madrigalref6_Stable.f]) ?_
  unfold stable
  refine evIte (fun h => ?_) (fun h => ?_)
  · rw [if_pos h]; exact Ev.now _
  · rw [if_neg h]
    refine Ev.bind (ref_clamped l _ _ (by omega)) ?_
    have h2 := rstab_l0 l.length (l.map fun v => clamp v (-131072) 131072) [] 0 (by simp) rfl (by simp; omega) (by
      intro x hx
      obtain ⟨v, _, rfl⟩ := List.mem_map.1 hx
      exact clamp_bounds (by omega)) (by intro x hx; simp at hx)
    have e : scaled l = (l.map fun v => clamp v (-131072) 131072).map fun v => 4096 * v := by
      unfold scaled; rw [List.map_map]; rfl
    rw [e]
    simpa using h2
theorem rfit_l0 (x : List Int) (hx : x.length ≤ 32) (n : Nat) : ∀ (l : List Int) (r : Int), l.length = x.length → r + n = 17 → 1 ≤ r → Ev (fun k => madrigalref6_Fit.l0 k x l r) (fitN n r l) := by
  induction n with
  | zero =>
    intro l r hl hr h1
    refine Ev.step (fun k => by rw [madrigalref6_Fit.l0]) ?_
    refine evNeg (by omega) (Ev.bind (ref_stable l) ?_)
    unfold fitN settle
    refine evIte (fun h => ?_) (fun h => ?_)
    · rw [if_pos h]; exact Ev.now _
    · rw [if_neg h]
      refine evPos (by omega) (evPos (by omega) ?_)
      rw [Int.toNat_natCast, hl]
      exact Ev.now _
  | succ n ih =>
    intro l r hl hr h1
    refine Ev.step (fun k => by rw [madrigalref6_Fit.l0]) ?_
    refine evPos (by omega) (Ev.bind (ref_stable l) ?_)
    unfold fitN
    refine evIte (fun h => ?_) (fun h => ?_)
    · rw [if_pos h]; exact Ev.now _
    · rw [if_neg h, w64 (x := 2048 * r) (by omega) (by omega), w64 (x := 65536 - 2048 * r) (by omega) (by omega), w64 (x := r + 1) (by omega) (by omega)]
      exact Ev.bind (ref_chirp l _ (by omega)) (ih _ _ (by unfold chirp; rw [chirpL_length]; exact hl) (by omega) (by omega))
theorem ref_fit (l : List Int) (hl : l.length ≤ 32) : Ev (fun k => madrigalref6_Fit.f k l) (fit l) := by
  refine Ev.congr (fun k => by rw [madrigalref6_Fit.f]) ?_
  refine evNeg (by omega) (Ev.bind (ref_clamped l _ _ (by omega)) ?_)
  have h := rfit_l0 l hl 16 (held l) 1 (by simp [held]) (by omega) (by omega)
  exact h
end Go.Proofs.Ytllglpcpjeggcaa.Q
namespace Go.Proofs.Ytllglpcpjeggcaa.Q
open Go.RowKit Go.Proofs.Ytllglpcpjeggcaa.P Go.Proofs.YtllglpcpjeggcaaW.PrintWords Go.Proofs.YtllglpcpjeggcaaW.PrintLast Go.Proofs.YtllglpcpjeggcaaW.PrintMore
open Go.Proofs.Ytllglpcpjeggcaa.M
set_option linter.unusedVariables false
theorem rsolve_l7 (n : Nat) : ∀ (S A : List Int) (i : Int), S.length = n → i = A.length → A.length + S.length ≤ 32 →
    Ev (fun k => madrigalref6_Solve.l7 k (A.map (fun v => mul v 1 12) ++ S) i) (fit ((A ++ S).map fun v => mul v 1 12)) := by
  induction n with
  | zero =>
    intro S A i hn hi hl
    have e1 : S = [] := List.eq_nil_of_length_eq_zero hn
    subst e1
    simp at hl
    refine Ev.step (fun k => by rw [madrigalref6_Solve.l7]) ?_
    refine evNeg (by simp; omega) ?_
    have h := ref_fit (A.map fun v => mul v 1 12) (by simpa using hl)
    simp only [List.append_nil]
    exact Ev.bind h (Ev.now _)
  | succ n ih =>
    intro S A i hn hi hl
    cases S with
    | nil => simp at hn
    | cons v S =>
      simp at hn hl
      refine Ev.step (fun k => by rw [madrigalref6_Solve.l7]) ?_
      rw [rd_mid (A.map fun v => mul v 1 12) v S i (by simpa using hi), w64 (x := i + 1) (by omega) (by omega)]
      refine evPos (by simp; omega) (evPos (by omega) (Ev.bind (ref_mul _ _ 12 (by omega) (by omega)) ?_))
      rw [set_mid (A.map fun v => mul v 1 12) v S _ i (by simpa using hi)]
      have g := ih S (A ++ [v]) (i + 1) (by omega) (by simp; omega) (by simp; omega)
      simpa using g
theorem rsolve_l6 (r A : List Int) (e kk ord : Int) (m : Nat) (hA : A.length = m) (hm : m ≤ 32) (hb : Big A) {res : List Int} (d : Nat) : ∀ (i : Nat), i + d = m →
    Ev (fun k => madrigalref6_Solve.l4 k r ord (nextE e kk) (nextA A m kk) (wrap64 ((m : Int) + 1))) res →
    Ev (fun k => madrigalref6_Solve.l6 k r ord e A m kk ((List.range i).map (aI A m kk)) i) res := by
  induction d with
  | zero =>
    intro i hi h
    have e0 : i = m := by omega
    subst e0
    refine Ev.step (fun k => by rw [madrigalref6_Solve.l6]) ?_
    have b1 := mul24_bounds kk kk
    refine evNeg (by omega) (evPos (by simp; omega) (Ev.bind (Ev.now _) (Ev.bind (ref_mul _ _ 24 (by omega) (by omega)) ?_)))
    rw [w64 (x := 16777216 - _) (by omega) (by omega)]
    refine Ev.bind (ref_mul _ _ 24 (by omega) (by omega)) ?_
    unfold nextE mx at h
    refine evIte (fun h1 => ?_) (fun h1 => ?_)
    · rw [if_pos (by omega)] at h; exact h
    · rw [if_neg (by omega)] at h; exact h
  | succ d ih =>
    intro i hi h
    refine Ev.step (fun k => by rw [madrigalref6_Solve.l6]) ?_
    have hb1 := rd_bounds (b := 2147483648) (by omega) hb (i : Int)
    have hb2 := mul24_bounds kk (rd A ((m : Int) - 1 - i))
    rw [w64 (x := (m : Int) - 1) (by omega) (by omega), w64 (x := (m : Int) - 1 - i) (by omega) (by omega), w64 (x := (i : Int) + 1) (by omega) (by omega)]
    refine evPos (by omega) (evPos (by omega) (evPos (by omega) (evPos (by omega) (evPos (by omega) (Ev.bind (ref_mul _ _ 24 (by omega) (by omega)) ?_)))))
    rw [w64 (x := rd A i - _) (by omega) (by omega)]
    refine Ev.bind (ref_clamp _ _ _) (evPos (by simp; omega) ?_)
    have g := ih (i + 1) (by omega) h
    rw [List.range_succ, List.map_append] at g
    exact g
theorem rsolve_l5 (r A : List Int) (e ord : Int) (m : Nat) (hA : A.length = m) (hm : m ≤ 31) (hb : Big A) (hr : Within 1125899906842625 r) (hrl : m + 1 < r.length) {res : List Int}
    (h : Ev (fun k => madrigalref6_Solve.l4 k r ord (nextE e (mir r A m e)) (nextA A m (mir r A m e)) (wrap64 ((m : Int) + 1))) res) (d : Nat) : ∀ (j : Nat), j + d = m →
    Ev (fun k => madrigalref6_Solve.l5 k r ord e A m (tN r A m j) j) res := by
  induction d with
  | zero =>
    intro j hj
    have e0 : j = m := by omega
    subst e0
    refine Ev.step (fun k => by rw [madrigalref6_Solve.l5]) ?_
    refine evNeg (by omega) (Ev.bind (ref_div _ _ _ (by omega) (by omega)) (Ev.bind (ref_clamp _ _ _) ?_))
    exact rsolve_l6 r A e (mir r A j e) ord j hA (by omega) hb (res := res) j 0 (by omega) h
  | succ d ih =>
    intro j hj
    have hb1 := tN_bounds r A m hr (by omega) j (by omega)
    have hb2 := mul24_bounds (rd A j) (rd r ((m : Int) - j))
    refine Ev.step (fun k => by rw [madrigalref6_Solve.l5]) ?_
    rw [w64 (x := (m : Int) - j) (by omega) (by omega), w64 (x := (j : Int) + 1) (by omega) (by omega)]
    refine evPos (by omega) (evPos (by omega) (evPos (by omega) (evPos (by omega) (evPos (by omega) (Ev.bind (ref_mul _ _ 24 (by omega) (by omega)) ?_)))))
    rw [w64 (x := tN r A m j - _) (by omega) (by omega)]
    exact ih (j + 1) (by omega)
theorem rsolve_l4 (r : List Int) (hr : Within 1125899906842625 r) (M : Nat) (hM : M ≤ 32) (hrl : r.length = M + 1) (n : Nat) : ∀ (m : Nat) (A : List Int) (e : Int), m + n = M → A.length = m → Big A →
    Ev (fun k => madrigalref6_Solve.l4 k r (M : Int) e A (m : Int)) (fit ((solveN r n m A e).map fun v => mul v 1 12)) := by
  induction n with
  | zero =>
    intro m A e hm hA hb
    refine Ev.step (fun k => by rw [madrigalref6_Solve.l4]) ?_
    refine evNeg (by omega) ?_
    have g := rsolve_l7 A.length A [] 0 rfl rfl (by simp; omega)
    simpa [solveN] using g
  | succ n ih =>
    intro m A e hm hA hb
    refine Ev.step (fun k => by rw [madrigalref6_Solve.l4]) ?_
    rw [w64 (x := (m : Int) + 1) (by omega) (by omega)]
    refine evPos (by omega) (evPos (by omega) (evPos (by omega) ?_))
    refine rsolve_l5 r A e M m hA (by omega) hb hr (by omega) ?_ m 0 (by omega)
    have g := ih (m + 1) (nextA A m (mir r A m e)) (nextE e (mir r A m e)) (by omega) (nextA_length _ _ _) (big_next A m r e)
    rw [w64 (x := (m : Int) + 1) (by omega) (by omega)]
    exact g
theorem rsolve_l3 (ord : Int) (n : Nat) : ∀ (S A : List Int) (i : Int) {r : List Int}, S.length = n → i = A.length → A.length + S.length ≤ 1000 → Within 1125899906842624 S →
    Ev (fun k => madrigalref6_Solve.l2 k ((A ++ S).map (· / 2)) ord) r → Ev (fun k => madrigalref6_Solve.l3 k (A.map (· / 2) ++ S) ord i) r := by
  induction n with
  | zero =>
    intro S A i r hn hi hl hw h
    have e1 : S = [] := List.eq_nil_of_length_eq_zero hn
    subst e1
    simp at hl
    refine Ev.step (fun k => by rw [madrigalref6_Solve.l3]) ?_
    exact evNeg (by simp; omega) (by simpa using h)
  | succ n ih =>
    intro S A i r hn hi hl hw h
    cases S with
    | nil => simp at hn
    | cons v S =>
      simp at hn hl
      have hv := hw v (by simp)
      refine Ev.step (fun k => by rw [madrigalref6_Solve.l3]) ?_
      rw [rd_mid (A.map (· / 2)) v S i (by simpa using hi), w64 (x := i + 1) (by omega) (by omega), ref_down (by omega) (by omega) (by omega)]
      refine evPos (by simp; omega) (evPos (by omega) (Ev.bind (Ev.now _) ?_))
      rw [set_mid (A.map (· / 2)) v S _ i (by simpa using hi)]
      have g := ih S (A ++ [v]) (i + 1) (r := r) (by omega) (by simp; omega) (by simp; omega) (fun x hx => hw x (by simp [hx])) (by simpa using h)
      simpa using g
theorem rsolve_l2 (ord : Int) {res : List Int} (n : Nat) : ∀ (l : List Int), 0 < l.length → l.length ≤ 1000 → Within 1125899906842624 l → 536870912 ≤ rd l 0 → rd l 0 < 1073741824 * 2 ^ n → rd l 0 ≤ 4398046511104 →
    Ev (fun k => madrigalref6_Solve.l4 k (raise1 (dnN n l)) ord (rd (raise1 (dnN n l)) 0) [] 0) res →
    Ev (fun k => madrigalref6_Solve.l2 k l ord) res := by
  have hlast : ∀ l : List Int, 0 < l.length → 536870912 ≤ rd l 0 → rd l 0 ≤ 4398046511104 → ¬ rd l 0 ≥ 1073741824 → Ev (fun k => madrigalref6_Solve.l4 k (raise1 l) ord (rd (raise1 l) 0) [] 0) res → Ev (fun k => madrigalref6_Solve.l2 k l ord) res := by
    intro l h0 h1 h3 h4 h
    refine Ev.step (fun k => by rw [madrigalref6_Solve.l2]) ?_
    refine evPos (by omega) (evNeg h4 ?_)
    rw [Int.tdiv_eq_ediv_of_nonneg (by omega), w64 (x := rd l 0 / 1024) (by omega) (by omega), w64 (x := rd l 0 + rd l 0 / 1024) (by omega) (by omega), w64 (by omega) (by omega)]
    have e : rd (raise1 l) 0 = rd l 0 + rd l 0 / 1024 + 1 := by
      unfold raise1
      cases l with
      | nil => simp at h0
      | cons v l => rfl
    rw [e] at h
    exact h
  induction n with
  | zero =>
    intro l h0 hl hw h1 h2 h3 h
    simp at h2
    exact hlast l h0 h1 h3 (by omega) h
  | succ n ih =>
    intro l h0 hl hw h1 h2 h3 h
    unfold dnN at h
    by_cases hc : rd l 0 ≥ 1073741824
    · rw [if_pos hc] at h
      refine Ev.step (fun k => by rw [madrigalref6_Solve.l2]) ?_
      refine evPos (by omega) (evPos hc ?_)
      have e : rd (l.map (· / 2)) 0 = rd l 0 / 2 := by rw [rd_map _ _ _ (by omega) (by omega)]
      have g := ih (l.map (· / 2)) (by simpa using h0) (by simpa using hl) (within_half hw) (by omega) (by
        rw [e]
        rw [Int.pow_succ] at h2
        generalize (2 : Int) ^ n = P at h2 ⊢
        omega) (by omega) h
      have g2 := rsolve_l3 ord l.length l [] 0 (r := res) rfl rfl (by simpa using hl) hw (by simpa using g)
      simpa using g2
    · rw [if_neg hc] at h
      exact hlast l h0 h1 h3 hc h
theorem rsolve_l1 (ord : Int) (n : Nat) : ∀ (S A : List Int) (i : Int) {r : List Int}, S.length = n → i = A.length → A.length + S.length ≤ 1000 → Within 1125899906842624 S →
    Ev (fun k => madrigalref6_Solve.l0 k ((A ++ S).map dbl) ord) r → Ev (fun k => madrigalref6_Solve.l1 k (A.map dbl ++ S) ord i) r := by
  induction n with
  | zero =>
    intro S A i r hn hi hl hw h
    have e1 : S = [] := List.eq_nil_of_length_eq_zero hn
    subst e1
    simp at hl
    refine Ev.step (fun k => by rw [madrigalref6_Solve.l1]) ?_
    exact evNeg (by simp; omega) (by simpa using h)
  | succ n ih =>
    intro S A i r hn hi hl hw h
    cases S with
    | nil => simp at hn
    | cons v S =>
      simp at hn hl
      have hv := hw v (by simp)
      refine Ev.step (fun k => by rw [madrigalref6_Solve.l1]) ?_
      rw [rd_mid (A.map dbl) v S i (by simpa using hi), w64 (x := i + 1) (by omega) (by omega), w64 (x := v * 2) (by omega) (by omega), Int.mul_comm v 2]
      refine evPos (by simp; omega) (evPos (by omega) (Ev.bind (ref_clamp _ _ _) ?_))
      rw [set_mid (A.map dbl) v S _ i (by simpa using hi)]
      have g := ih S (A ++ [v]) (i + 1) (r := r) (by omega) (by simp; omega) (by simp; omega) (fun x hx => hw x (by simp [hx])) (by simpa using h)
      simpa [dbl] using g
theorem rsolve_l0 (ord : Int) {res : List Int} (n : Nat) : ∀ (l : List Int), 0 < l.length → l.length ≤ 1000 → Within 1125899906842624 l → 1 ≤ rd l 0 → rd l 0 ≤ 2199023255552 → 536870912 ≤ rd l 0 * 2 ^ n →
    Ev (fun k => madrigalref6_Solve.l4 k (raise1 (dnN 12 (upN n l))) ord (rd (raise1 (dnN 12 (upN n l))) 0) [] 0) res →
    Ev (fun k => madrigalref6_Solve.l0 k l ord) res := by
  have hend : ∀ (l : List Int), 0 < l.length → l.length ≤ 1000 → Within 1125899906842624 l → 536870912 ≤ rd l 0 → rd l 0 ≤ 2199023255552 → Ev (fun k => madrigalref6_Solve.l4 k (raise1 (dnN 12 l)) ord (rd (raise1 (dnN 12 l)) 0) [] 0) res → Ev (fun k => madrigalref6_Solve.l2 k l ord) res :=
    fun l h0 hl hw h1 h2 h => rsolve_l2 ord 12 l h0 hl hw h1 (by simp; omega) (by omega) h
  induction n with
  | zero =>
    intro l h0 hl hw h1 h2 h3 h
    simp at h3
    refine Ev.step (fun k => by rw [madrigalref6_Solve.l0]) ?_
    exact evPos (by omega) (evNeg (by omega) (hend l h0 hl hw h3 h2 h))
  | succ n ih =>
    intro l h0 hl hw h1 h2 h3 h
    refine Ev.step (fun k => by rw [madrigalref6_Solve.l0]) ?_
    refine evPos (by omega) ?_
    unfold upN at h
    refine evIte (fun hc => ?_) (fun hc => ?_)
    · rw [if_pos hc] at h
      have e : rd (l.map dbl) 0 = 2 * rd l 0 := by rw [rd_map _ _ _ (by omega) (by omega), dbl_small h1 hc]
      have g := ih (l.map dbl) (by simpa using h0) (by simpa using hl) (within_dbl l) (by omega) (by omega) (by
        rw [e, Int.mul_comm 2, Int.mul_assoc, ← Int.pow_succ']
        exact h3) h
      have g2 := rsolve_l1 ord l.length l [] 0 (r := res) rfl rfl (by simpa using hl) hw (by simpa using g)
      simpa using g2
    · rw [if_neg hc] at h
      exact hend l h0 hl hw (by omega) h2 h
theorem ref_solve (l : List Int) (h1 : 2 ≤ l.length) (h2 : l.length ≤ 33) : Ev (fun k => madrigalref6_Solve.f k l) (if rd l 0 < 1 then List.replicate (l.length - 1) 0 else solved l) := by
  refine Ev.congr (fun k => by rw [madrigalref6_Solve.f]) ?_
  have e1 : ((l.length : Int) - 1).toNat = l.length - 1 := by omega
  rw [w64 (x := (l.length : Int) - 1) (by omega) (by omega), e1]
  refine evPos (by omega) (evIte (fun h => ?_) (fun h => ?_))
  · rw [if_pos h]; exact evPos (by omega) (evPos (by omega) (Ev.now _))
  · rw [if_neg h]
    refine Ev.bind (ref_clamped l _ _ (by omega)) ?_
    have ep : (l.map fun v => clamp v (-2199023255552) 2199023255552) = l.map partC := rfl
    rw [ep]
    have e : rd (l.map partC) 0 = partC (rd l 0) := rd_map _ _ _ (by omega) (by omega)
    have hp := part_range (v := rd l 0) (by omega)
    have e2 : (raise1 (base l)).length = l.length := by unfold raise1; rw [List.length_set, base_length]
    refine rsolve_l0 _ 29 (l.map partC) (by simp; omega) (by simp; omega) (within_part l) (by omega) (by omega) (by rw [e]; simp; omega) ?_
    have g := rsolve_l4 (raise1 (base l)) (within_raise l (by omega) (by omega)) (l.length - 1) (by omega) (by omega) (l.length - 1) 0 [] (rd (raise1 (base l)) 0) (by omega) rfl (by intro x hx; simp at hx)
    have en : ((l.length - 1 : Nat) : Int) = (l.length : Int) - 1 := by omega
    rw [en] at g
    exact g
end Go.Proofs.Ytllglpcpjeggcaa.Q
namespace Go.Proofs.Ytllglpcpjeggcaa.Q
open Go.RowKit Go.Proofs.Ytllglpcpjeggcaa.P Go.Proofs.YtllglpcpjeggcaaW.PrintWords Go.Proofs.YtllglpcpjeggcaaW.PrintLast Go.Proofs.YtllglpcpjeggcaaW.PrintMore
open Go.Proofs.Ytllglpcpjeggcaa.M
set_option linter.unusedVariables false
theorem rauto_l1 (x : List Int) (hx : Within 32768 x) (hl : x.length ≤ 1000000) (order : Int) (L : List Int) (hL : L.length ≤ 1000) {r : List Int} (d : Nat) : ∀ (n K : Nat) (s : Int), x.length - n = d → K ≤ n → -1073741824 * n ≤ s ∧ s ≤ 1073741824 * n → n ≤ 1000100 →
    Ev (fun k => madrigalref6_Auto.l0 k x order (L ++ [s + dot (x.drop n) (x.drop (n - K))]) (wrap64 ((K : Int) + 1))) r →
    Ev (fun k => madrigalref6_Auto.l1 k x order L (K : Int) s n) r := by
  induction d with
  | zero =>
    intro n K s hd hn hs hn2 h
    refine Ev.step (fun k => by rw [madrigalref6_Auto.l1]) ?_
    refine evNeg (by omega) (evPos (by omega) ?_)
    have e : x.drop n = [] := List.drop_eq_nil_of_le (by omega)
    rw [e, dot_nil, Int.add_zero] at h
    exact h
  | succ d ih =>
    intro n K s hd hn hs hn2 h
    have hn3 : n < x.length := by omega
    refine Ev.step (fun k => by rw [madrigalref6_Auto.l1]) ?_
    have b1 : rd x (n : Int) = x[n] := rd_at hn3
    have e3 : (n : Int) - (K : Int) = ((n - K : Nat) : Int) := by omega
    have b2 : rd x ((n : Int) - (K : Int)) = x[n - K] := by rw [e3]; exact rd_at (by omega)
    have hp := prod30 (hx _ (List.getElem_mem (n := n) (by omega))) (hx _ (List.getElem_mem (n := n - K) (by omega)))
    rw [w64 (x := (n : Int) - K) (by omega) (by omega), w64 (x := (n : Int) + 1) (by omega) (by omega), b1, b2]
    refine evPos (by omega) (evPos (by omega) (evPos (by omega) (evPos (by omega) ?_)))
    rw [w64 (x := x[n] * _) (by omega) (by omega), w64 (x := s + _) (by omega) (by omega)]
    have h3 := ih (n + 1) K (s + x[n] * x[n - K]) (by omega) (by omega) (by simp; omega) (by omega)
    have ed : dot (x.drop n) (x.drop (n - K)) = x[n] * x[n - K] + dot (x.drop (n + 1)) (x.drop (n + 1 - K)) := by
      rw [List.drop_eq_getElem_cons (i := n) (by omega), List.drop_eq_getElem_cons (i := n - K) (by omega), show n + 1 - K = n - K + 1 by omega]
      rfl
    rw [ed, ← Int.add_assoc] at h
    exact h3 h
theorem rauto_l0 (x : List Int) (hx : Within 32768 x) (hl : x.length ≤ 1000000) (M : Nat) (hM : M ≤ 100) (n : Nat) : ∀ (j : Nat), j + n = M + 1 →
    Ev (fun k => madrigalref6_Auto.l0 k x (M : Int) (autoL x j) (j : Int)) (autoL x (M + 1)) := by
  induction n with
  | zero =>
    intro j hj
    refine Ev.step (fun k => by rw [madrigalref6_Auto.l0]) ?_
    have e : j = M + 1 := by omega
    subst e
    exact evNeg (by omega) (Ev.now _)
  | succ n ih =>
    intro j hj
    refine Ev.step (fun k => by rw [madrigalref6_Auto.l0]) ?_
    refine evPos (by omega) ?_
    refine rauto_l1 x hx hl M (autoL x j) (by rw [autoL_length]; omega) (x.length - j) j j 0 rfl (Nat.le_refl _) (by omega) (by omega) ?_
    have h := ih (j + 1) (by omega)
    have e1 : autoL x (j + 1) = autoL x j ++ [dot (x.drop j) x] := by unfold autoL; rw [List.range_succ, List.map_append]; rfl
    rw [e1] at h
    rw [Nat.sub_self, List.drop_zero, Int.zero_add, w64 (x := (j : Int) + 1) (by omega) (by omega)]
    exact h
theorem ref_auto (l : List Int) (order : Int) (h1 : l.length ≤ 960) (h2 : 1 ≤ order) (h3 : order ≤ 32) : Ev (fun k => madrigalref6_Auto.f k l order) (autoL (l.map sat) (order.toNat + 1)) := by
  refine Ev.congr (fun k => by rw [madrigalref6_Auto.f]) (Ev.bind (ref_clamped l _ _ (by omega)) ?_)
  obtain ⟨M, rfl⟩ : ∃ M : Nat, order = M := ⟨order.toNat, by omega⟩
  have h := rauto_l0 (l.map sat) (within_sat l) (by simp; omega) M (by omega) (M + 1) 0 (by omega)
  exact h
theorem rrest_l1 (a P X out : List Int) (n : Int) (hn : n = P.length) (hP : P.length ≤ 1000000) (ha : a.length ≤ 32) (ho : out.length ≤ 1000000) {r : List Int} (d : Nat) : ∀ (j : Nat) (v : Int), j + d = a.length → -1125899906842625 * (100 + j) ≤ v ∧ v ≤ 1125899906842625 * (100 + j) →
    Ev (fun k => madrigalref6_Rest.l0 k (P ++ X) a (out ++ [v - tsum (a.drop j) (P.reverse.drop j)]) (wrap64 (n + 1))) r →
    Ev (fun k => madrigalref6_Rest.l1 k (P ++ X) a out n v j) r := by
  induction d with
  | zero =>
    intro j v hj hv h
    refine Ev.step (fun k => by rw [madrigalref6_Rest.l1]) ?_
    refine evNeg (by omega) (evPos (by omega) ?_)
    have e : a.drop j = [] := List.drop_eq_nil_of_le (by omega)
    rw [e, tsum_nil, Int.sub_zero] at h
    exact h
  | succ d ih =>
    intro j v hj hv h
    refine Ev.step (fun k => by rw [madrigalref6_Rest.l1]) ?_
    rw [w64 (x := n - 1) (by omega) (by omega), w64 (x := n - 1 - j) (by omega) (by omega), w64 (x := (j : Int) + 1) (by omega) (by omega)]
    refine evPos (by omega) ?_
    have hja : j < a.length := by omega
    have e0 : rd a (j : Int) = a[j] := rd_at hja
    have ea : a.drop j = a[j] :: a.drop (j + 1) := List.drop_eq_getElem_cons hja
    refine evIte (fun hc => ?_) (fun hc => ?_)
    · have hjn : j < P.length := by omega
      refine evPos (by omega) (evPos (by omega) (evPos (by simp; omega) ?_))
      have e1 : rd (P ++ X) (n - 1 - j) = P.reverse[j]'(by simp; omega) := by
        rw [rd_in (by omega) (by simp; omega), List.getElem_append_left (by omega), List.getElem_reverse]
        congr 1; omega
      have hb := mul12_bounds (rd a j) (rd (P ++ X) (n - 1 - j))
      refine Ev.bind (ref_mul _ _ 12 (by omega) (by omega)) ?_
      rw [w64 (x := v - _) (by omega) (by omega)]
      have ep : P.reverse.drop j = P.reverse[j]'(by simp; omega) :: P.reverse.drop (j + 1) := List.drop_eq_getElem_cons (by simp; omega)
      rw [ea, ep] at h
      have et : v - tsum (a[j] :: a.drop (j + 1)) (P.reverse[j]'(by simp; omega) :: P.reverse.drop (j + 1)) = v - mul (rd a j) (rd (P ++ X) (n - 1 - j)) 12 - tsum (a.drop (j + 1)) (P.reverse.drop (j + 1)) := by
        rw [e0, e1]; simp only [tsum]; omega
      rw [et] at h
      exact ih (j + 1) _ (by omega) (by simp; omega) h
    · refine evPos (by omega) ?_
      have ep : P.reverse.drop j = [] := List.drop_eq_nil_of_le (by simp; omega)
      rw [ep, tsum_nil', Int.sub_zero] at h
      exact h
theorem rrest_l0 (a : List Int) (ha : a.length ≤ 32) (n : Nat) : ∀ (X P D : List Int) (i : Int), X.length = n → Within 32768 X → D.length = P.length → i = P.length → P.length + X.length ≤ 1000000 →
    Ev (fun k => madrigalref6_Rest.l0 k (P ++ X) a D i) (D ++ restL a P.reverse X) := by
  induction n with
  | zero =>
    intro X P D i hn hw hd hi hl
    have e1 : X = [] := List.eq_nil_of_length_eq_zero hn
    subst e1
    simp at hl
    refine Ev.step (fun k => by rw [madrigalref6_Rest.l0]) ?_
    refine evNeg (by simp; omega) ?_
    simpa [restL] using Ev.now D
  | succ n ih =>
    intro X P D i hn hw hd hi hl
    cases X with
    | nil => simp at hn
    | cons v X =>
      simp at hn hl
      have hv := hw v (by simp)
      refine Ev.step (fun k => by rw [madrigalref6_Rest.l0]) ?_
      refine evPos (by simp; omega) (evPos (by omega) ?_)
      rw [rd_mid P v X i hi]
      refine rrest_l1 a P (v :: X) D i hi (by omega) ha (by omega) a.length 0 v (by omega) (by omega) ?_
      rw [w64 (x := i + 1) (by omega) (by omega)]
      have h := ih X (P ++ [v]) (D ++ [v - tsum a P.reverse]) (i + 1) (by omega) (fun x hx => hw x (by simp [hx])) (by simp; omega) (by simp; omega) (by simp; omega)
      simpa [restL] using h
theorem ref_rest (x a : List Int) (hx : x.length ≤ 960) (ha : a.length ≤ 32) : Ev (fun k => madrigalref6_Rest.f k x a) (restL (held12 a) [] (x.map sat)) := by
  refine Ev.congr (fun k => by rw [madrigalref6_Rest.f]) (Ev.bind (ref_clamped x _ _ (by omega)) (Ev.bind (ref_clamped a _ _ (by omega)) ?_))
  have h := rrest_l0 (held12 a) (by simp [held12]; omega) (x.map sat).length (x.map sat) [] [] 0 rfl (within_sat x) rfl rfl (by simp; omega)
  exact h
theorem rpower_l0 (n : Nat) : ∀ (S A : List Int) (s i : Int), S.length = n → i = A.length → 0 ≤ s ∧ s ≤ 1099511627776 * i → A.length ≤ 960 → A.length + S.length ≤ 1000000 →
    Ev (fun k => madrigalref6_Power.l0 k (A ++ S) s i) (s + powL (S.take (960 - A.length))) := by
  induction n with
  | zero =>
    intro S A s i hn hi hs hA hl
    have e1 : S = [] := List.eq_nil_of_length_eq_zero hn
    subst e1
    refine Ev.step (fun k => by rw [madrigalref6_Power.l0]) ?_
    exact evNeg (by simp; omega) (evConst (by simp [powL]))
  | succ n ih =>
    intro S A s i hn hi hs hA hl
    cases S with
    | nil => simp at hn
    | cons v S =>
      simp at hn hl
      have hsq := cl20_sq v
      refine Ev.step (fun k => by rw [madrigalref6_Power.l0]) ?_
      refine evPos (by simp; omega) (evIte (fun h => ?_) (fun h => ?_))
      · refine evPos (by omega) ?_
        rw [rd_mid _ _ _ _ hi, w64 (x := i + 1) (by omega) (by omega)]
        refine Ev.bind (ref_clamp _ _ _) ?_
        have e : clamp v (-1048576) 1048576 = cl20 v := rfl
        rw [e, w64 (x := cl20 v * cl20 v) (by omega) (by omega), w64 (x := s + _) (by omega) (by omega)]
        have h := ih S (A ++ [v]) (s + cl20 v * cl20 v) (i + 1) (by omega) (by simp; omega) (by omega) (by simp; omega) (by simp; omega)
        refine evEq (by simpa using h) ?_
        have et : 960 - A.length = (959 - A.length) + 1 := by omega
        rw [et, List.take_succ_cons]
        simp only [powL]; omega
      · have et : 960 - A.length = 0 := by omega
        rw [et]
        exact evConst (by simp [powL])
theorem ref_power (l : List Int) (hl : l.length ≤ 1000000) : Ev (fun k => madrigalref6_Power.f k l) (powL (l.take 960)) := by
  refine Ev.congr (fun k => by rw [madrigalref6_Power.f]) ?_
  have h := rpower_l0 l.length l [] 0 0 rfl rfl (by omega) (by simp) (by simpa using hl)
  simpa using h
end Go.Proofs.Ytllglpcpjeggcaa.Q
namespace Go.Proofs.Ytllglpcpjeggcaa.Q
open Go.RowKit Go.Proofs.Ytllglpcpjeggcaa.P Go.Proofs.YtllglpcpjeggcaaW.PrintWords Go.Proofs.YtllglpcpjeggcaaW.PrintLast Go.Proofs.YtllglpcpjeggcaaW.PrintMore
set_option linter.unusedVariables false
theorem same12_l0 (n : Nat) : ∀ (S T A B : List Int) (i : Int), S.length = n → T.length = S.length → B.length = A.length → i = A.length → A.length + S.length ≤ 1000000000 →
    Ev (fun k => madrigallaw12_same.l0 k (A ++ S) (B ++ T) i) (decide (S = T)) := by
  induction n with
  | zero =>
    intro S T A B i hn ht hb hi hl
    have e1 : S = [] := List.eq_nil_of_length_eq_zero hn
    subst e1
    have e2 : T = [] := List.eq_nil_of_length_eq_zero (by simpa using ht)
    subst e2
    refine Ev.step (fun k => by rw [madrigallaw12_same.l0]) ?_
    exact evNeg (by simp; omega) (evConst (by simp))
  | succ n ih =>
    intro S T A B i hn ht hb hi hl
    cases S with
    | nil => simp at hn
    | cons s S =>
      cases T with
      | nil => simp at ht
      | cons t T =>
        simp at hn ht hl
        refine Ev.step (fun k => by rw [madrigallaw12_same.l0]) ?_
        refine evPos (by simp; omega) (evPos (by omega) (evPos (by simp; omega) ?_))
        rw [rd_mid _ _ _ _ hi, rd_mid B t T i (by omega), w64 (x := i + 1) (by omega) (by omega)]
        refine evIte (fun h => ?_) (fun h => evConst (by simp [h]))
        have h2 := ih S T (A ++ [s]) (B ++ [t]) (i + 1) (by omega) (by omega) (by simp; omega) (by simp; omega) (by simp; omega)
        have e : decide (s :: S = t :: T) = decide (S = T) := by apply decide_eq_decide.2; simp [h]
        rw [e]
        simpa using h2
theorem same12 (a b : List Int) (h : a.length ≤ 1000000000) : Ev (fun k => madrigallaw12_same.f k a b) (decide (a = b)) := by
  refine Ev.congr (fun k => by rw [madrigallaw12_same.f]) ?_
  refine evIte (fun h2 => ?_) (fun h2 => evConst ?_)
  · have := same12_l0 a.length a b [] [] 0 rfl (by omega) rfl rfl (by simpa using h)
    simpa using this
  · congr 1; symm; apply decide_eq_false; rintro rfl; exact h2 rfl
end Go.Proofs.Ytllglpcpjeggcaa.Q
namespace Go.Proofs.Ytllglpcpjeggcaa.Q
open Go.RowKit Go.Proofs.Ytllglpcpjeggcaa.P Go.Proofs.YtllglpcpjeggcaaW.PrintWords Go.Proofs.YtllglpcpjeggcaaW.PrintLast Go.Proofs.YtllglpcpjeggcaaW.PrintMore
set_option linter.unusedVariables false
theorem awake12 : Ev (fun k => madrigallaw12_awake.f k) true := Ev.of madrigallaw12_awake.mono (k := 2000) (by kernel_rfl)
end Go.Proofs.Ytllglpcpjeggcaa.Q
namespace Go.Proofs.Ytllglpcpjeggcaa.Pure
open Go.RowKit Go.Proofs.Ytllglpcpjeggcaa.P Go.Proofs.YtllglpcpjeggcaaW.PrintWords Go.Proofs.YtllglpcpjeggcaaW.PrintLast Go.Proofs.YtllglpcpjeggcaaW.PrintMore
open Go.Proofs.Ytllglpcpjeggcaa.M Go.Proofs.Ytllglpcpjeggcaa.Q
set_option linter.unusedVariables false
theorem says_power (x : List Int) (hx : x.length ≤ 1000) (b : Bool) : Ev (fun k => (levin_Power.f k x).bind fun t => (madrigalref6_Power.f k x).bind fun u => some (t == u)) true :=
  Ev.bind (levin_power x) (Ev.bind (ref_power x (by omega)) (evConst (by simp)))
theorem says_j6 (x : List Int) (hx : x.length ≤ 1000) (b : Bool) (hb : b = false) : Ev (fun k => madrigallaw12_LevinSays.j6 k x b) true := by
  refine Ev.step (fun k => by rw [madrigallaw12_LevinSays.j6]) ?_
  exact evNeg (by simp [hb]) (says_power x hx b)
theorem says_j7 (x : List Int) (hx : x.length ≤ 1000) (b : Bool) (hb : b = false) : Ev (fun k => madrigallaw12_LevinSays.j7 k x b) true := by
  refine Ev.step (fun k => by rw [madrigallaw12_LevinSays.j7]) ?_
  exact evNeg (by simp [hb]) (says_power x hx b)
theorem says_j4 (x a : List Int) (hx : x.length ≤ 1000) (ha : a.length ≤ 40) : Ev (fun k => madrigallaw12_LevinSays.j4 k x a) true := by
  refine Ev.step (fun k => by rw [madrigallaw12_LevinSays.j4]) ?_
  by_cases h : x.length ≤ 960 ∧ a.length ≤ 32
  · refine Ev.bind (levin_rest x a h.1 h.2) (evNeg (by omega) ?_)
    rw [decide_eq_false (by omega)]
    refine Ev.step (fun k => by rw [madrigallaw12_LevinSays.j5]) ?_
    refine evNeg (by simp) (evPos rfl (Ev.bind (ref_rest x a h.1 h.2) ?_))
    have hl : (restL (held12 a) [] (x.map sat)).length = x.length := by rw [restL_length]; simp
    refine Ev.bind (same12 _ _ (by rw [hl]; omega)) ?_
    exact says_j7 x hx _ (by simp)
  · have hj : ∀ b, b = true → Ev (fun k => madrigallaw12_LevinSays.j5 k x a 1 [] b) true := by
      intro b hb
      refine Ev.step (fun k => by rw [madrigallaw12_LevinSays.j5]) ?_
      exact evPos hb (evPos rfl (says_j6 x hx _ (by simp)))
    refine Ev.bind (levin_rest_bad x a h) (evIte (fun _ => hj _ rfl) (fun h1 => hj _ (decide_eq_true (by omega))))
theorem says_j2 (x r a : List Int) (hx : x.length ≤ 1000) (hr : r.length ≤ 40) (ha : a.length ≤ 40) : Ev (fun k => madrigallaw12_LevinSays.j2 k x r a) true := by
  refine Ev.step (fun k => by rw [madrigallaw12_LevinSays.j2]) ?_
  refine Ev.bind (Ev.now _) (evPos (by simp; omega) ?_)
  rw [List.nil_append]
  by_cases h : 2 ≤ r.length ∧ r.length ≤ 33
  · refine Ev.bind (levin_solve r h.1 h.2) (evNeg (by omega) ?_)
    rw [decide_eq_false (by omega)]
    refine Ev.step (fun k => by rw [madrigallaw12_LevinSays.j3]) ?_
    refine evNeg (by simp) (evPos rfl (Ev.bind (ref_solve r h.1 h.2) ?_))
    have hs : (if rd r 0 < 1 then List.replicate (r.length - 1) 0 else solved r).length ≤ 32 ∧ stable (if rd r 0 < 1 then List.replicate (r.length - 1) 0 else solved r) = true := by
      split
      · exact ⟨by simp; omega, zeros_stable ⟨r.length - 1, by omega⟩⟩
      · have hl : (solveN (raise1 (base r)) (r.length - 1) 0 [] (rd (raise1 (base r)) 0)).length = r.length - 1 := by
          have h9 := solveN_length (raise1 (base r)) (r.length - 1) 0 [] (rd (raise1 (base r)) 0) rfl
          omega
        refine ⟨?_, ?_⟩
        · unfold solved; rw [fit_length]; simp; omega
        · unfold solved; exact fit_stable _ (by simp; omega)
    generalize (if rd r 0 < 1 then List.replicate (r.length - 1) 0 else solved r) = L at hs ⊢
    refine Ev.bind (same12 L L (by omega)) (evPos (by simp) (Ev.bind (lpc_stable L) (evPos hs.2 (says_j4 x a hx ha))))
  · have hj : ∀ b, b = true → Ev (fun k => madrigallaw12_LevinSays.j3 k x r a 1 [] b) true := by
      intro b hb
      refine Ev.step (fun k => by rw [madrigallaw12_LevinSays.j3]) ?_
      exact evPos hb (evPos rfl (evPos rfl (says_j4 x a hx ha)))
    refine Ev.bind (levin_solve_bad r h) (evIte (fun _ => hj _ rfl) (fun h1 => hj _ (decide_eq_true (by omega))))
theorem says_j0 (x r a : List Int) (order : Int) (b : Bool) (h : b = false → x.length ≤ 1000 ∧ r.length ≤ 40 ∧ a.length ≤ 40) : Ev (fun k => madrigallaw12_LevinSays.j0 k x order r a b) true := by
  refine Ev.step (fun k => by rw [madrigallaw12_LevinSays.j0]) ?_
  refine evIte (fun _ => Ev.now _) (fun hb => ?_)
  obtain ⟨hx, hr, ha⟩ := h (by simpa using hb)
  refine Ev.bind (Ev.now _) (evPos (by simp; omega) ?_)
  rw [List.nil_append]
  by_cases hg : x.length ≤ 960 ∧ 1 ≤ order ∧ order ≤ 32
  · refine Ev.bind (levin_auto x order hg.1 hg.2.1 hg.2.2) (evNeg (by omega) (evNeg (by omega) ?_))
    rw [decide_eq_false (by omega)]
    refine Ev.step (fun k => by rw [madrigallaw12_LevinSays.j1]) ?_
    refine evNeg (by simp) (evPos rfl (Ev.bind (ref_auto x order hg.1 hg.2.1 hg.2.2) ?_))
    exact Ev.bind (same12 _ _ (by rw [autoL_length]; omega)) (evPos (by simp) (says_j2 x r a hx hr ha))
  · have hj : ∀ b, b = true → Ev (fun k => madrigallaw12_LevinSays.j1 k x order r a [] 1 b) true := by
      intro b hb
      refine Ev.step (fun k => by rw [madrigallaw12_LevinSays.j1]) ?_
      exact evPos hb (evPos rfl (evPos rfl (says_j2 x r a hx hr ha)))
    refine Ev.bind (levin_auto_bad x order hg) (evIte (fun _ => hj _ rfl) (fun h1 => evIte (fun _ => hj _ rfl) (fun h2 => hj _ (decide_eq_true (by omega)))))
theorem LevinSays : madrigallaw12_LevinSays.Pure := by
  intro x order r a _ _ _ _ _ _ _ _ _ _
  refine Ev.rounds (Ev.congr (fun k => by rw [madrigallaw12_LevinSays.f]) (Ev.bind awake12 (evPos rfl ?_)))
  refine evIte (fun _ => says_j0 _ _ _ _ _ (by simp)) (fun g1 => evIte (fun _ => says_j0 _ _ _ _ _ (by simp)) (fun g2 => ?_))
  exact says_j0 _ _ _ _ _ (fun h => by simp at h; omega)
end Go.Proofs.Ytllglpcpjeggcaa.Pure
