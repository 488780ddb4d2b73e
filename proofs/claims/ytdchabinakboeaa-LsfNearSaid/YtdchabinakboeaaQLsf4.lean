/- The index that is found for frequencies, as the program finds it: lemmas for the laws. -/
import Derived.Test.YtdchabinakboeaaQLsf3
import Derived.Test.YtdchabinakboeaaPx28
import Derived.Test.YtdchabinakboeaaPx29
import Derived.Test.YtdchabinakboeaaPx30
import Derived.Test.YtdchabinakboeaaPx37
namespace Go.Proofs.Ytdchabinakboeaa.Q
open Go.RowKit Go.Proofs.Ytdchabinakboeaa.P Go.Proofs.YtdchabinakboeaaW.PrintWords Go.Proofs.YtdchabinakboeaaW.PrintLast Go.Proofs.YtdchabinakboeaaW.PrintMore
open Go.Proofs.Ytdchabinakboeaa.M
set_option linter.unusedVariables false

theorem fix_fac (a : Int) : Ev (fun k => fix_factor.f k a) (clamp a (-2147483648) 2147483648) := by
  refine Ev.congr (fun k => by rw [fix_factor.f]) ?_
  exact Ev.bind (fix_clamp a _ _) (Ev.now _)
/-- A quotient rounded down, for small numbers and a divisor above nought. -/
theorem fix_div0 (a b : Int) (ha : -2147483648 ≤ a ∧ a ≤ 2147483648) (hb : 1 ≤ b ∧ b ≤ 2147483648) : Ev (fun k => fix_Div.f k a b 0) (a / b) := by
  refine Ev.congr (fun k => by rw [fix_Div.f]) ?_
  refine Ev.bind (evEq (fix_fac a) (clamp_id ha.1 ha.2)) (Ev.bind (evEq (fix_fac b) (clamp_id (by omega) hb.2)) ?_)
  refine evNeg (by omega) (evNeg (by omega) ?_)
  refine Ev.step (fun k => by rw [fix_Div.j0]) ?_
  have es : shl .i64 a 0 = a := by
    unfold shl
    rw [show (0 : Int).toNat = 0 from rfl, Nat.zero_min, Int.pow_zero, Int.mul_one, i64_w]
    exact w64 (by omega) (by omega)
  rw [es]
  refine evNeg (by simp) (evPos (by omega) (evNeg (by omega) ?_))
  have hmod := Int.emod_nonneg a (show b ≠ 0 by omega)
  have hlt := Int.emod_lt_of_pos a (show 0 < b by omega)
  have hd := Int.mul_ediv_add_emod a b
  have hbs : b.sign = 1 := Int.sign_eq_one_of_pos (by omega)
  have hq1 : -2147483648 ≤ a / b := by
    rw [Int.le_ediv_iff_mul_le (by omega)]
    have : (-2147483648 : Int) * b ≤ -2147483648 * 1 := Int.mul_le_mul_of_nonpos_left (by omega) (by omega)
    omega
  have hq2 : a / b ≤ 2147483648 := by
    have h1 : a / b ≤ 2147483648 / b := Int.ediv_le_ediv (by omega) ha.2
    have h2 : 2147483648 / b ≤ 2147483648 := Int.ediv_le_self _ (by omega)
    omega
  have ht : Int.tdiv a b = if 0 ≤ a ∨ a % b = 0 then a / b else a / b + 1 := by
    rw [Int.tdiv_eq_ediv, hbs]
    by_cases h : 0 ≤ a
    · rw [if_pos (.inl h), if_pos (.inl h)]; omega
    · by_cases h2 : a % b = 0
      · rw [if_pos (.inr (Int.dvd_of_emod_eq_zero h2)), if_pos (.inr h2)]; omega
      · rw [if_neg, if_neg]
        · rintro (h3 | h3)
          · exact h h3
          · exact h2 h3
        · rintro (h3 | h3)
          · exact h h3
          · exact h2 (Int.emod_eq_zero_of_dvd h3)
  have hm : Int.tmod a b = a - b * Int.tdiv a b := by have := Int.mul_tdiv_add_tmod a b; omega
  by_cases h : 0 ≤ a ∨ a % b = 0
  · rw [if_pos h] at ht
    rw [hm, ht, w64 (x := a / b) (by omega) (by omega)]
    refine evIte (fun _ => Ev.now _) (fun h2 => ?_)
    refine evIte (fun h3 => ?_) (fun _ => Ev.now _)
    exfalso
    have h0 : 0 ≤ a := by
      rcases h with h | h
      · exact h
      · omega
    have e1 : decide (a < 0) = false := decide_eq_false (by omega)
    have e2 : decide (b < 0) = false := decide_eq_false (by omega)
    rw [e1, e2] at h3
    simp at h3
  · rw [if_neg h] at ht
    rw [hm, ht, w64 (x := a / b + 1) (by omega) (by omega), w64 (x := a / b + 1 - 1) (by omega) (by omega)]
    have hmul : b * (a / b + 1) = b * (a / b) + b := by rw [Int.mul_add]; omega
    refine evNeg (by omega) ?_
    have e1 : decide (a < 0) = true := decide_eq_true (by omega)
    have e2 : decide (b < 0) = false := decide_eq_false (by omega)
    rw [e1, e2]
    exact evPos rfl (evConst (by congr 1; omega))
/-- How far a number is changed by the second table. -/
def twoAt (f w l : Int) : Int := clamp ((w - l + f / 2) / f) (-4) 4
def twos (f : Int) (w l : List Int) : List Int := List.zipWith (twoAt f) w l
theorem twos_small (f : Int) (w l : List Int) : Small (twos f w l) := by
  intro x hx
  unfold twos at hx
  rw [List.mem_iff_getElem] at hx
  obtain ⟨i, hi, rfl⟩ := hx
  rw [List.getElem_zipWith]
  exact clamp_bounds (by omega)
theorem search_l2 (f : Int) (hf : f = 400 ∨ f = 250) (one : Int) (n : Nat) : ∀ (S T A B R : List Int) (i : Int), T.length = n → S.length = T.length → A.length = B.length → i = B.length → B.length + T.length ≤ 1000 → R.length = B.length → (∀ x ∈ S, 0 ≤ x ∧ x ≤ 32768) → (∀ x ∈ T, 0 ≤ x ∧ x ≤ 32768) →
    Ev (fun k => lsf_Search.l2 k (A ++ S) f (B ++ T) ((B ++ T).length : Int) i one R) (one, R ++ twos f S T, 0) := by
  induction n with
  | zero =>
    intro S T A B R i hn ht hb hi hl hR hS hT
    have e1 : T = [] := List.eq_nil_of_length_eq_zero hn
    subst e1
    refine Ev.step (fun k => by rw [lsf_Search.l2]) ?_
    refine evNeg (by simp; omega) ?_
    simpa [twos] using Ev.now (one, R, (0 : Int))
  | succ n ih =>
    intro S T A B R i hn ht hb hi hl hR hS hT
    cases T with
    | nil => simp at hn
    | cons t T =>
      cases S with
      | nil => simp at ht
      | cons s S =>
        simp at hn ht hl
        have hs := hS s (by simp)
        have ht2 := hT t (by simp)
        refine Ev.step (fun k => by rw [lsf_Search.l2]) ?_
        refine evPos (by simp; omega) (evPos (by omega) (evPos (by simp; omega) (evPos (by simp; omega) ?_)))
        have hf2 : Int.tdiv f 2 = f / 2 := Int.tdiv_eq_ediv_of_nonneg (by omega)
        rw [rd_mid B t T i hi, rd_mid A s S i (by omega), hf2, w64 (x := i + 1) (by omega) (by omega), w64 (x := s - t) (by omega) (by omega), w64 (x := f / 2) (by omega) (by omega), w64 (x := s - t + f / 2) (by omega) (by omega)]
        refine Ev.bind (fix_div0 _ f (by omega) (by omega)) (Ev.bind (fix_clamp _ _ _) ?_)
        refine evPos (by omega) ?_
        have h := ih S T (A ++ [s]) (B ++ [t]) (R ++ [twoAt f s t]) (i + 1) (by omega) (by omega) (by simp; omega) (by simp; omega) (by simp; omega) (by simp; omega) (fun x hx => hS x (by simp [hx])) (fun x hx => hT x (by simp [hx]))
        simpa [twos, twoAt] using h
/-- The squares of the differences. -/
def far : List Int → List Int → Int
  | l :: L, w :: W => (l - w) * (l - w) + far L W
  | _, _ => 0
theorem far_bounds : ∀ (L W : List Int), (∀ x ∈ L, 0 ≤ x ∧ x ≤ 32768) → (∀ x ∈ W, 0 ≤ x ∧ x ≤ 32768) → 0 ≤ far L W ∧ far L W ≤ 1073741824 * L.length
  | l :: L, w :: W, hL, hW => by
    have h := far_bounds L W (fun x hx => hL x (by simp [hx])) (fun x hx => hW x (by simp [hx]))
    have h1 := hL l (by simp)
    have h2 := hW w (by simp)
    have hs : 0 ≤ (l - w) * (l - w) ∧ (l - w) * (l - w) ≤ 1073741824 := by
      by_cases h0 : 0 ≤ l - w
      · have := Int.mul_le_mul (show l - w ≤ 32768 by omega) (show l - w ≤ 32768 by omega) h0 (by omega)
        have := Int.mul_nonneg h0 h0
        omega
      · have := Int.mul_le_mul (show -(l - w) ≤ 32768 by omega) (show -(l - w) ≤ 32768 by omega) (show 0 ≤ -(l - w) by omega) (by omega)
        have h3 := Int.mul_nonneg (show 0 ≤ -(l - w) by omega) (show 0 ≤ -(l - w) by omega)
        rw [Int.neg_mul_neg] at this h3
        omega
    simp only [far, List.length_cons]
    omega
  | [], _, _, _ => by simp [far]
  | _ :: _, [], _, _ => by simp [far]; omega
/-- One book more is looked at: the best one so far, and how far it is. -/
def look (o : Int) (W : List Int) (i : Int) (best : Int × Int) : Int × Int := if best.2 < 0 ∨ far (lsfL o i) W < best.2 then (i, far (lsfL o i) W) else best
def looks (o : Int) (W : List Int) : Nat → Int → Int × Int → Int × Int
  | 0, _, b => b
  | n + 1, i, b => looks o W n (i + 1) (look o W i b)
theorem looks_in (o : Int) (W : List Int) : ∀ (n : Nat) (i : Int) (b : Int × Int), 0 ≤ i → i + n ≤ 16 → 0 ≤ b.1 → b.1 < 16 → 0 ≤ (looks o W n i b).1 ∧ (looks o W n i b).1 < 16
  | 0, _, _, _, _, h0, h1 => ⟨h0, h1⟩
  | n + 1, i, b, hi, hn, h0, h1 => by
    unfold looks
    refine looks_in o W n (i + 1) _ (by omega) (by omega) ?_ ?_
    · unfold look; split <;> (try dsimp only) <;> omega
    · unfold look; split <;> (try dsimp only) <;> omega
/-- The index that is found. -/
def found (o : Int) (W : List Int) : Int := (looks o W 16 0 (0, -1)).1
theorem found_in (o : Int) (W : List Int) : 0 ≤ found o W ∧ found o W < 16 := looks_in o W 16 0 (0, -1) (by omega) (by omega) (by simp) (by simp)
theorem search_l1 (o f least i one : Int) (W : List Int) (hW : ∀ x ∈ W, 0 ≤ x ∧ x ≤ 32768) (hWl : W.length ≤ 16) {r : Int × List Int × Int} (hi : 0 ≤ i ∧ i < 16) (n : Nat) :
    ∀ (T S A B : List Int) (s j : Int), T.length = n → S.length = T.length → A.length = B.length → j = B.length → A ++ S = W → (∀ x ∈ T, 0 ≤ x ∧ x ≤ 32768) → 0 ≤ s → s + 1073741824 * T.length ≤ 1073741824 * 20 →
    (least < 0 ∨ s + far T S < least → Ev (fun k => lsf_Search.l0 k o W f (s + far T S) (i + 1) i) r) → (¬ (least < 0 ∨ s + far T S < least) → Ev (fun k => lsf_Search.l0 k o W f least (i + 1) one) r) →
    Ev (fun k => lsf_Search.l1 k o W f least i s i (B ++ T) ((B ++ T).length : Int) j one) r := by
  induction n with
  | zero =>
    intro T S A B s j hn hs ha hj hw hT h0 hb h1 h2
    have e1 : T = [] := List.eq_nil_of_length_eq_zero hn
    subst e1
    simp only [far, Int.add_zero] at h1 h2
    refine Ev.step (fun k => by rw [lsf_Search.l1]) ?_
    rw [w64 (x := i + 1) (by omega) (by omega)]
    refine evNeg (by simp; omega) ?_
    refine evIte (fun h => h1 (.inl h)) (fun h => ?_)
    refine evIte (fun g => h1 (.inr g)) (fun g => h2 (by omega))
  | succ n ih =>
    intro T S A B s j hn hs ha hj hw hT h0 hb h1 h2
    cases T with
    | nil => simp at hn
    | cons t T =>
      cases S with
      | nil => simp at hs
      | cons w S =>
        simp at hn hs
        have ht := hT t (by simp)
        have hw2 := hW w (by rw [← hw]; simp)
        have hlen : A.length + S.length + 1 = W.length := by rw [← hw]; simp; omega
        have f1 := far_bounds [t] [w] (by simpa using ht) (by simpa using hw2)
        simp [far] at f1
        simp only [List.length_cons] at hb
        refine Ev.step (fun k => by rw [lsf_Search.l1]) ?_
        refine evPos (by simp; omega) (evPos (by omega) (evPos (by simp; omega) (evPos (by omega) ?_)))
        have er : rd W j = w := by rw [← hw]; exact rd_mid A w S j (by omega)
        rw [rd_mid B t T j hj, er, w64 (x := j + 1) (by omega) (by omega), w64 (x := t - w) (by omega) (by omega), w64 (x := (t - w) * (t - w)) (by omega) (by omega), w64 (x := s + _) (by omega) (by omega)]
        have h := ih T S (A ++ [w]) (B ++ [t]) (s + (t - w) * (t - w)) (j + 1) (by omega) (by omega) (by simp; omega) (by simp; omega) (by rw [← hw]; simp) (fun x hx => hT x (by simp [hx])) (by omega) (by omega)
        simp only [far, ← Int.add_assoc] at h1 h2
        have h3 := h h1 h2
        simpa using h3
theorem search_l0 (o : Int) (ho : o = 10 ∨ o = 16) (W : List Int) (hW : ∀ x ∈ W, 0 ≤ x ∧ x ≤ 32768) (hWl : (W.length : Int) = o) (n : Nat) : ∀ (i least one : Int), 0 ≤ i → i + n = 16 → 0 ≤ one → one < 16 →
    Ev (fun k => lsf_Search.l0 k o W (unit o) least i one) ((looks o W n i (one, least)).1, twos (unit o) W (lsfL o (looks o W n i (one, least)).1), 0) := by
  have hu : unit o = 400 ∨ unit o = 250 := by rcases ho with rfl | rfl <;> simp [unit]
  induction n with
  | zero =>
    intro i least one h0 hi h1 h2
    refine Ev.step (fun k => by rw [lsf_Search.l0]) ?_
    refine evNeg (by omega) (Ev.bind (tabs_lsf ho h1 h2) ?_)
    have hl := lsfL_length o one
    have h := search_l2 (unit o) hu one (lsfL o one).length W (lsfL o one) [] [] [] 0 rfl (by omega) rfl rfl (by simp; omega) rfl hW (lsf_bounds ho h1 h2)
    simpa [looks] using h
  | succ n ih =>
    intro i least one h0 hi h1 h2
    refine Ev.step (fun k => by rw [lsf_Search.l0]) ?_
    refine evPos (by omega) (Ev.bind (tabs_lsf ho h0 (by omega)) ?_)
    have hl := lsfL_length o i
    have key := search_l1 o (unit o) least i one W hW (by omega) (r := ((looks o W (n + 1) i (one, least)).1, twos (unit o) W (lsfL o (looks o W (n + 1) i (one, least)).1), 0)) ⟨h0, by omega⟩ (lsfL o i).length (lsfL o i) W [] [] 0 0 rfl (by omega) rfl rfl rfl (lsf_bounds ho h0 (by omega)) (by omega) (by omega) (by
        intro h
        simp only [Int.zero_add] at h ⊢
        have e : looks o W (n + 1) i (one, least) = looks o W n (i + 1) (i, far (lsfL o i) W) := by
          show looks o W n (i + 1) (look o W i (one, least)) = _
          unfold look
          rw [if_pos h]
        rw [e]
        exact ih (i + 1) _ i (by omega) (by omega) (by omega) (by omega)) (by
        intro h
        simp only [Int.zero_add] at h
        have e : looks o W (n + 1) i (one, least) = looks o W n (i + 1) (one, least) := by
          show looks o W n (i + 1) (look o W i (one, least)) = _
          unfold look
          rw [if_neg h]
        rw [e]
        exact ih (i + 1) least one (by omega) (by omega) h1 h2)
    simpa using key
theorem lsf_search_ok (o : Int) (ho : o = 10 ∨ o = 16) (w : List Int) (hw : (w.length : Int) = o) : Ev (fun k => lsf_Search.f k o w) (found o (clampL w), twos (unit o) (clampL w) (lsfL o (found o (clampL w))), 0) := by
  have hu : unit o ≠ 0 := by rcases ho with rfl | rfl <;> simp [unit]
  refine Ev.congr (fun k => by rw [lsf_Search.f, lsf_unit']) (Ev.bind (Ev.now _) ?_)
  refine evNeg hu ?_
  refine Ev.step (fun k => by rw [lsf_Search.j0]) ?_
  refine evNeg (by simp; omega) (Ev.bind (lsf_clamped' w (by omega)) ?_)
  exact search_l0 o ho (clampL w) clampL_bounds (by rw [clampL_length]; exact hw) 16 0 (-1) 0 (by omega) (by omega) (by omega) (by omega)
theorem lsf_search_not (o : Int) (w : List Int) (h : ¬ (o = 10 ∨ o = 16) ∨ (w.length : Int) ≠ o) : Ev (fun k => lsf_Search.f k o w) (0, [], 1) := by
  have hj : ∀ x y z, Ev (fun k => lsf_Search.j0 k x y z true) (0, [], 1) := by
    intro x y z
    refine Ev.step (fun k => by rw [lsf_Search.j0]) ?_
    exact evPos rfl (Ev.now _)
  refine Ev.congr (fun k => by rw [lsf_Search.f, lsf_unit']) (Ev.bind (Ev.now _) ?_)
  refine evIte (fun _ => hj _ _ _) (fun h2 => ?_)
  have ho : o = 10 ∨ o = 16 := by
    unfold unit at h2
    by_cases g1 : o = 10
    · exact .inl g1
    · by_cases g2 : o = 16
      · exact .inr g2
      · simp [g1, g2] at h2
  have e : ((w.length : Int) != o) = true := by
    rcases h with h | h
    · exact absurd ho h
    · simpa using h
  rw [e]
  exact hj _ _ _
end Go.Proofs.Ytdchabinakboeaa.Q
