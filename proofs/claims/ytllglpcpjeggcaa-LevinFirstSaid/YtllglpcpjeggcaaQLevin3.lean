/- The filter that foretells, as the program of chapter 12 finds it: lemmas for the laws. -/
import Derived.Test.YtllglpcpjeggcaaQLevin2
import Derived.Test.YtllglpcpjeggcaaQLpc
import Derived.Test.YtllglpcpjeggcaaQDivI
import Derived.Test.YtllglpcpjeggcaaPx4
import Derived.Test.YtllglpcpjeggcaaPx10
namespace Go.Proofs.Ytllglpcpjeggcaa.Q
open Go.RowKit Go.Proofs.Ytllglpcpjeggcaa.P Go.Proofs.YtllglpcpjeggcaaW.PrintWords Go.Proofs.YtllglpcpjeggcaaW.PrintLast Go.Proofs.YtllglpcpjeggcaaW.PrintMore
open Go.Proofs.Ytllglpcpjeggcaa.M
set_option linter.unusedVariables false

/-! scaled -/
def dbl (v : Int) : Int := clamp (2 * v) (-1125899906842624) 1125899906842624
def partC (v : Int) : Int := clamp v (-2199023255552) 2199023255552
def upN : Nat → List Int → List Int
  | 0, l => l
  | n + 1, l => if rd l 0 < 536870912 then upN n (l.map dbl) else l
def dnN : Nat → List Int → List Int
  | 0, l => l
  | n + 1, l => if rd l 0 ≥ 1073741824 then dnN n (l.map (· / 2)) else l
def raise1 (l : List Int) : List Int := l.set 0 (rd l 0 + rd l 0 / 1024 + 1)
def base (l : List Int) : List Int := dnN 12 (upN 29 (l.map partC))
theorem rd_map (f : Int → Int) (l : List Int) (i : Int) (h0 : 0 ≤ i) (h1 : i < l.length) : rd (l.map f) i = f (rd l i) := by
  rw [rd_in h0 (by simp; omega), rd_in (l := l) h0 (by omega), List.getElem_map]
theorem upN_length : ∀ (n : Nat) (l : List Int), (upN n l).length = l.length
  | 0, l => rfl
  | n + 1, l => by
    unfold upN; split
    · rw [upN_length n]; simp
    · rfl
theorem dnN_length : ∀ (n : Nat) (l : List Int), (dnN n l).length = l.length
  | 0, l => rfl
  | n + 1, l => by
    unfold dnN; split
    · rw [dnN_length n]; simp
    · rfl
theorem within_dbl (l : List Int) : Within 1125899906842624 (l.map dbl) := by
  intro x hx
  obtain ⟨v, _, rfl⟩ := List.mem_map.1 hx
  have := clamp_bounds (a := 2 * v) (lo := -1125899906842624) (hi := 1125899906842624) (by omega)
  unfold dbl; omega
theorem within_half {l : List Int} (h : Within 1125899906842624 l) : Within 1125899906842624 (l.map (· / 2)) := by
  intro x hx
  obtain ⟨v, hv, rfl⟩ := List.mem_map.1 hx
  have := h v hv
  omega
theorem within_upN : ∀ (n : Nat) (l : List Int), Within 1125899906842624 l → Within 1125899906842624 (upN n l)
  | 0, l, h => h
  | n + 1, l, h => by
    unfold upN; split
    · exact within_upN n _ (within_dbl l)
    · exact h
theorem within_dnN : ∀ (n : Nat) (l : List Int), Within 1125899906842624 l → Within 1125899906842624 (dnN n l)
  | 0, l, h => h
  | n + 1, l, h => by
    unfold dnN; split
    · exact within_dnN n _ (within_half h)
    · exact h
theorem within_part (l : List Int) : Within 1125899906842624 (l.map partC) := by
  intro x hx
  obtain ⟨v, _, rfl⟩ := List.mem_map.1 hx
  have := clamp_bounds (a := v) (lo := -2199023255552) (hi := 2199023255552) (by omega)
  unfold partC; omega
theorem dbl_small {v : Int} (h1 : 1 ≤ v) (h2 : v < 536870912) : dbl v = 2 * v := clamp_id (by omega) (by omega)
theorem upN_first : ∀ (n : Nat) (l : List Int), 0 < l.length → 1 ≤ rd l 0 → rd l 0 ≤ 2199023255552 → 536870912 ≤ rd l 0 * 2 ^ n → 536870912 ≤ rd (upN n l) 0 ∧ rd (upN n l) 0 ≤ 2199023255552
  | 0, l, h0, h1, h2, h3 => by unfold upN; simp at h3; omega
  | n + 1, l, h0, h1, h2, h3 => by
    unfold upN
    split
    · rename_i h
      have e : rd (l.map dbl) 0 = 2 * rd l 0 := by rw [rd_map _ _ _ (by omega) (by omega), dbl_small h1 h]
      refine upN_first n _ (by simpa using h0) (by omega) (by omega) ?_
      rw [e, Int.mul_comm 2, Int.mul_assoc, ← Int.pow_succ']
      exact h3
    · omega
theorem dnN_first : ∀ (n : Nat) (l : List Int), 0 < l.length → 536870912 ≤ rd l 0 → rd l 0 < 1073741824 * 2 ^ n → 536870912 ≤ rd (dnN n l) 0 ∧ rd (dnN n l) 0 < 1073741824
  | 0, l, h0, h1, h2 => by unfold dnN; simp at h2; omega
  | n + 1, l, h0, h1, h2 => by
    unfold dnN
    split
    · rename_i h
      have e : rd (l.map (· / 2)) 0 = rd l 0 / 2 := by rw [rd_map _ _ _ (by omega) (by omega)]
      refine dnN_first n _ (by simpa using h0) (by omega) ?_
      rw [Int.pow_succ] at h2
      generalize (2 : Int) ^ n = P at h2 ⊢
      omega
    · omega
theorem base_first (l : List Int) (h0 : 0 < l.length) (h1 : 1 ≤ rd l 0) : 536870912 ≤ rd (base l) 0 ∧ rd (base l) 0 < 1073741824 := by
  have e : rd (l.map partC) 0 = partC (rd l 0) := rd_map _ _ _ (by omega) (by omega)
  have hp : 1 ≤ partC (rd l 0) ∧ partC (rd l 0) ≤ 2199023255552 := by
    have := clamp_bounds (a := rd l 0) (lo := -2199023255552) (hi := 2199023255552) (by omega)
    unfold partC
    refine ⟨?_, this.2⟩
    unfold clamp
    split
    · omega
    · split <;> omega
  have hu := upN_first 29 (l.map partC) (by simpa using h0) (by omega) (by omega) (by rw [e]; simp; omega)
  exact dnN_first 12 _ (by rw [upN_length]; simpa using h0) hu.1 (by simp; omega)
theorem base_length (l : List Int) : (base l).length = l.length := by unfold base; rw [dnN_length, upN_length]; simp
theorem within_base (l : List Int) : Within 1125899906842624 (base l) := within_dnN _ _ (within_upN _ _ (within_part l))

theorem scaled_l4 (n : Nat) : ∀ (S A : List Int) (i m : Int) {r : List Int}, S.length = n → i = A.length → m = ((A.length + S.length : Nat) : Int) → A.length + S.length ≤ 1000 →
    Ev (fun k => levin_scaled.l3 k ((A ++ S).map (· / 2))) r → Ev (fun k => levin_scaled.l4 k (A.map (· / 2) ++ S) m i) r := by
  induction n with
  | zero =>
    intro S A i m r hn hi hm hl h
    have e1 : S = [] := List.eq_nil_of_length_eq_zero hn
    subst e1
    simp at hm hl
    refine Ev.step (fun k => by rw [levin_scaled.l4]) ?_
    exact evNeg (by omega) (by simpa using h)
  | succ n ih =>
    intro S A i m r hn hi hm hl h
    cases S with
    | nil => simp at hn
    | cons v S =>
      simp at hn hm hl
      refine Ev.step (fun k => by rw [levin_scaled.l4]) ?_
      rw [rd_mid (A.map (· / 2)) v S i (by simpa using hi), w64 (x := i + 1) (by omega) (by omega), set_mid (A.map (· / 2)) v S _ i (by simpa using hi)]
      refine evPos (by omega) (evPos (by omega) (evPos (by simp; omega) ?_))
      have g := ih S (A ++ [v]) (i + 1) m (r := r) (by omega) (by simp; omega) (by simp; omega) (by simp; omega) (by simpa using h)
      simpa using g
theorem scaled_l3 (n : Nat) : ∀ (l : List Int), 0 < l.length → l.length ≤ 1000 → 536870912 ≤ rd l 0 → rd l 0 < 1073741824 * 2 ^ n → rd l 0 ≤ 4398046511104 →
    Ev (fun k => levin_scaled.l3 k l) (raise1 (dnN n l)) := by
  induction n with
  | zero =>
    intro l h0 hl h1 h2 h3
    simp at h2
    refine Ev.step (fun k => by rw [levin_scaled.l3]) ?_
    refine evPos (by omega) (evNeg (by omega) ?_)
    rw [Int.tdiv_eq_ediv_of_nonneg (by omega), w64 (x := rd l 0 / 1024) (by omega) (by omega), w64 (x := rd l 0 / 1024 + 1) (by omega) (by omega), w64 (by omega) (by omega)]
    refine evConst ?_
    unfold raise1 dnN
    rw [Int.add_assoc]; rfl
  | succ n ih =>
    intro l h0 hl h1 h2 h3
    refine Ev.step (fun k => by rw [levin_scaled.l3]) ?_
    refine evPos (by omega) ?_
    unfold dnN
    refine evIte (fun h => ?_) (fun h => ?_)
    · rw [if_pos h]
      have e : rd (l.map (· / 2)) 0 = rd l 0 / 2 := by rw [rd_map _ _ _ (by omega) (by omega)]
      have g := ih (l.map (· / 2)) (by simpa using h0) (by simpa using hl) (by omega) (by
        rw [e]
        rw [Int.pow_succ] at h2
        generalize (2 : Int) ^ n = P at h2 ⊢
        omega) (by omega)
      have g2 := scaled_l4 l.length l [] 0 l.length (r := raise1 (dnN n (l.map (· / 2)))) rfl rfl (by simp) (by simpa using hl) (by simpa using g)
      simpa using g2
    · rw [if_neg h, Int.tdiv_eq_ediv_of_nonneg (by omega), w64 (x := rd l 0 / 1024) (by omega) (by omega), w64 (x := rd l 0 / 1024 + 1) (by omega) (by omega), w64 (by omega) (by omega)]
      refine evConst ?_
      unfold raise1
      rw [Int.add_assoc]; rfl
theorem scaled_l2 (n : Nat) : ∀ (S A : List Int) (i m : Int) {r : List Int}, S.length = n → i = A.length → m = ((A.length + S.length : Nat) : Int) → A.length + S.length ≤ 1000 → Within 1125899906842624 S →
    Ev (fun k => levin_scaled.l1 k ((A ++ S).map dbl)) r → Ev (fun k => levin_scaled.l2 k (A.map dbl ++ S) m i) r := by
  induction n with
  | zero =>
    intro S A i m r hn hi hm hl hw h
    have e1 : S = [] := List.eq_nil_of_length_eq_zero hn
    subst e1
    simp at hm hl
    refine Ev.step (fun k => by rw [levin_scaled.l2]) ?_
    exact evNeg (by omega) (by simpa using h)
  | succ n ih =>
    intro S A i m r hn hi hm hl hw h
    cases S with
    | nil => simp at hn
    | cons v S =>
      simp at hn hm hl
      have hv := hw v (by simp)
      refine Ev.step (fun k => by rw [levin_scaled.l2]) ?_
      rw [rd_mid (A.map dbl) v S i (by simpa using hi), w64 (x := i + 1) (by omega) (by omega), w64 (x := 2 * v) (by omega) (by omega)]
      refine evPos (by omega) (evPos (by omega) (evPos (by simp; omega) (Ev.bind (fix_clamp _ _ _) ?_)))
      rw [set_mid (A.map dbl) v S _ i (by simpa using hi)]
      have g := ih S (A ++ [v]) (i + 1) m (r := r) (by omega) (by simp; omega) (by simp; omega) (by simp; omega) (fun x hx => hw x (by simp [hx])) (by simpa using h)
      simpa [dbl] using g
theorem scaled_l1 (n : Nat) : ∀ (l : List Int), 0 < l.length → l.length ≤ 1000 → Within 1125899906842624 l → 1 ≤ rd l 0 → rd l 0 ≤ 2199023255552 → 536870912 ≤ rd l 0 * 2 ^ n →
    Ev (fun k => levin_scaled.l1 k l) (raise1 (dnN 12 (upN n l))) := by
  have hend : ∀ (l : List Int), 0 < l.length → l.length ≤ 1000 → 536870912 ≤ rd l 0 → rd l 0 ≤ 2199023255552 → Ev (fun k => levin_scaled.l3 k l) (raise1 (dnN 12 l)) :=
    fun l h0 hl h1 h2 => scaled_l3 12 l h0 hl h1 (by simp; omega) (by omega)
  induction n with
  | zero =>
    intro l h0 hl hw h1 h2 h3
    simp at h3
    refine Ev.step (fun k => by rw [levin_scaled.l1]) ?_
    exact evPos (by omega) (evNeg (by omega) (hend l h0 hl h3 h2))
  | succ n ih =>
    intro l h0 hl hw h1 h2 h3
    refine Ev.step (fun k => by rw [levin_scaled.l1]) ?_
    refine evPos (by omega) ?_
    unfold upN
    refine evIte (fun h => ?_) (fun h => ?_)
    · rw [if_pos h]
      have e : rd (l.map dbl) 0 = 2 * rd l 0 := by rw [rd_map _ _ _ (by omega) (by omega), dbl_small h1 h]
      have g := ih (l.map dbl) (by simpa using h0) (by simpa using hl) (within_dbl l) (by omega) (by omega) (by
        rw [e, Int.mul_comm 2, Int.mul_assoc, ← Int.pow_succ']
        exact h3)
      have g2 := scaled_l2 l.length l [] 0 l.length (r := raise1 (dnN 12 (upN n (l.map dbl)))) rfl rfl (by simp) (by simpa using hl) hw (by simpa using g)
      simpa using g2
    · rw [if_neg h]
      exact hend l h0 hl (by omega) h2
theorem scaled_l0 (n : Nat) : ∀ (S A : List Int) (i m : Int) {r : List Int}, S.length = n → i = A.length → m = ((A.length + S.length : Nat) : Int) → A.length + S.length ≤ 1000 →
    Ev (fun k => levin_scaled.l1 k ((A ++ S).map partC)) r → Ev (fun k => levin_scaled.l0 k (A.map partC ++ List.replicate n 0) (A ++ S) m i) r := by
  induction n with
  | zero =>
    intro S A i m r hn hi hm hl h
    have e1 : S = [] := List.eq_nil_of_length_eq_zero hn
    subst e1
    simp at hm hl
    refine Ev.step (fun k => by rw [levin_scaled.l0]) ?_
    exact evNeg (by omega) (by simpa using h)
  | succ n ih =>
    intro S A i m r hn hi hm hl h
    cases S with
    | nil => simp at hn
    | cons v S =>
      simp at hn hm hl
      refine Ev.step (fun k => by rw [levin_scaled.l0]) ?_
      rw [rd_mid A v S i hi, w64 (x := i + 1) (by omega) (by omega)]
      refine evPos (by omega) (evPos (by omega) (evPos (by simp; omega) (Ev.bind (fix_clamp _ _ _) (evPos (by simp; omega) ?_))))
      rw [List.replicate_succ, set_mid (A.map partC) 0 (List.replicate n 0) _ i (by simpa using hi)]
      have g := ih S (A ++ [v]) (i + 1) m (r := r) (by omega) (by simp; omega) (by simp; omega) (by simp; omega) (by simpa using h)
      simpa [partC] using g
theorem part_range {v : Int} (h : 1 ≤ v) : 1 ≤ partC v ∧ partC v ≤ 2199023255552 := by
  have := clamp_bounds (a := v) (lo := -2199023255552) (hi := 2199023255552) (by omega)
  unfold partC
  refine ⟨?_, this.2⟩
  unfold clamp
  split
  · omega
  · split <;> omega
theorem levin_scaled' (l : List Int) (h0 : 0 < l.length) (hl : l.length ≤ 1000) (h1 : 1 ≤ rd l 0) : Ev (fun k => levin_scaled.f k l) (raise1 (base l)) := by
  refine Ev.congr (fun k => by rw [levin_scaled.f]) ?_
  refine evPos (by omega) (evPos (by omega) ?_)
  have e : rd (l.map partC) 0 = partC (rd l 0) := rd_map _ _ _ (by omega) (by omega)
  have hp := part_range h1
  have g := scaled_l1 29 (l.map partC) (by simpa using h0) (by simpa using hl) (within_part l) (by omega) (by omega) (by rw [e]; simp; omega)
  have g2 := scaled_l0 l.length l [] 0 l.length (r := raise1 (base l)) rfl rfl (by simp) (by simpa using hl) (by simpa [base] using g)
  simpa using g2

/-! solved -/
def tN (r A : List Int) (m : Nat) : Nat → Int
  | 0 => rd r ((m : Int) + 1)
  | j + 1 => tN r A m j - mul (rd A j) (rd r ((m : Int) - j)) 24
def mir (r A : List Int) (m : Nat) (e : Int) : Int := clamp (divI (tN r A m m) e 24) (-16760438) 16760438
def aI (A : List Int) (m : Nat) (k : Int) (i : Nat) : Int := clamp (rd A i - mul k (rd A ((m : Int) - 1 - i)) 24) (-2147483648) 2147483648
def nextA (A : List Int) (m : Nat) (k : Int) : List Int := (List.range m).map (aI A m k) ++ [k]
def nextE (e k : Int) : Int := mx (mul e (16777216 - mul k k 24) 24) 1
def solveN (r : List Int) : Nat → Nat → List Int → Int → List Int
  | 0, _, A, _ => A
  | n + 1, m, A, e => solveN r n (m + 1) (nextA A m (mir r A m e)) (nextE e (mir r A m e))
def solved (l : List Int) : List Int := fit ((solveN (raise1 (base l)) (l.length - 1) 0 [] (rd (raise1 (base l)) 0)).map fun v => mul v 1 12)
theorem nextA_length (A : List Int) (m : Nat) (k : Int) : (nextA A m k).length = m + 1 := by simp [nextA]
theorem solveN_length (r : List Int) : ∀ (n m : Nat) (A : List Int) (e : Int), A.length = m → (solveN r n m A e).length = m + n
  | 0, m, A, e, h => by simpa [solveN] using h
  | n + 1, m, A, e, h => by
    unfold solveN
    rw [solveN_length r n (m + 1) _ _ (nextA_length _ _ _)]; omega
def Big (A : List Int) : Prop := Within 2147483648 A
theorem big_next (A : List Int) (m : Nat) (r : List Int) (e : Int) : Big (nextA A m (mir r A m e)) := by
  intro x hx
  unfold nextA at hx
  rcases List.mem_append.1 hx with h | h
  · obtain ⟨i, _, rfl⟩ := List.mem_map.1 h
    have := clamp_bounds (a := rd A i - mul (mir r A m e) (rd A ((m : Int) - 1 - i)) 24) (lo := -2147483648) (hi := 2147483648) (by omega)
    unfold aI; omega
  · simp at h
    have := clamp_bounds (a := divI (tN r A m m) e 24) (lo := -16760438) (hi := 16760438) (by omega)
    unfold mir at h; omega
theorem tN_bounds (r A : List Int) (m : Nat) (hr : Within 1125899906842625 r) (hm : m ≤ 100) : ∀ j : Nat, j ≤ 100 → -1125899906842625 - 274877906945 * j ≤ tN r A m j ∧ tN r A m j ≤ 1125899906842625 + 274877906945 * j
  | 0, _ => by have := rd_bounds (b := 1125899906842625) (by omega) hr ((m : Int) + 1); simp [tN]; omega
  | j + 1, h => by
    have ih := tN_bounds r A m hr hm j (by omega)
    have := mul24_bounds (rd A j) (rd r ((m : Int) - j))
    unfold tN; omega
theorem rd_left (A B : List Int) (i : Int) (h0 : 0 ≤ i) (h1 : i < A.length) : rd (A ++ B) i = rd A i := by
  rw [rd_in h0 (by simp; omega), rd_in (l := A) h0 (by omega), List.getElem_append_left (by omega)]
theorem solve_l3 (n : Nat) : ∀ (S A : List Int) (i m : Int), S.length = n → i = A.length → m = ((A.length + S.length : Nat) : Int) → A.length + S.length ≤ 32 →
    Ev (fun k => levin_Solve.l3 k (A.map (fun v => mul v 1 12) ++ S) m i) (fit ((A ++ S).map fun v => mul v 1 12), 0) := by
  induction n with
  | zero =>
    intro S A i m hn hi hm hl
    have e1 : S = [] := List.eq_nil_of_length_eq_zero hn
    subst e1
    simp at hm hl
    refine Ev.step (fun k => by rw [levin_Solve.l3]) ?_
    refine evNeg (by omega) ?_
    have h := lpc_fit (A.map fun v => mul v 1 12) (by simpa using hl)
    simp only [List.append_nil]
    exact Ev.bind h (Ev.now (fit (A.map fun v => mul v 1 12), (0 : Int)))
  | succ n ih =>
    intro S A i m hn hi hm hl
    cases S with
    | nil => simp at hn
    | cons v S =>
      simp at hn hm hl
      refine Ev.step (fun k => by rw [levin_Solve.l3]) ?_
      rw [rd_mid (A.map fun v => mul v 1 12) v S i (by simpa using hi), w64 (x := i + 1) (by omega) (by omega)]
      refine evPos (by omega) (evPos (by omega) (evPos (by simp; omega) (Ev.bind (fix_mul _ _ 12 (by omega) (by omega)) ?_)))
      rw [set_mid (A.map fun v => mul v 1 12) v S _ i (by simpa using hi)]
      have g := ih S (A ++ [v]) (i + 1) m (by omega) (by simp; omega) (by simp; omega) (by simp; omega)
      simpa using g
theorem solve_l2 (r A Z : List Int) (e kk : Int) (m : Nat) (hA : A.length = m) (hm : m ≤ 32) (hb : Big A) (ord : Int) (km : Int) (hkm : km = m) {res : List Int × Int} (x : Int) (d : Nat) : ∀ (i : Nat), i + d = m →
    Ev (fun k => levin_Solve.l0 k r (nextA A m kk ++ Z) (nextE e kk) ord (wrap64 (km + 1))) res →
    Ev (fun k => levin_Solve.l2 k r ((List.range i).map (aI A m kk) ++ A.drop i ++ x :: Z) e m kk A ord km m i) res := by
  induction d with
  | zero =>
    intro i hi h
    have e0 : i = m := by omega
    subst e0
    refine Ev.step (fun k => by rw [levin_Solve.l2]) ?_
    have e1 : A.drop i = [] := List.drop_eq_nil_of_le (by omega)
    rw [e1, List.append_nil]
    have b1 := mul24_bounds kk kk
    refine evNeg (by omega) (evPos (by omega) (evPos (by simp; omega) (Ev.bind (fix_mul _ _ 24 (by omega) (by omega)) ?_)))
    rw [w64 (x := 16777216 - _) (by omega) (by omega)]
    refine Ev.bind (fix_mul _ _ 24 (by omega) (by omega)) ?_
    rw [set_mid ((List.range i).map (aI A i kk)) x Z kk i (by simp)]
    have e2 : (List.range i).map (aI A i kk) ++ kk :: Z = nextA A i kk ++ Z := by simp [nextA]
    rw [e2]
    exact h
  | succ d ih =>
    intro i hi h
    refine Ev.step (fun k => by rw [levin_Solve.l2]) ?_
    have hb1 := rd_bounds (b := 2147483648) (by omega) hb (i : Int)
    have hb2 := mul24_bounds kk (rd A ((m : Int) - 1 - i))
    rw [w64 (x := (m : Int) - 1) (by omega) (by omega), w64 (x := (m : Int) - 1 - i) (by omega) (by omega), w64 (x := (i : Int) + 1) (by omega) (by omega)]
    refine evPos (by omega) (evPos (by omega) (evPos (by omega) (evPos (by omega) (evPos (by omega) (Ev.bind (fix_mul _ _ 24 (by omega) (by omega)) ?_)))))
    rw [w64 (x := rd A i - _) (by omega) (by omega)]
    refine Ev.bind (fix_clamp _ _ _) (evPos (by simp; omega) ?_)
    have e1 : A.drop i = A[i]'(by omega) :: A.drop (i + 1) := List.drop_eq_getElem_cons (by omega)
    rw [e1, List.append_assoc, List.cons_append, set_mid ((List.range i).map (aI A m kk)) _ _ _ i (by simp)]
    have g := ih (i + 1) (by omega) h
    rw [List.range_succ, List.map_append] at g
    simpa [aI] using g
theorem solve_l1 (r A Z : List Int) (e : Int) (m : Nat) (hA : A.length = m) (hm : m ≤ 31) (hb : Big A) (hr : Within 1125899906842625 r) (hrl : m + 1 < r.length) (ord km : Int) (hkm : km = m) {res : List Int × Int} (x : Int) (hZ : Z.length ≤ 100)
    (h : Ev (fun k => levin_Solve.l0 k r (nextA A m (mir r A m e) ++ Z) (nextE e (mir r A m e)) ord (wrap64 (km + 1))) res) (d : Nat) : ∀ (j : Nat), j + d = m →
    Ev (fun k => levin_Solve.l1 k r (A ++ x :: Z) e m (tN r A m j) ord km m j) res := by
  induction d with
  | zero =>
    intro j hj
    have e0 : j = m := by omega
    subst e0
    refine Ev.step (fun k => by rw [levin_Solve.l1]) ?_
    refine evNeg (by omega) (Ev.bind (fix_divI _ _ _) (Ev.bind (fix_clamp _ _ _) (Ev.bind (Ev.now _) (evPos (by omega) (evPos (by simp; omega) (Ev.bind (Ev.now _) ?_))))))
    have et : (A ++ x :: Z).take ((j : Int)).toNat = A := by rw [Int.toNat_natCast, ← hA]; simp
    rw [et]
    refine evPos (by simp; omega) ?_
    have g := solve_l2 r A Z e (mir r A j e) j hA (by omega) hb ord km hkm (res := res) x j 0 (by omega) h
    simpa [mir] using g
  | succ d ih =>
    intro j hj
    have hb1 := tN_bounds r A m hr (by omega) j (by omega)
    have hb2 := mul24_bounds (rd A j) (rd r ((m : Int) - j))
    refine Ev.step (fun k => by rw [levin_Solve.l1]) ?_
    rw [w64 (x := (m : Int) - j) (by omega) (by omega), w64 (x := (j : Int) + 1) (by omega) (by omega), rd_left A _ j (by omega) (by omega)]
    refine evPos (by omega) (evPos (by omega) (evPos (by simp; omega) (evPos (by omega) (evPos (by omega) (Ev.bind (fix_mul _ _ 24 (by omega) (by omega)) ?_)))))
    rw [w64 (x := tN r A m j - _) (by omega) (by omega)]
    exact ih (j + 1) (by omega)
theorem solve_l0 (r : List Int) (hr : Within 1125899906842625 r) (M : Nat) (hM : M ≤ 32) (hrl : r.length = M + 1) (n : Nat) : ∀ (m : Nat) (A : List Int) (e i ord : Int), m + n = M → A.length = m → Big A → i = m → ord = M →
    Ev (fun k => levin_Solve.l0 k r (A ++ List.replicate n 0) e ord i) (fit ((solveN r n m A e).map fun v => mul v 1 12), 0) := by
  induction n with
  | zero =>
    intro m A e i ord hm hA hb hi ho
    refine Ev.step (fun k => by rw [levin_Solve.l0]) ?_
    refine evNeg (by omega) ?_
    have g := solve_l3 A.length A [] 0 A.length rfl rfl (by simp) (by simp; omega)
    simpa [solveN] using g
  | succ n ih =>
    intro m A e i ord hm hA hb hi ho
    subst hi
    refine Ev.step (fun k => by rw [levin_Solve.l0]) ?_
    rw [w64 (x := (m : Int) + 1) (by omega) (by omega), List.replicate_succ]
    refine evPos (by omega) (evPos (by omega) (evPos (by omega) ?_))
    refine solve_l1 r A _ e m hA (by omega) hb hr (by omega) ord m rfl 0 (by simp; omega) ?_ m 0 (by omega)
    have g := ih (m + 1) (nextA A m (mir r A m e)) (nextE e (mir r A m e)) ((m + 1 : Nat) : Int) ord (by omega) (nextA_length _ _ _) (big_next A m r e) rfl ho
    rw [w64 (x := (m : Int) + 1) (by omega) (by omega)]
    exact g
theorem within_raise (l : List Int) (h0 : 0 < l.length) (h1 : 1 ≤ rd l 0) : Within 1125899906842625 (raise1 (base l)) := by
  intro x hx
  have hb := base_first l h0 h1
  unfold raise1 at hx
  rcases List.mem_or_eq_of_mem_set hx with h | h
  · have := within_base l x h; omega
  · omega
theorem levin_solve (l : List Int) (h1 : 2 ≤ l.length) (h2 : l.length ≤ 33) : Ev (fun k => levin_Solve.f k l) (if rd l 0 < 1 then List.replicate (l.length - 1) 0 else solved l, 0) := by
  refine Ev.congr (fun k => by rw [levin_Solve.f]) ?_
  refine evNeg (by omega) ?_
  rw [decide_eq_false (by omega)]
  refine Ev.step (fun k => by rw [levin_Solve.j0]) ?_
  have e1 : ((l.length : Int) - 1).toNat = l.length - 1 := by omega
  rw [w64 (x := (l.length : Int) - 1) (by omega) (by omega), e1]
  refine evNeg (by simp) (evPos (by omega) (evPos (by omega) (Ev.bind (Ev.now _) (evPos (by omega) (evIte (fun h => ?_) (fun h => ?_))))))
  · rw [if_pos h]; exact Ev.now _
  · rw [if_neg h]
    refine Ev.bind (levin_scaled' l (by omega) (by omega) (by omega)) ?_
    have e2 : (raise1 (base l)).length = l.length := by unfold raise1; rw [List.length_set, base_length]
    refine evPos (by omega) ?_
    have g := solve_l0 (raise1 (base l)) (within_raise l (by omega) (by omega)) (l.length - 1) (by omega) (by omega) (l.length - 1) 0 [] (rd (raise1 (base l)) 0) 0 ((l.length - 1 : Nat) : Int) (by omega) rfl (by intro x hx; simp at hx) rfl rfl
    simpa [solved] using g
theorem levin_solve_bad (l : List Int) (h : ¬ (2 ≤ l.length ∧ l.length ≤ 33)) : Ev (fun k => levin_Solve.f k l) ([], 1) := by
  have hj : ∀ b, b = true → Ev (fun k => levin_Solve.j0 k l b) ([], 1) := by
    intro b hb
    refine Ev.step (fun k => by rw [levin_Solve.j0]) ?_
    exact evPos hb (Ev.now _)
  refine Ev.congr (fun k => by rw [levin_Solve.f]) ?_
  refine evIte (fun _ => hj _ rfl) (fun h1 => hj _ (decide_eq_true (by omega)))
end Go.Proofs.Ytllglpcpjeggcaa.Q
