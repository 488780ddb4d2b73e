/- Filters judged, weakened and fitted, as the program does it: lemmas for the laws. -/
import Derived.Test.YtllglpcpjeggcaaQDiv2
import Derived.Test.YtllglpcpjeggcaaPx7
import Derived.Test.YtllglpcpjeggcaaPx8
import Derived.Test.YtllglpcpjeggcaaPx9
import Derived.KernelRfl
namespace Go.Proofs.Ytllglpcpjeggcaa.Q
open Go.RowKit Go.Proofs.Ytllglpcpjeggcaa.P Go.Proofs.YtllglpcpjeggcaaW.PrintWords Go.Proofs.YtllglpcpjeggcaaW.PrintLast Go.Proofs.YtllglpcpjeggcaaW.PrintMore
open Go.Proofs.Ytllglpcpjeggcaa.M
set_option linter.unusedVariables false

/-! weakened -/
def chE (c : Int) : Nat → Int → Int
  | 0, v => v
  | n + 1, v => chE c n (mul v c 16)
def chirpL (c : Int) : Nat → List Int → List Int
  | _, [] => []
  | i, v :: l => chE c (i + 1) v :: chirpL c (i + 1) l
theorem chirpL_length (c : Int) : ∀ (i : Nat) (l : List Int), (chirpL c i l).length = l.length
  | _, [] => rfl
  | i, v :: l => by simp [chirpL, chirpL_length c (i + 1) l]
theorem chirp_l1 (c : Int) (n : Nat) : ∀ (out : List Int) (idx v : Int) (W : List Int) (len i bound j : Int) (r : List Int), bound = j + n → 0 ≤ j → bound ≤ 1000 → 0 ≤ i → i ≤ 1000 → 0 ≤ idx → idx < out.length →
    Ev (fun k => lpc_Chirp.l0 k c (out.set idx.toNat (chE c n v)) W len (i + 1)) r → Ev (fun k => lpc_Chirp.l1 k c out idx v W len i bound j) r := by
  induction n with
  | zero =>
    intro out idx v W len i bound j r hb hj hb2 hi hi2 h0 h1 h
    refine Ev.step (fun k => by rw [lpc_Chirp.l1]) ?_
    rw [w64 (x := i + 1) (by omega) (by omega)]
    exact evNeg (by omega) (evPos h0 (evPos h1 h))
  | succ n ih =>
    intro out idx v W len i bound j r hb hj hb2 hi hi2 h0 h1 h
    refine Ev.step (fun k => by rw [lpc_Chirp.l1]) ?_
    rw [w64 (x := j + 1) (by omega) (by omega)]
    refine evPos (by omega) (Ev.bind (fix_mul v c 16 (by omega) (by omega)) ?_)
    exact ih out idx _ W len i bound (j + 1) r (by omega) (by omega) hb2 hi hi2 h0 h1 h
theorem chirp_l0 (c : Int) (n : Nat) : ∀ (S A D : List Int) (i m : Int), S.length = n → D.length = A.length → i = A.length → m = ((A.length + S.length : Nat) : Int) → A.length + S.length ≤ 100 →
    Ev (fun k => lpc_Chirp.l0 k c (D ++ List.replicate n 0) (A ++ S) m i) (D ++ chirpL c A.length S) := by
  induction n with
  | zero =>
    intro S A D i m hn hd hi hm hl
    have e1 : S = [] := List.eq_nil_of_length_eq_zero hn
    subst e1
    refine Ev.step (fun k => by rw [lpc_Chirp.l0]) ?_
    simp at hm
    refine evNeg (by omega) ?_
    simpa [chirpL] using Ev.now D
  | succ n ih =>
    intro S A D i m hn hd hi hm hl
    cases S with
    | nil => simp at hn
    | cons v S =>
      simp at hn hm hl
      refine Ev.step (fun k => by rw [lpc_Chirp.l0]) ?_
      refine evPos (by omega) (evPos (by omega) (evPos (by simp; omega) ?_))
      rw [rd_mid A v S i hi, w64 (x := i + 1) (by omega) (by omega)]
      refine chirp_l1 c (A.length + 1) _ _ _ _ _ _ _ 0 _ (by omega) (by omega) (by omega) (by omega) (by omega) (by omega) (by simp; omega) ?_
      rw [List.replicate_succ, set_mid D 0 (List.replicate n 0) _ i (by omega)]
      have h := ih S (A ++ [v]) (D ++ [chE c (A.length + 1) v]) (i + 1) m (by omega) (by simp; omega) (by simp; omega) (by simp; omega) (by simp; omega)
      simpa [chirpL] using h
def chirp (l : List Int) (c : Int) : List Int := chirpL (clamp c 0 65536) 0 l
theorem lpc_chirp (l : List Int) (c : Int) (hl : l.length ≤ 32) : Ev (fun k => lpc_Chirp.f k l c) (chirp l c) := by
  refine Ev.congr (fun k => by rw [lpc_Chirp.f]) ?_
  refine evNeg (by omega) (Ev.bind (fix_clamp c 0 65536) (evPos (by omega) (evPos (by omega) ?_)))
  have h := chirp_l0 (clamp c 0 65536) l.length l [] [] 0 l.length rfl rfl rfl (by simp) (by simp; omega)
  exact h
/-- Drawn toward nought. -/
def Under (v w : Int) : Prop := (0 ≤ v ∧ 0 ≤ w ∧ w ≤ v) ∨ (v ≤ 0 ∧ w ≤ 0 ∧ v ≤ w)
theorem mul16 (a b : Int) : mul a b 16 = (fac a * fac b + 32768) / 65536 := by
  unfold mul; rw [if_neg (by omega), if_neg (by omega), if_neg (by omega)]; rfl
theorem mul_under {v c : Int} (hv : -2147483648 ≤ v ∧ v ≤ 2147483648) (hc : 0 ≤ c ∧ c ≤ 65536) : Under v (mul v c 16) := by
  rw [mul16, fac_id hv.1 hv.2, fac_id (by omega) (by omega)]
  by_cases h : 0 ≤ v
  · have h1 : v * c ≤ v * 65536 := Int.mul_le_mul_of_nonneg_left hc.2 h
    have h2 : 0 ≤ v * c := Int.mul_nonneg h hc.1
    left; omega
  · have h1 : v * 65536 ≤ v * c := Int.mul_le_mul_of_nonpos_left (by omega) hc.2
    have h2 : v * c ≤ 0 := Int.mul_nonpos_of_nonpos_of_nonneg (by omega) hc.1
    right; omega
theorem chE_under {c : Int} (hc : 0 ≤ c ∧ c ≤ 65536) : ∀ (n : Nat) {v : Int}, -2147483648 ≤ v ∧ v ≤ 2147483648 → Under v (chE c n v)
  | 0, v, hv => by unfold Under chE; omega
  | n + 1, v, hv => by
    have h1 := mul_under hv hc
    have h2 : -2147483648 ≤ mul v c 16 ∧ mul v c 16 ≤ 2147483648 := by unfold Under at h1; omega
    have h3 := chE_under hc n h2
    unfold Under at h1 h3 ⊢
    unfold chE
    omega
theorem chE_one : ∀ (n : Nat) {v : Int}, -2147483648 ≤ v ∧ v ≤ 2147483648 → chE 65536 n v = v
  | 0, v, hv => rfl
  | n + 1, v, hv => by
    have e : mul v 65536 16 = v := by
      rw [mul16, fac_id hv.1 hv.2, fac_id (by omega) (by omega)]; omega
    unfold chE
    rw [e]
    exact chE_one n hv
theorem chE_nought : ∀ (n : Nat) (v : Int), chE 0 (n + 1) v = 0
  | 0, v => by
    show mul v 0 16 = 0
    rw [mul16, fac_id (a := 0) (by omega) (by omega), Int.mul_zero]; rfl
  | n + 1, v => by
    show chE 0 (n + 1) (mul v 0 16) = 0
    exact chE_nought n _
theorem chirpL_one : ∀ (i : Nat) (l : List Int), (∀ v ∈ l, -2147483648 ≤ v ∧ v ≤ 2147483648) → chirpL 65536 i l = l
  | _, [], _ => rfl
  | i, v :: l, h => by
    unfold chirpL
    rw [chE_one (i + 1) (h v (by simp)), chirpL_one (i + 1) l (fun x hx => h x (by simp [hx]))]
theorem chirpL_nought : ∀ (i : Nat) (l : List Int), chirpL 0 i l = List.replicate l.length 0
  | _, [] => rfl
  | i, v :: l => by
    unfold chirpL
    rw [chE_nought i v, chirpL_nought (i + 1) l]
    rfl
theorem chirpL_bound {c : Int} (hc : 0 ≤ c ∧ c ≤ 65536) : ∀ (i : Nat) (l : List Int), (∀ v ∈ l, -131072 ≤ v ∧ v ≤ 131072) → ∀ v ∈ chirpL c i l, -131072 ≤ v ∧ v ≤ 131072
  | _, [], _ => by simp [chirpL]
  | i, v :: l, h => by
    intro x hx
    unfold chirpL at hx
    rcases List.mem_cons.1 hx with e | hx
    · have h1 := h v (by simp)
      have h2 := chE_under hc (i + 1) (v := v) (by omega)
      unfold Under at h2
      omega
    · exact chirpL_bound hc (i + 1) l (fun y hy => h y (by simp [hy])) x hx

/-! judged -/
def nextB (r d : Int) (old : List Int) (m i : Nat) : Int := clamp (fac (rd old i + mul r (rd old ((m : Int) - 1 - i)) 24) * 2 ^ (24 : Int).toNat / d) (-2147483648) 2147483648
def stabN : Nat → List Int → Bool
  | 0, _ => true
  | m + 1, P => if rd P m > 16760438 then false else if rd P m < -16760438 then false else stabN m ((List.range m).map (nextB (rd P m) (16777216 - mul (rd P m) (rd P m) 24) (P.take m) m))
theorem mul24 (a b : Int) : mul a b 24 = (fac a * fac b + 8388608) / 16777216 := by
  unfold mul; rw [if_neg (by omega), if_neg (by omega), if_neg (by omega)]; rfl
theorem d_bounds {r : Int} (h : -16760438 ≤ r ∧ r ≤ 16760438) : 1 ≤ 16777216 - mul r r 24 ∧ 16777216 - mul r r 24 ≤ 16777216 := by
  rw [mul24, fac_id (by omega) (by omega)]
  have h1 := prod_le (x := r) (y := r) (a := 16760438) (b := 16760438) (by omega) (by omega)
  have h2 : 0 ≤ r * r := by
    rcases Int.le_total 0 r with h | h
    · exact Int.mul_nonneg h h
    · exact Int.mul_nonneg_of_nonpos_of_nonpos h h
  omega
theorem mul24_bounds (a b : Int) : -274877906945 ≤ mul a b 24 ∧ mul a b 24 ≤ 274877906945 := by
  have h := fac_prod a b
  rw [mul24]; omega
theorem rd_bounds {l : List Int} {b : Int} (hb : 0 ≤ b) (h : ∀ x ∈ l, -b ≤ x ∧ x ≤ b) (i : Int) : -b ≤ rd l i ∧ rd l i ≤ b := by
  unfold rd
  rw [List.getD_eq_getElem?_getD]
  by_cases hi : i.toNat < l.length
  · rw [List.getElem?_eq_getElem hi]; exact h _ (List.getElem_mem hi)
  · rw [List.getElem?_eq_none (by omega)]; simp; omega
theorem stab_l2 (r d : Int) (old : List Int) (m : Nat) (hm : m ≤ 32) (hr : -16760438 ≤ r ∧ r ≤ 16760438) (hd : 1 ≤ d ∧ d ≤ 16777216) (ho : old.length = m) (hob : ∀ x ∈ old, -2147483648 ≤ x ∧ x ≤ 2147483648) {res : Bool} (n : Nat) :
    ∀ (i : Nat) (R : List Int), i + n = m → n ≤ R.length → R.length ≤ 100 →
    (Ev (fun k => lpc_Stable.l1 k ((List.range m).map (nextB r d old m) ++ R.drop n) ((m : Int) - 1)) res) →
    Ev (fun k => lpc_Stable.l2 k ((List.range i).map (nextB r d old m) ++ R) m r d old m i) res := by
  induction n with
  | zero =>
    intro i R hi hR hRl h
    have e : i = m := by omega
    subst e
    refine Ev.step (fun k => by rw [lpc_Stable.l2]) ?_
    rw [w64 (x := (i : Int) - 1) (by omega) (by omega)]
    exact evNeg (by omega) (by simpa using h)
  | succ n ih =>
    intro i R hi hR hRl h
    cases R with
    | nil => simp at hR
    | cons x R =>
      simp at hR hRl
      refine Ev.step (fun k => by rw [lpc_Stable.l2]) ?_
      have hb1 := rd_bounds (b := 2147483648) (by omega) hob (i : Int)
      have hb2 := mul24_bounds r (rd old ((m : Int) - 1 - i))
      rw [w64 (x := (m : Int) - 1) (by omega) (by omega), w64 (x := (m : Int) - 1 - i) (by omega) (by omega), w64 (x := (i : Int) + 1) (by omega) (by omega)]
      refine evPos (by omega) (evPos (by omega) (evPos (by omega) (evPos (by omega) (evPos (by omega) (Ev.bind (fix_mul _ _ 24 (by omega) (by omega)) ?_)))))
      rw [w64 (x := rd old i + _) (by omega) (by omega)]
      refine Ev.bind (fix_div_any _ d 24 (by omega) (by omega)) (Ev.bind (fix_clamp _ _ _) (evPos (by simp; omega) ?_))
      rw [set_mid ((List.range i).map (nextB r d old m)) x R _ i (by simp)]
      have h3 := ih (i + 1) R (by omega) (by omega) (by omega) (by simpa using h)
      rw [List.range_succ, List.map_append] at h3
      simpa [nextB] using h3
theorem stab_l1 (m : Nat) : ∀ (P J : List Int), P.length = m → m ≤ 32 → J.length ≤ 40 → P.length + J.length ≤ 40 → (∀ x ∈ P, -2147483648 ≤ x ∧ x ≤ 2147483648) → Ev (fun k => lpc_Stable.l1 k (P ++ J) ((m : Int) - 1)) (stabN m P) := by
  induction m with
  | zero =>
    intro P J hP hm hJ hJ2 hb
    refine Ev.step (fun k => by rw [lpc_Stable.l1]) ?_
    exact evNeg (by omega) (Ev.now _)
  | succ m ih =>
    intro P J hP hm hJ hJ2 hb
    have e0 : ((m + 1 : Nat) : Int) - 1 = (m : Int) := by omega
    rw [e0]
    have hrd : rd (P ++ J) (m : Int) = rd P m := by
      rw [rd_at (l := P ++ J) (i := m) (by simp; omega), rd_at (l := P) (i := m) (by omega)]
      exact List.getElem_append_left (by omega)
    refine Ev.step (fun k => by rw [lpc_Stable.l1]) ?_
    refine evPos (by omega) (evPos (by omega) (evPos (by simp; omega) ?_))
    rw [hrd]
    unfold stabN
    have hno : ∀ b, b = true → Ev (fun k => lpc_Stable.j2 k (P ++ J) m (rd P m) b) false := by
      intro b hb
      refine Ev.step (fun k => by rw [lpc_Stable.j2]) ?_
      exact evPos hb (Ev.now _)
    refine evIte (fun h => ?_) (fun h => ?_)
    · rw [if_pos h]; exact hno _ rfl
    · rw [if_neg h]
      by_cases h2 : rd P m < -16760438
      · rw [if_pos h2]; exact hno _ (decide_eq_true h2)
      · rw [if_neg h2, decide_eq_false h2]
        have hr : -16760438 ≤ rd P m ∧ rd P m ≤ 16760438 := by omega
        have hd := d_bounds hr
        refine Ev.step (fun k => by rw [lpc_Stable.j2]) ?_
        refine evNeg (by simp) (Ev.bind (fix_mul _ _ 24 (by omega) (by omega)) (Ev.bind (Ev.now _) (evPos (by omega) (evPos (by simp; omega) (Ev.bind (Ev.now _) ?_)))))
        rw [w64 (x := 16777216 - _) (by omega) (by omega)]
        have et : [] ++ (P ++ J).take ((m : Int)).toNat = P.take m := by
          rw [List.nil_append, Int.toNat_natCast, List.take_append_of_le_length (by omega)]
        rw [et]
        refine evPos (by simp; omega) ?_
        have key := ih ((List.range m).map (nextB (rd P m) (16777216 - mul (rd P m) (rd P m) 24) (P.take m) m)) ((P ++ J).drop m) (by simp) (by omega) (by simp; omega) (by simp; omega) (by
          intro x hx
          obtain ⟨i, _, rfl⟩ := List.mem_map.1 hx
          exact clamp_bounds (by omega))
        have h5 := stab_l2 (rd P m) (16777216 - mul (rd P m) (rd P m) 24) (P.take m) m (by omega) hr hd (by simp; omega) (fun x hx => hb x (List.mem_of_mem_take hx)) (res := stabN m ((List.range m).map (nextB (rd P m) (16777216 - mul (rd P m) (rd P m) 24) (P.take m) m))) m 0 (P ++ J) (by omega) (by simp; omega) (by simp; omega) key
        simpa using h5
def scaled (l : List Int) : List Int := l.map fun v => 4096 * clamp v (-131072) 131072
def stable (l : List Int) : Bool := if (l.length : Int) > 32 then false else stabN l.length (scaled l)
theorem stab_l0 (n : Nat) : ∀ (S A : List Int) (i m : Int), S.length = n → i = A.length → m = ((A.length + S.length : Nat) : Int) → A.length + S.length ≤ 32 →
    Ev (fun k => lpc_Stable.l0 k (scaled A ++ List.replicate n 0) (A ++ S) m i) (stabN (A.length + S.length) (scaled (A ++ S))) := by
  induction n with
  | zero =>
    intro S A i m hn hi hm hl
    have e1 : S = [] := List.eq_nil_of_length_eq_zero hn
    subst e1
    simp at hm hl
    refine Ev.step (fun k => by rw [lpc_Stable.l0]) ?_
    refine evNeg (by omega) ?_
    have h := stab_l1 A.length (scaled A) [] (by simp [scaled]) hl (by simp) (by simp [scaled]; omega) (by
      intro x hx
      obtain ⟨v, _, rfl⟩ := List.mem_map.1 hx
      have := clamp_bounds (a := v) (lo := -131072) (hi := 131072) (by omega)
      omega)
    have e : wrap64 (((scaled A ++ List.replicate 0 0).length : Int) - 1) = (A.length : Int) - 1 := by
      simp [scaled]; exact w64 (by omega) (by omega)
    rw [e]
    simpa using h
  | succ n ih =>
    intro S A i m hn hi hm hl
    cases S with
    | nil => simp at hn
    | cons v S =>
      simp at hn hm hl
      have hc := clamp_bounds (a := v) (lo := -131072) (hi := 131072) (by omega)
      refine Ev.step (fun k => by rw [lpc_Stable.l0]) ?_
      refine evPos (by omega) (evPos (by omega) (evPos (by simp; omega) ?_))
      rw [rd_mid A v S i hi, w64 (x := i + 1) (by omega) (by omega)]
      refine Ev.bind (fix_clamp _ _ _) (evPos (by simp [scaled]; omega) ?_)
      rw [w64 (x := 4096 * _) (by omega) (by omega), List.replicate_succ, set_mid (scaled A) 0 (List.replicate n 0) _ i (by simp [scaled]; omega)]
      have h := ih S (A ++ [v]) (i + 1) m (by omega) (by simp; omega) (by simp; omega) (by simp; omega)
      have e1 : A.length + (v :: S).length = (A ++ [v]).length + S.length := by simp; omega
      rw [e1]
      simpa [scaled] using h
theorem lpc_stable (l : List Int) : Ev (fun k => lpc_Stable.f k l) (stable l) := by
  refine Ev.congr (fun k => by rw [lpc_Stable.f]) ?_
  unfold stable
  refine evIte (fun h => ?_) (fun h => ?_)
  · rw [if_pos h]; exact Ev.now _
  · rw [if_neg h]
    refine evPos (by omega) (evPos (by omega) ?_)
    have h2 := stab_l0 l.length l [] 0 l.length rfl rfl (by simp) (by simp; omega)
    simpa [scaled] using h2

/-! fitted -/
def settle (l : List Int) : List Int := if stable l = true then l else List.replicate l.length 0
def fitN : Nat → Int → List Int → List Int
  | 0, _, l => settle l
  | n + 1, r, l => if stable l = true then l else fitN n (r + 1) (chirp l (65536 - 2048 * r))
theorem zeros_stable : ∀ n : Fin 33, stable (List.replicate n.val 0) = true := by decide +kernel
theorem settle_stable {l : List Int} (h : l.length ≤ 32) : stable (settle l) = true := by
  unfold settle; split
  · assumption
  · exact zeros_stable ⟨l.length, by omega⟩
theorem fitN_stable : ∀ (n : Nat) (r : Int) (l : List Int), l.length ≤ 32 → stable (fitN n r l) = true
  | 0, _, l, h => settle_stable h
  | n + 1, r, l, h => by
    unfold fitN; split
    · assumption
    · exact fitN_stable n _ _ (by unfold chirp; rw [chirpL_length]; exact h)
theorem fitN_length : ∀ (n : Nat) (r : Int) (l : List Int), (fitN n r l).length = l.length
  | 0, _, l => by unfold fitN settle; split <;> simp
  | n + 1, r, l => by
    unfold fitN; split
    · rfl
    · rw [fitN_length n]; unfold chirp; rw [chirpL_length]
theorem fitN_bound : ∀ (n : Nat) (r : Int) (l : List Int), (∀ v ∈ l, -131072 ≤ v ∧ v ≤ 131072) → ∀ v ∈ fitN n r l, -131072 ≤ v ∧ v ≤ 131072
  | 0, _, l, h => by
    unfold fitN settle; split
    · exact h
    · intro v hv; have := List.eq_of_mem_replicate hv; omega
  | n + 1, r, l, h => by
    unfold fitN; split
    · exact h
    · exact fitN_bound n _ _ (chirpL_bound (clamp_bounds (by omega)) 0 l h)
theorem fit_l1 (n : Nat) : ∀ (l : List Int) (r : Int), l.length ≤ 32 → r + n = 17 → 1 ≤ r → Ev (fun k => lpc_Fit.l1 k l r) (fitN n r l) := by
  induction n with
  | zero =>
    intro l r hl hr h1
    refine Ev.step (fun k => by rw [lpc_Fit.l1]) ?_
    refine evNeg (by omega) (Ev.bind (lpc_stable l) ?_)
    unfold fitN settle
    refine evIte (fun h => ?_) (fun h => ?_)
    · rw [if_pos h]; exact Ev.now _
    · rw [if_neg h]; exact Ev.now _
  | succ n ih =>
    intro l r hl hr h1
    refine Ev.step (fun k => by rw [lpc_Fit.l1]) ?_
    refine evPos (by omega) (Ev.bind (lpc_stable l) ?_)
    unfold fitN
    refine evIte (fun h => ?_) (fun h => ?_)
    · rw [if_pos h]
      exact Ev.bind (lpc_stable l) (evPos h (Ev.now _))
    · rw [if_neg h, w64 (x := 2048 * r) (by omega) (by omega), w64 (x := 65536 - 2048 * r) (by omega) (by omega), w64 (x := r + 1) (by omega) (by omega)]
      exact Ev.bind (lpc_chirp l _ hl) (ih _ _ (by unfold chirp; rw [chirpL_length]; exact hl) (by omega) (by omega))
def held (l : List Int) : List Int := l.map fun v => clamp v (-131072) 131072
theorem held_bound (l : List Int) : ∀ v ∈ held l, -131072 ≤ v ∧ v ≤ 131072 := by
  intro x hx
  obtain ⟨v, _, rfl⟩ := List.mem_map.1 hx
  exact clamp_bounds (by omega)
def fit (l : List Int) : List Int := fitN 16 1 (held l)
theorem fit_l0 (n : Nat) : ∀ (S A : List Int) (i m : Int), S.length = n → i = A.length → m = ((A.length + S.length : Nat) : Int) → A.length + S.length ≤ 32 →
    Ev (fun k => lpc_Fit.l0 k (held A ++ List.replicate n 0) (A ++ S) m i) (fit (A ++ S)) := by
  induction n with
  | zero =>
    intro S A i m hn hi hm hl
    have e1 : S = [] := List.eq_nil_of_length_eq_zero hn
    subst e1
    simp at hm hl
    refine Ev.step (fun k => by rw [lpc_Fit.l0]) ?_
    refine evNeg (by omega) ?_
    have h := fit_l1 16 (held A) 1 (by simpa [held] using hl) (by omega) (by omega)
    simpa [fit] using h
  | succ n ih =>
    intro S A i m hn hi hm hl
    cases S with
    | nil => simp at hn
    | cons v S =>
      simp at hn hm hl
      refine Ev.step (fun k => by rw [lpc_Fit.l0]) ?_
      refine evPos (by omega) (evPos (by omega) (evPos (by simp; omega) ?_))
      rw [rd_mid A v S i hi, w64 (x := i + 1) (by omega) (by omega)]
      refine Ev.bind (fix_clamp _ _ _) (evPos (by simp [held]; omega) ?_)
      rw [List.replicate_succ, set_mid (held A) 0 (List.replicate n 0) _ i (by simp [held]; omega)]
      have h := ih S (A ++ [v]) (i + 1) m (by omega) (by simp; omega) (by simp; omega) (by simp; omega)
      simpa [held] using h
theorem lpc_fit (l : List Int) (hl : l.length ≤ 32) : Ev (fun k => lpc_Fit.f k l) (fit l) := by
  refine Ev.congr (fun k => by rw [lpc_Fit.f]) ?_
  refine evNeg (by omega) (evPos (by omega) (evPos (by omega) ?_))
  have h := fit_l0 l.length l [] 0 l.length rfl rfl (by simp) (by simp; omega)
  simpa [held] using h
theorem fit_length (l : List Int) : (fit l).length = l.length := by unfold fit; rw [fitN_length]; simp [held]
theorem fit_bound (l : List Int) : ∀ v ∈ fit l, -131072 ≤ v ∧ v ≤ 131072 := fitN_bound 16 1 _ (held_bound l)
theorem fit_stable (l : List Int) (h : l.length ≤ 32) : stable (fit l) = true := fitN_stable 16 1 _ (by simpa [held] using h)
theorem fit_kept (l : List Int) (h : stable (held l) = true) : fit l = held l := by unfold fit fitN; rw [if_pos h]
end Go.Proofs.Ytllglpcpjeggcaa.Q
