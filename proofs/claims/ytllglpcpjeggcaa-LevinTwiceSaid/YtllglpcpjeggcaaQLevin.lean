/- What a sound is like, what is left of it, and its power, as the program of chapter 12 has them: lemmas for the laws. -/
import Derived.Test.YtllglpcpjeggcaaQDiv2
import Derived.Test.YtllglpcpjeggcaaPx1
import Derived.Test.YtllglpcpjeggcaaPx2
import Derived.Test.YtllglpcpjeggcaaPx3
import Derived.Test.YtllglpcpjeggcaaPx11
import Derived.Test.YtllglpcpjeggcaaPx12
namespace Go.Proofs.Ytllglpcpjeggcaa.Q
open Go.RowKit Go.Proofs.Ytllglpcpjeggcaa.P Go.Proofs.YtllglpcpjeggcaaW.PrintWords Go.Proofs.YtllglpcpjeggcaaW.PrintLast Go.Proofs.YtllglpcpjeggcaaW.PrintMore
open Go.Proofs.Ytllglpcpjeggcaa.M
set_option linter.unusedVariables false

theorem fix_sat12 (a : Int) : Ev (fun k => fix_Sat16.f k a) (sat a) := by
  refine Ev.congr (fun k => by rw [fix_Sat16.f]) ?_
  exact Ev.bind (fix_clamp a (-32768) 32767) (Ev.now _)
/-- A number within b, without its sign. -/
def Within (b : Int) (l : List Int) : Prop := ∀ x ∈ l, -b ≤ x ∧ x ≤ b
theorem within_sat (l : List Int) : Within 32768 (l.map sat) := by
  intro x hx
  obtain ⟨v, _, rfl⟩ := List.mem_map.1 hx
  have := sat_bounds v
  omega
theorem within_drop {b : Int} {l : List Int} (h : Within b l) (n : Nat) : Within b (l.drop n) := fun x hx => h x (List.mem_of_mem_drop hx)
theorem sat_kept {l : List Int} (h : ∀ x ∈ l, -32768 ≤ x ∧ x ≤ 32767) : l.map sat = l := by
  have e : l.map sat = l.map id := List.map_congr_left fun x hx => clamp_id (h x hx).1 (h x hx).2
  rw [e, List.map_id]
theorem sound_l0 (n : Nat) : ∀ (S A : List Int) (i m : Int), S.length = n → i = A.length → m = ((A.length + S.length : Nat) : Int) → A.length + S.length ≤ 1000000 →
    Ev (fun k => levin_sound.l0 k (A.map sat ++ List.replicate n 0) (A ++ S) m i) ((A ++ S).map sat) := by
  induction n with
  | zero =>
    intro S A i m hn hi hm hl
    have e1 : S = [] := List.eq_nil_of_length_eq_zero hn
    subst e1
    simp at hm hl
    refine Ev.step (fun k => by rw [levin_sound.l0]) ?_
    refine evNeg (by omega) ?_
    simpa using Ev.now (A.map sat)
  | succ n ih =>
    intro S A i m hn hi hm hl
    cases S with
    | nil => simp at hn
    | cons v S =>
      simp at hn hm hl
      refine Ev.step (fun k => by rw [levin_sound.l0]) ?_
      refine evPos (by omega) (evPos (by omega) (evPos (by simp; omega) ?_))
      rw [rd_mid A v S i hi, w64 (x := i + 1) (by omega) (by omega)]
      refine Ev.bind (fix_sat12 _) (evPos (by simp; omega) ?_)
      rw [List.replicate_succ, set_mid (A.map sat) 0 (List.replicate n 0) _ i (by simp; omega)]
      have h := ih S (A ++ [v]) (i + 1) m (by omega) (by simp; omega) (by simp; omega) (by simp; omega)
      simpa using h
theorem levin_sound' (l : List Int) (hl : l.length ≤ 1000000) : Ev (fun k => levin_sound.f k l) (l.map sat) := by
  refine Ev.congr (fun k => by rw [levin_sound.f]) ?_
  refine evPos (by omega) (evPos (by omega) ?_)
  have h := sound_l0 l.length l [] 0 l.length rfl rfl (by simp) (by simpa using hl)
  simpa using h

/-! products -/
def dot : List Int → List Int → Int
  | a :: l, b :: m => a * b + dot l m
  | _, _ => 0
theorem dot_nil (m : List Int) : dot [] m = 0 := by cases m <;> rfl
theorem prod30 {a b : Int} (ha : -32768 ≤ a ∧ a ≤ 32768) (hb : -32768 ≤ b ∧ b ≤ 32768) : -1073741824 ≤ a * b ∧ a * b ≤ 1073741824 := by
  have := prod_le (x := a) (y := b) (a := 32768) (b := 32768) (by omega) (by omega)
  omega
theorem auto_l1 (x : List Int) (hx : Within 32768 x) (hl : x.length ≤ 1000000) (m : Int) {r : List Int × Int} (d : Nat) : ∀ (n : Nat) (A B : List Int) (s kk : Int) (km : Int), x.length - n = d → kk = A.length → A.length ≤ n → -1073741824 * n ≤ s ∧ s ≤ 1073741824 * n → n ≤ 1000100 →
    Ev (fun k => levin_Auto.l0 k x (A ++ (s + dot (x.drop n) (x.drop (n - A.length))) :: B) m (wrap64 (km + 1))) r →
    Ev (fun k => levin_Auto.l1 k x (A ++ s :: B) kk n m km) r := by
  induction d with
  | zero =>
    intro n A B s kk km hd hk hn hs hn2 h
    refine Ev.step (fun k => by rw [levin_Auto.l1]) ?_
    refine evNeg (by omega) ?_
    have e : x.drop n = [] := List.drop_eq_nil_of_le (by omega)
    rw [e, dot_nil, Int.add_zero] at h
    exact h
  | succ d ih =>
    intro n A B s kk km hd hk hn hs hn2 h
    have hn3 : n < x.length := by omega
    refine Ev.step (fun k => by rw [levin_Auto.l1]) ?_
    have b1 : rd x (n : Int) = x[n] := rd_at hn3
    have e3 : (n : Int) - kk = ((n - A.length : Nat) : Int) := by omega
    have b2 : rd x ((n : Int) - kk) = x[n - A.length] := by rw [e3]; exact rd_at (by omega)
    have hp := prod30 (hx _ (List.getElem_mem (n := n) (by omega))) (hx _ (List.getElem_mem (n := n - A.length) (by omega)))
    rw [w64 (x := (n : Int) - kk) (by omega) (by omega), w64 (x := (n : Int) + 1) (by omega) (by omega), rd_mid A s B kk hk, set_mid A s B _ kk hk, b1, b2]
    refine evPos (by omega) (evPos (by omega) (evPos (by simp; omega) (evPos (by omega) (evPos (by omega) (evPos (by omega) ?_)))))
    rw [w64 (x := x[n] * _) (by omega) (by omega), w64 (x := s + _) (by omega) (by omega)]
    have h3 := ih (n + 1) A B (s + x[n] * x[n - A.length]) kk km (by omega) hk (by omega) (by simp; omega) (by omega)
    have ed : dot (x.drop n) (x.drop (n - A.length)) = x[n] * x[n - A.length] + dot (x.drop (n + 1)) (x.drop (n + 1 - A.length)) := by
      rw [List.drop_eq_getElem_cons (i := n) (by omega), List.drop_eq_getElem_cons (i := n - A.length) (by omega), show n + 1 - A.length = n - A.length + 1 by omega]
      rfl
    rw [ed, ← Int.add_assoc] at h
    exact h3 h
/-- How a sound hangs on itself. -/
def autoL (x : List Int) (m : Nat) : List Int := (List.range m).map fun k => dot (x.drop k) x
theorem auto_l0 (x : List Int) (hx : Within 32768 x) (hl : x.length ≤ 1000000) (M : Nat) (hM : M ≤ 100) (n : Nat) : ∀ (j : Nat) (m i : Int), j + n = M → m = M → i = j →
    Ev (fun k => levin_Auto.l0 k x (autoL x j ++ List.replicate n 0) m i) (autoL x M, 0) := by
  induction n with
  | zero =>
    intro j m i hj hm hi
    refine Ev.step (fun k => by rw [levin_Auto.l0]) ?_
    refine evNeg (by omega) ?_
    have e : j = M := by omega
    subst e
    simpa using Ev.now (autoL x j, (0 : Int))
  | succ n ih =>
    intro j m i hj hm hi
    refine Ev.step (fun k => by rw [levin_Auto.l0]) ?_
    refine evPos (by omega) ?_
    subst hi
    rw [List.replicate_succ]
    refine auto_l1 x hx hl m (x.length - j) j (autoL x j) _ 0 j j rfl (by simp [autoL]) (by simp [autoL]) (by omega) (by omega) ?_
    have h := ih (j + 1) m ((j + 1 : Nat) : Int) (by omega) hm rfl
    have e1 : autoL x (j + 1) = autoL x j ++ [dot (x.drop j) x] := by unfold autoL; rw [List.range_succ, List.map_append]; rfl
    rw [e1] at h
    have e2 : j - (autoL x j).length = 0 := by simp [autoL]
    rw [e2, List.drop_zero, Int.zero_add, w64 (x := (j : Int) + 1) (by omega) (by omega)]
    simpa using h
theorem levin_auto (l : List Int) (order : Int) (h1 : l.length ≤ 960) (h2 : 1 ≤ order) (h3 : order ≤ 32) : Ev (fun k => levin_Auto.f k l order) (autoL (l.map sat) (order.toNat + 1), 0) := by
  refine Ev.congr (fun k => by rw [levin_Auto.f]) ?_
  refine evNeg (by omega) (evNeg (by omega) ?_)
  rw [decide_eq_false (by omega)]
  refine Ev.step (fun k => by rw [levin_Auto.j0]) ?_
  refine evNeg (by simp) (Ev.bind (levin_sound' l (by omega)) ?_)
  rw [w64 (x := order + 1) (by omega) (by omega)]
  refine evPos (by omega) (evPos (by omega) (Ev.bind (Ev.now _) ?_))
  have e : (order + 1).toNat = order.toNat + 1 := by omega
  rw [e, List.length_replicate]
  have h := auto_l0 (l.map sat) (within_sat l) (by simp; omega) (order.toNat + 1) (by omega) (order.toNat + 1) 0 _ 0 (by omega) rfl rfl
  simpa [autoL] using h
theorem levin_auto_bad (l : List Int) (order : Int) (h : ¬ (l.length ≤ 960 ∧ 1 ≤ order ∧ order ≤ 32)) : Ev (fun k => levin_Auto.f k l order) ([], 1) := by
  have hj : ∀ b, b = true → Ev (fun k => levin_Auto.j0 k l order b) ([], 1) := by
    intro b hb
    refine Ev.step (fun k => by rw [levin_Auto.j0]) ?_
    exact evPos hb (Ev.now _)
  refine Ev.congr (fun k => by rw [levin_Auto.f]) ?_
  refine evIte (fun _ => hj _ rfl) (fun h1 => evIte (fun _ => hj _ rfl) (fun h2 => hj _ (decide_eq_true (by omega))))

/-! what is left -/
def tsum : List Int → List Int → Int
  | a :: l, p :: q => mul a p 12 + tsum l q
  | _, _ => 0
theorem tsum_nil (m : List Int) : tsum [] m = 0 := by cases m <;> rfl
theorem tsum_nil' (m : List Int) : tsum m [] = 0 := by cases m <;> rfl
theorem mul12_bounds (a b : Int) : -1125899906842625 ≤ mul a b 12 ∧ mul a b 12 ≤ 1125899906842625 := by
  have h := fac_prod a b
  have e : mul a b 12 = (fac a * fac b + 2048) / 4096 := by unfold mul; rw [if_neg (by omega), if_neg (by omega), if_neg (by omega)]; rfl
  rw [e]; omega
def held12 (a : List Int) : List Int := a.map fun v => clamp v (-131072) 131072
def restL (a : List Int) : List Int → List Int → List Int
  | _, [] => []
  | past, v :: x => (v - tsum a past) :: restL a (v :: past) x
theorem restL_length (a : List Int) : ∀ (x past : List Int), (restL a past x).length = x.length
  | [], _ => rfl
  | v :: x, past => by simp [restL, restL_length a x (v :: past)]
theorem rest_l1 (a P X out : List Int) (m im : Int) (n : Int) (hn : n = P.length) (hP : P.length ≤ 1000000) (ha : a.length ≤ 32) (ho : n < out.length) {r : List Int × Int} (d : Nat) : ∀ (j : Nat) (v : Int), j + d = a.length → -1125899906842625 * (100 + j) ≤ v ∧ v ≤ 1125899906842625 * (100 + j) →
    Ev (fun k => levin_Rest.l0 k (P ++ X) a (out.set n.toNat (v - tsum ((held12 a).drop j) (P.reverse.drop j))) m (wrap64 (im + 1))) r →
    Ev (fun k => levin_Rest.l1 k (P ++ X) a out n v m im a (a.length : Int) j) r := by
  induction d with
  | zero =>
    intro j v hj hv h
    refine Ev.step (fun k => by rw [levin_Rest.l1]) ?_
    refine evNeg (by omega) (evPos (by omega) (evPos ho ?_))
    have e : (held12 a).drop j = [] := List.drop_eq_nil_of_le (by simp [held12]; omega)
    rw [e, tsum_nil, Int.sub_zero] at h
    exact h
  | succ d ih =>
    intro j v hj hv h
    refine Ev.step (fun k => by rw [levin_Rest.l1]) ?_
    rw [w64 (x := n - 1) (by omega) (by omega), w64 (x := n - 1 - j) (by omega) (by omega), w64 (x := (j : Int) + 1) (by omega) (by omega)]
    refine evPos (by omega) (evPos (by omega) (evPos (by omega) ?_))
    have hja : j < a.length := by omega
    have e0 : rd a (j : Int) = a[j] := rd_at hja
    have ea : (held12 a).drop j = clamp a[j] (-131072) 131072 :: (held12 a).drop (j + 1) := by
      rw [List.drop_eq_getElem_cons (i := j) (by simp [held12]; omega)]; simp [held12]
    refine evIte (fun hc => ?_) (fun hc => ?_)
    · have hjn : j < P.length := by omega
      refine Ev.bind (fix_clamp _ _ _) (evPos (by omega) (evPos (by simp; omega) ?_))
      have e1 : rd (P ++ X) (n - 1 - j) = P.reverse[j]'(by simp; omega) := by
        rw [rd_in (by omega) (by simp; omega), List.getElem_append_left (by omega), List.getElem_reverse]
        congr 1; omega
      have hb := mul12_bounds (clamp (rd a j) (-131072) 131072) (rd (P ++ X) (n - 1 - j))
      refine Ev.bind (fix_mul _ _ 12 (by omega) (by omega)) ?_
      rw [w64 (x := v - _) (by omega) (by omega)]
      have ep : P.reverse.drop j = P.reverse[j]'(by simp; omega) :: P.reverse.drop (j + 1) := List.drop_eq_getElem_cons (by simp; omega)
      rw [ea, ep] at h
      have et : v - tsum (clamp a[j] (-131072) 131072 :: (held12 a).drop (j + 1)) (P.reverse[j]'(by simp; omega) :: P.reverse.drop (j + 1)) = v - mul (clamp (rd a j) (-131072) 131072) (rd (P ++ X) (n - 1 - j)) 12 - tsum ((held12 a).drop (j + 1)) (P.reverse.drop (j + 1)) := by
        rw [e0, e1]; simp only [tsum]; omega
      rw [et] at h
      exact ih (j + 1) _ (by omega) (by simp; omega) h
    · have ep : P.reverse.drop j = [] := List.drop_eq_nil_of_le (by simp; omega)
      have ep2 : P.reverse.drop (j + 1) = [] := List.drop_eq_nil_of_le (by simp; omega)
      refine ih (j + 1) v (by omega) (by simp; omega) ?_
      rw [ep, tsum_nil'] at h
      rw [ep2, tsum_nil']
      exact h
theorem rest_l0 (a : List Int) (ha : a.length ≤ 32) (n : Nat) : ∀ (X P D : List Int) (i m : Int), X.length = n → Within 32768 X → D.length = P.length → i = P.length → m = ((P.length + X.length : Nat) : Int) → P.length + X.length ≤ 1000000 →
    Ev (fun k => levin_Rest.l0 k (P ++ X) a (D ++ List.replicate n 0) m i) (D ++ restL (held12 a) P.reverse X, 0) := by
  induction n with
  | zero =>
    intro X P D i m hn hw hd hi hm hl
    have e1 : X = [] := List.eq_nil_of_length_eq_zero hn
    subst e1
    simp at hm hl
    refine Ev.step (fun k => by rw [levin_Rest.l0]) ?_
    refine evNeg (by omega) ?_
    simpa [restL] using Ev.now (D, (0 : Int))
  | succ n ih =>
    intro X P D i m hn hw hd hi hm hl
    cases X with
    | nil => simp at hn
    | cons v X =>
      simp at hn hm hl
      have hv := hw v (by simp)
      refine Ev.step (fun k => by rw [levin_Rest.l0]) ?_
      refine evPos (by omega) (evPos (by omega) (evPos (by simp; omega) ?_))
      rw [rd_mid P v X i hi]
      refine rest_l1 a P (v :: X) _ m i i hi (by omega) ha (by simp; omega) a.length 0 v (by omega) (by omega) ?_
      rw [List.replicate_succ, set_mid D 0 (List.replicate n 0) _ i (by omega), w64 (x := i + 1) (by omega) (by omega)]
      have h := ih X (P ++ [v]) (D ++ [v - tsum (held12 a) P.reverse]) (i + 1) m (by omega) (fun x hx => hw x (by simp [hx])) (by simp; omega) (by simp; omega) (by simp; omega) (by simp; omega)
      simpa [restL] using h
theorem levin_rest (x a : List Int) (hx : x.length ≤ 960) (ha : a.length ≤ 32) : Ev (fun k => levin_Rest.f k x a) (restL (held12 a) [] (x.map sat), 0) := by
  refine Ev.congr (fun k => by rw [levin_Rest.f]) ?_
  refine evNeg (by omega) ?_
  rw [decide_eq_false (by omega)]
  refine Ev.step (fun k => by rw [levin_Rest.j0]) ?_
  refine evNeg (by simp) (Ev.bind (levin_sound' x (by omega)) (evPos (by omega) (evPos (by simp; omega) ?_)))
  have h := rest_l0 a ha (x.map sat).length (x.map sat) [] [] 0 (x.map sat).length rfl (within_sat x) rfl rfl (by simp) (by simp; omega)
  simpa using h
theorem levin_rest_bad (x a : List Int) (h : ¬ (x.length ≤ 960 ∧ a.length ≤ 32)) : Ev (fun k => levin_Rest.f k x a) ([], 1) := by
  have hj : ∀ b, b = true → Ev (fun k => levin_Rest.j0 k x a b) ([], 1) := by
    intro b hb
    refine Ev.step (fun k => by rw [levin_Rest.j0]) ?_
    exact evPos hb (Ev.now _)
  refine Ev.congr (fun k => by rw [levin_Rest.f]) ?_
  refine evIte (fun _ => hj _ rfl) (fun h1 => hj _ (decide_eq_true (by omega)))

/-! power -/
def cl20 (v : Int) : Int := clamp v (-1048576) 1048576
def powL : List Int → Int
  | [] => 0
  | v :: l => cl20 v * cl20 v + powL l
theorem cl20_sq (v : Int) : 0 ≤ cl20 v * cl20 v ∧ cl20 v * cl20 v ≤ 1099511627776 := by
  have hc := clamp_bounds (a := v) (lo := -1048576) (hi := 1048576) (by omega)
  have h := prod_le (x := cl20 v) (y := cl20 v) (a := 1048576) (b := 1048576) (by unfold cl20; omega) (by unfold cl20; omega)
  refine ⟨?_, by omega⟩
  rcases Int.le_total 0 (cl20 v) with h | h
  · exact Int.mul_nonneg h h
  · exact Int.mul_nonneg_of_nonpos_of_nonpos h h
theorem powL_bounds : ∀ l : List Int, 0 ≤ powL l ∧ powL l ≤ 1099511627776 * l.length
  | [] => by simp [powL]
  | v :: l => by
    have h := powL_bounds l
    have s := cl20_sq v
    simp only [powL, List.length_cons]
    omega
theorem power_l0 (n : Nat) : ∀ (S A : List Int) (s i m : Int), S.length = n → i = A.length → m = ((A.length + S.length : Nat) : Int) → A.length + S.length ≤ 1000 → 0 ≤ s ∧ s ≤ 1099511627776 * i →
    Ev (fun k => levin_Power.l0 k s (A ++ S) m i) (s + powL S) := by
  induction n with
  | zero =>
    intro S A s i m hn hi hm hl hs
    have e1 : S = [] := List.eq_nil_of_length_eq_zero hn
    subst e1
    refine Ev.step (fun k => by rw [levin_Power.l0]) ?_
    exact evNeg (by simp at hm; omega) (evConst (by simp [powL]))
  | succ n ih =>
    intro S A s i m hn hi hm hl hs
    cases S with
    | nil => simp at hn
    | cons v S =>
      simp at hn hm hl
      have hsq := cl20_sq v
      refine Ev.step (fun k => by rw [levin_Power.l0]) ?_
      refine evPos (by omega) (evPos (by omega) (evPos (by simp; omega) ?_))
      rw [rd_mid _ _ _ _ hi, w64 (x := i + 1) (by omega) (by omega)]
      refine Ev.bind (fix_clamp _ _ _) ?_
      have e : clamp v (-1048576) 1048576 = cl20 v := rfl
      rw [e, w64 (x := cl20 v * cl20 v) (by omega) (by omega), w64 (x := s + _) (by omega) (by omega)]
      have h := ih S (A ++ [v]) (s + cl20 v * cl20 v) (i + 1) m (by omega) (by simp; omega) (by simp; omega) (by simp; omega) (by omega)
      refine evEq (by simpa using h) ?_
      simp only [powL]; omega
theorem levin_power (l : List Int) : Ev (fun k => levin_Power.f k l) (powL (l.take 960)) := by
  refine Ev.congr (fun k => by rw [levin_Power.f]) ?_
  have hm : 0 ≤ mn (l.length : Int) 960 ∧ mn (l.length : Int) 960 ≤ l.length ∧ l.take (mn (l.length : Int) 960).toNat = l.take 960 := by
    unfold mn
    split
    · exact ⟨by omega, by omega, rfl⟩
    · refine ⟨by omega, by omega, ?_⟩
      rw [List.take_of_length_le (by omega), List.take_of_length_le (by omega)]
  refine evPos hm.1 (evPos hm.2.1 ?_)
  rw [hm.2.2]
  refine Ev.bind (Ev.now _) ?_
  have hl : (l.take 960).length ≤ 960 := List.length_take_le _ _
  have h := power_l0 (l.take 960).length (l.take 960) [] 0 0 (l.take 960).length rfl rfl (by simp) (by simp; omega) (by omega)
  simpa using h
end Go.Proofs.Ytllglpcpjeggcaa.Q
