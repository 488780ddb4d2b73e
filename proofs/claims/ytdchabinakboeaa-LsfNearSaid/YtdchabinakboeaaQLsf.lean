/- Frequencies told and kept apart, as the program does it: lemmas for the laws. -/
import Derived.Test.YtdchabinakboeaaQClamp
import Derived.Test.YtdchabinakboeaaMLsf
import Derived.Test.YtdchabinakboeaaPx22
import Derived.Test.YtdchabinakboeaaPx23
import Derived.Test.YtdchabinakboeaaPx24
import Derived.Test.YtdchabinakboeaaPx20
import Derived.Test.YtdchabinakboeaaPx21
import Derived.Test.YtdchabinakboeaaPx25
namespace Go.Proofs.Ytdchabinakboeaa.Q
open Go.RowKit Go.Proofs.Ytdchabinakboeaa.P Go.Proofs.YtdchabinakboeaaW.PrintWords Go.Proofs.YtdchabinakboeaaW.PrintLast Go.Proofs.YtdchabinakboeaaW.PrintMore
open Go.Proofs.Ytdchabinakboeaa.M
set_option linter.unusedVariables false

theorem clamped_l0 (n : Nat) : ∀ (S A Z S0 : List Int) (i : Int), S.length = n → Z.length = S.length → i = A.length → S0.length = A.length → A.length + S.length ≤ 1000000 →
    Ev (fun k => lsf_clamped.l0 k (A ++ Z) (S0 ++ S) ((S0 ++ S).length : Int) i) (A ++ clampL S) := by
  induction n with
  | zero =>
    intro S A Z S0 i hn hz hi hs hb
    have e1 : S = [] := List.eq_nil_of_length_eq_zero hn
    subst e1
    have e2 : Z = [] := List.eq_nil_of_length_eq_zero (by simpa using hz)
    subst e2
    refine Ev.step (fun k => by rw [lsf_clamped.l0]) ?_
    refine evNeg (by simp; omega) ?_
    exact Ev.now _
  | succ n ih =>
    intro S A Z S0 i hn hz hi hs hb
    cases S with
    | nil => simp at hn
    | cons s S =>
      cases Z with
      | nil => simp at hz
      | cons z Z =>
        simp at hn hz hb
        refine Ev.step (fun k => by rw [lsf_clamped.l0]) ?_
        refine evPos (by simp; omega) (evPos (by omega) (evPos (by simp; omega) ?_))
        rw [rd_mid S0 s S i (by omega)]
        refine Ev.bind (fix_clamp s 0 32768) ?_
        refine evPos (by simp; omega) ?_
        rw [set_mid A z Z _ i hi, w64 (x := i + 1) (by omega) (by omega)]
        have h := ih S (A ++ [clamp s 0 32768]) Z (S0 ++ [s]) (i + 1) (by omega) (by omega) (by simp; omega) (by simp; omega) (by simp; omega)
        simpa [clampL] using h
theorem lsf_clamped' (l : List Int) (h : l.length ≤ 1000000) : Ev (fun k => lsf_clamped.f k l) (clampL l) := by
  refine Ev.congr (fun k => by rw [lsf_clamped.f]) ?_
  refine evPos (by omega) (evPos (by omega) ?_)
  rw [Int.toNat_natCast]
  have := clamped_l0 l.length l [] (List.replicate l.length 0) [] 0 rfl (by simp) (by simp) rfl (by simpa using h)
  simpa using this
theorem mn_lo (a b : Int) : mn a b = lesser a b := rfl
theorem mx_hi (a b : Int) : mx a b = greater a b := rfl
theorem steady_l1 : ∀ (R Q : List Int) (a : Int), a = Q.headD 32768 → R.length ≤ 64 → (∀ x ∈ R, -1000 ≤ x ∧ x ≤ 1000000) → -100000 ≤ a - 250 * R.length → a ≤ 1000000 →
    Ev (fun k => lsf_Steady.l1 k (R.reverse ++ Q) a ((R.length : Int) - 1)) (R.reverse.foldr dn Q)
  | [], Q, a, ha, hR, hx, h0, h1 => by
    refine Ev.step (fun k => by rw [lsf_Steady.l1]) ?_
    refine evNeg (by simp) ?_
    simpa using Ev.now Q
  | v :: R, Q, a, ha, hR, hx, h0, h1 => by
    have hv := hx v (by simp)
    simp only [List.length_cons] at hR h0
    refine Ev.step (fun k => by rw [lsf_Steady.l1]) ?_
    have e : (v :: R).reverse ++ Q = R.reverse ++ v :: Q := by simp
    rw [e]
    have ei : (((v :: R).length : Nat) : Int) - 1 = (R.reverse.length : Nat) := by simp
    rw [ei]
    refine evPos (by omega) (evPos (by omega) (evPos (by simp; omega) ?_))
    rw [rd_mid _ _ _ _ rfl, set_mid _ _ _ _ _ rfl, w64 (x := a - 250) (by omega) (by omega), mn_lo]
    refine Ev.bind (Ev.now _) ?_
    rw [rd_mid _ _ _ _ rfl, w64 (x := _ - 1) (by simp; omega) (by simp; omega)]
    have g := lo_le v (a - 250)
    have ih := steady_l1 R (lesser v (a - 250) :: Q) (lesser v (a - 250)) rfl (by omega) (fun x h => hx x (by simp [h])) (by omega) (by omega)
    have eq : (v :: R).reverse.foldr dn Q = R.reverse.foldr dn (lesser v (a - 250) :: Q) := by
      rw [List.reverse_cons, List.foldr_append]
      show R.reverse.foldr dn (dn v Q) = _
      unfold dn
      rw [← ha]
    rw [eq, List.length_reverse]
    exact ih
theorem steady_l0 : ∀ (B A : List Int) (a i : Int), i = A.length → A.length + B.length ≤ 64 → (∀ x ∈ A, -1000 ≤ x ∧ x ≤ 1000000) → (∀ x ∈ B, -1000 ≤ x ∧ x ≤ 100000) → -1000 ≤ a → a + 250 * B.length ≤ 200000 →
    Ev (fun k => lsf_Steady.l0 k (A ++ B) a ((A.length + B.length : Nat) : Int) i) ((A ++ lift a B).foldr dn [])
  | [], A, a, i, hi, hl, hA, hB, h0, h1 => by
    refine Ev.step (fun k => by rw [lsf_Steady.l0]) ?_
    refine evNeg (by simp; omega) ?_
    simp only [lift, List.append_nil]
    simp only [List.length_nil, Nat.add_zero] at hl
    rw [w64 (x := (A.length : Int) - 1) (by omega) (by omega)]
    have h := steady_l1 A.reverse [] 32768 rfl (by simpa using hl) (fun x hx => hA x (by simpa using hx)) (by simp; omega) (by omega)
    simpa using h
  | v :: B, A, a, i, hi, hl, hA, hB, h0, h1 => by
    have hv := hB v (by simp)
    simp only [List.length_cons] at hl h1
    refine Ev.step (fun k => by rw [lsf_Steady.l0]) ?_
    refine evPos (by simp; omega) (evPos (by omega) (evPos (by simp; omega) ?_))
    rw [rd_mid _ _ _ _ hi, set_mid _ _ _ _ _ hi, w64 (x := a + 250) (by omega) (by omega), mx_hi]
    refine Ev.bind (Ev.now _) ?_
    rw [rd_mid _ _ _ _ hi, w64 (x := i + 1) (by omega) (by omega)]
    have g := hi_ge v (a + 250)
    have ih := steady_l0 B (A ++ [greater v (a + 250)]) (greater v (a + 250)) (i + 1) (by simp; omega) (by simp; omega) (by
      intro x hx
      rcases List.mem_append.1 hx with hx | hx
      · exact hA x hx
      · simp at hx; omega) (fun x h => hB x (by simp [h])) (by omega) (by omega)
    have e : (A ++ [greater v (a + 250)]).length + B.length = A.length + (v :: B).length := by simp; omega
    rw [e] at ih
    simpa [lift] using ih
theorem clampL_bounds {l : List Int} : ∀ x ∈ clampL l, 0 ≤ x ∧ x ≤ 32768 := by
  intro x hx
  obtain ⟨y, _, rfl⟩ := List.mem_map.1 hx
  exact clamp_bounds (by omega)
theorem lsf_steady (l : List Int) : Ev (fun k => lsf_Steady.f k l) (steady l) := by
  refine Ev.congr (fun k => by rw [lsf_Steady.f]) ?_
  unfold steady
  refine evIte (fun h => ?_) (fun h => ?_)
  · rw [if_pos (by omega)]; exact Ev.now _
  · rw [if_neg (by omega)]
    refine Ev.bind (lsf_clamped' l (by omega)) ?_
    have hb := clampL_bounds (l := l)
    have hl := clampL_length l
    have h0 := steady_l0 (clampL l) [] 0 0 rfl (by simp; omega) (by simp) (fun x hx => by have := hb x hx; omega) (by omega) (by omega)
    simpa using h0
theorem lsf_unit' (o : Int) : lsf_unit.f o = some (unit o) := by
  unfold lsf_unit.f unit
  split
  · rfl
  · split <;> rfl
/-- The numbers of a list lie from -4 to 4. -/
def Small (l : List Int) : Prop := ∀ x ∈ l, -4 ≤ x ∧ x ≤ 4
instance (l : List Int) : Decidable (Small l) := inferInstanceAs (Decidable (∀ x ∈ l, _))
def goodB (o one : Int) (two : List Int) : Bool := decide ((o = 10 ∨ o = 16) ∧ 0 ≤ one ∧ one < 16 ∧ (two.length : Int) = o ∧ Small two)
theorem good_l0 (n : Nat) : ∀ (S A : List Int) (i : Int), S.length = n → i = A.length → A.length + S.length ≤ 1000000 →
    Ev (fun k => lsf_Good.l0 k (A ++ S) ((A ++ S).length : Int) i) (decide (Small S)) := by
  induction n with
  | zero =>
    intro S A i hn hi hb
    have e1 : S = [] := List.eq_nil_of_length_eq_zero hn
    subst e1
    refine Ev.step (fun k => by rw [lsf_Good.l0]) ?_
    refine evNeg (by simp; omega) (evConst ?_)
    simp [Small]
  | succ n ih =>
    intro S A i hn hi hb
    cases S with
    | nil => simp at hn
    | cons s S =>
      simp at hn hb
      refine Ev.step (fun k => by rw [lsf_Good.l0]) ?_
      refine evPos (by simp; omega) (evPos (by omega) (evPos (by simp; omega) ?_))
      rw [rd_mid _ _ _ _ hi, w64 (x := i + 1) (by omega) (by omega)]
      refine evIte (fun h => evConst ?_) (fun h => ?_)
      · congr 1; symm; simp [Small]; omega
      refine evIte (fun h2 => evConst ?_) (fun h2 => ?_)
      · congr 1; symm; simp [Small]; omega
      have h3 := ih S (A ++ [s]) (i + 1) (by omega) (by simp; omega) (by simp; omega)
      have e : decide (Small (s :: S)) = decide (Small S) := by
        apply decide_eq_decide.2
        simp only [Small, List.forall_mem_cons]
        exact ⟨fun h => h.2, fun h => ⟨by omega, h⟩⟩
      rw [e]
      simpa using h3
theorem lsf_good (o one : Int) (two : List Int) : Ev (fun k => lsf_Good.f k o one two) (goodB o one two) := by
  refine Ev.congr (fun k => by rw [lsf_Good.f, lsf_unit']) ?_
  refine Ev.bind (Ev.now _) ?_
  have hf : ∀ x y, goodB o one two = false → Ev (fun k => lsf_Good.j0 k true x y) (goodB o one two) := by
    intro x y h
    rw [h]
    refine Ev.step (fun k => by rw [lsf_Good.j0]) ?_
    exact evPos rfl (Ev.now _)
  refine evIte (fun h => hf _ _ ?_) (fun h => ?_)
  · unfold goodB
    apply decide_eq_false
    unfold unit at h
    rintro ⟨h1 | h1, _⟩ <;> simp [h1] at h
  have ho : o = 10 ∨ o = 16 := by
    unfold unit at h
    by_cases h1 : o = 10
    · exact .inl h1
    · by_cases h2 : o = 16
      · exact .inr h2
      · simp [h1, h2] at h
  refine evIte (fun h1 => hf _ _ ?_) (fun h1 => ?_)
  · unfold goodB; apply decide_eq_false; rintro ⟨_, h2, _⟩; omega
  refine evIte (fun h2 => hf _ _ ?_) (fun h2 => ?_)
  · unfold goodB; apply decide_eq_false; rintro ⟨_, _, h3, _⟩; omega
  refine Ev.step (fun k => by rw [lsf_Good.j0]) ?_
  refine evIte (fun h3 => evConst ?_) (fun h3 => ?_)
  · congr 1; symm; unfold goodB; apply decide_eq_false; rintro ⟨_, _, _, h4, _⟩; simp at h3; omega
  have h4 : (two.length : Int) = o := by simpa using h3
  have h5 := good_l0 two.length two [] 0 rfl (by simp) (by simp; omega)
  have e : goodB o one two = decide (Small two) := by
    unfold goodB
    apply decide_eq_decide.2
    exact ⟨fun h => h.2.2.2.2, fun h => ⟨ho, by omega, by omega, h4, h⟩⟩
  rw [e]
  simpa using h5
end Go.Proofs.Ytdchabinakboeaa.Q
