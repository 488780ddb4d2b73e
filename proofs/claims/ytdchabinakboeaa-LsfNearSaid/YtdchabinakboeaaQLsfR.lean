/- Frequencies told and kept apart, as the document's own answer does it: lemmas for the laws. -/
import Derived.Test.YtdchabinakboeaaQRef1
import Derived.Test.YtdchabinakboeaaQLsf2
import Derived.Test.YtdchabinakboeaaPx30
import Derived.Test.YtdchabinakboeaaPx35
import Derived.Test.YtdchabinakboeaaPx36
import Derived.Test.YtdchabinakboeaaPx33
import Derived.Test.YtdchabinakboeaaPx37
import Derived.Test.YtdchabinakboeaaPx38
namespace Go.Proofs.Ytdchabinakboeaa.Q
open Go.RowKit Go.Proofs.Ytdchabinakboeaa.P Go.Proofs.YtdchabinakboeaaW.PrintWords Go.Proofs.YtdchabinakboeaaW.PrintLast Go.Proofs.YtdchabinakboeaaW.PrintMore
open Go.Proofs.Ytdchabinakboeaa.M
set_option linter.unusedVariables false

theorem rlsf10 : ∀ i : Fin 16, madrigalref1_Lsf.f 40 10 ((i.val : Nat) : Int) = some (lsfL 10 ((i.val : Nat) : Int)) := by decide +kernel
theorem rlsf16 : ∀ i : Fin 16, madrigalref1_Lsf.f 40 16 ((i.val : Nat) : Int) = some (lsfL 16 ((i.val : Nat) : Int)) := by decide +kernel
theorem ref_lsf {o i : Int} (ho : o = 10 ∨ o = 16) (h0 : 0 ≤ i) (h1 : i < 16) : Ev (fun k => madrigalref1_Lsf.f k o i) (lsfL o i) := by
  have e : ((i.toNat : Nat) : Int) = i := Int.toNat_of_nonneg h0
  rcases ho with rfl | rfl
  · have h := rlsf10 ⟨i.toNat, by omega⟩
    simp only [e] at h
    exact Ev.of (madrigalref1_Lsf.mono _ _) h
  · have h := rlsf16 ⟨i.toNat, by omega⟩
    simp only [e] at h
    exact Ev.of (madrigalref1_Lsf.mono _ _) h
theorem ref_clamped_l0 (lo hi : Int) (n : Nat) : ∀ (S A R : List Int) (i : Int), S.length = n → i = A.length → R.length = A.length → A.length + S.length ≤ 1000000 →
    Ev (fun k => madrigalref6_clamped.l0 k (A ++ S) lo hi R i) (R ++ S.map fun v => clamp v lo hi) := by
  induction n with
  | zero =>
    intro S A R i hn hi hr hb
    have e1 : S = [] := List.eq_nil_of_length_eq_zero hn
    subst e1
    refine Ev.step (fun k => by rw [madrigalref6_clamped.l0]) ?_
    refine evNeg (by simp; omega) ?_
    simpa using Ev.now R
  | succ n ih =>
    intro S A R i hn hii hr hb
    cases S with
    | nil => simp at hn
    | cons s S =>
      simp at hn hb
      refine Ev.step (fun k => by rw [madrigalref6_clamped.l0]) ?_
      refine evPos (by simp; omega) (evPos (by omega) ?_)
      rw [rd_mid A s S i hii]
      refine Ev.bind (ref_clamp s lo hi) (evPos (by omega) ?_)
      rw [w64 (x := i + 1) (by omega) (by omega)]
      have h := ih S (A ++ [s]) (R ++ [clamp s lo hi]) (i + 1) (by omega) (by simp; omega) (by simp; omega) (by simp; omega)
      simpa using h
theorem ref_clamped (l : List Int) (lo hi : Int) (h : l.length ≤ 1000000) : Ev (fun k => madrigalref6_clamped.f k l lo hi) (l.map fun v => clamp v lo hi) := by
  refine Ev.congr (fun k => by rw [madrigalref6_clamped.f]) ?_
  have := ref_clamped_l0 lo hi l.length l [] [] 0 rfl rfl rfl (by simpa using h)
  simpa using this
theorem ref_steady_l1 : ∀ (R Q : List Int) (a : Int), a = Q.headD 32768 → R.length ≤ 64 → (∀ x ∈ R, -1000 ≤ x ∧ x ≤ 1000000) → -100000 ≤ a - 250 * R.length → a ≤ 1000000 →
    Ev (fun k => madrigalref6_Steady.l1 k (R.reverse ++ Q) a ((R.length : Int) - 1)) (R.reverse.foldr dn Q)
  | [], Q, a, ha, hR, hx, h0, h1 => by
    refine Ev.step (fun k => by rw [madrigalref6_Steady.l1]) ?_
    refine evNeg (by simp) ?_
    simpa using Ev.now Q
  | v :: R, Q, a, ha, hR, hx, h0, h1 => by
    have hv := hx v (by simp)
    simp only [List.length_cons] at hR h0
    refine Ev.step (fun k => by rw [madrigalref6_Steady.l1]) ?_
    have e : (v :: R).reverse ++ Q = R.reverse ++ v :: Q := by simp
    rw [e]
    have ei : (((v :: R).length : Nat) : Int) - 1 = (R.reverse.length : Nat) := by simp
    rw [ei]
    refine evPos (by omega) (evPos (by omega) (evPos (by simp; omega) ?_))
    have g := lo_le v (a - 250)
    have ih := ref_steady_l1 R (lesser v (a - 250) :: Q) (lesser v (a - 250)) rfl (by omega) (fun x h => hx x (by simp [h])) (by omega) (by omega)
    have eq : (v :: R).reverse.foldr dn Q = R.reverse.foldr dn (lesser v (a - 250) :: Q) := by
      rw [List.reverse_cons, List.foldr_append]
      show R.reverse.foldr dn (dn v Q) = _
      unfold dn
      rw [← ha]
    rw [rd_mid _ _ _ _ rfl, set_mid _ _ _ _ _ rfl, w64 (x := a - 250) (by omega) (by omega), w64 (x := _ - 1) (by simp; omega) (by simp; omega), eq]
    rw [List.length_reverse]
    refine evIte (fun h => ?_) (fun h => ?_)
    · have e2 : lesser v (a - 250) = a - 250 := by unfold lesser; rw [if_pos (by omega)]
      rw [e2] at ih ⊢
      refine Ev.bind (Ev.now _) ?_
      rw [rd_mid _ _ _ _ (by simp)]
      exact ih
    · have e2 : lesser v (a - 250) = v := by unfold lesser; rw [if_neg (by omega)]
      rw [e2] at ih ⊢
      exact ih
theorem ref_steady_l0 : ∀ (B A : List Int) (a i : Int), i = A.length → A.length + B.length ≤ 64 → (∀ x ∈ A, -1000 ≤ x ∧ x ≤ 1000000) → (∀ x ∈ B, -1000 ≤ x ∧ x ≤ 100000) → -1000 ≤ a → a + 250 * B.length ≤ 200000 →
    Ev (fun k => madrigalref6_Steady.l0 k (A ++ B) a i) ((A ++ lift a B).foldr dn [])
  | [], A, a, i, hi, hl, hA, hB, h0, h1 => by
    refine Ev.step (fun k => by rw [madrigalref6_Steady.l0]) ?_
    refine evNeg (by simp; omega) ?_
    simp only [lift, List.append_nil]
    simp only [List.length_nil, Nat.add_zero] at hl
    rw [w64 (x := (A.length : Int) - 1) (by omega) (by omega)]
    have h := ref_steady_l1 A.reverse [] 32768 rfl (by simpa using hl) (fun x hx => hA x (by simpa using hx)) (by simp; omega) (by omega)
    simpa using h
  | v :: B, A, a, i, hi, hl, hA, hB, h0, h1 => by
    have hv := hB v (by simp)
    simp only [List.length_cons] at hl h1
    refine Ev.step (fun k => by rw [madrigalref6_Steady.l0]) ?_
    refine evPos (by simp; omega) (evPos (by omega) ?_)
    have g := hi_ge v (a + 250)
    have ih := ref_steady_l0 B (A ++ [greater v (a + 250)]) (greater v (a + 250)) (i + 1) (by simp; omega) (by simp; omega) (by
      intro x hx
      rcases List.mem_append.1 hx with hx | hx
      · exact hA x hx
      · simp at hx; omega) (fun x h => hB x (by simp [h])) (by omega) (by omega)
    have e0 : (A ++ lift a (v :: B)) = (A ++ [greater v (a + 250)]) ++ lift (greater v (a + 250)) B := by simp [lift]
    rw [rd_mid _ _ _ _ hi, set_mid _ _ _ _ _ hi, w64 (x := a + 250) (by omega) (by omega), w64 (x := i + 1) (by omega) (by omega), e0]
    refine evIte (fun h => ?_) (fun h => ?_)
    · have e2 : greater v (a + 250) = a + 250 := by unfold greater; rw [if_pos (by omega)]
      rw [e2] at ih ⊢
      refine Ev.bind (Ev.now _) ?_
      rw [rd_mid _ _ _ _ hi]
      simpa using ih
    · have e2 : greater v (a + 250) = v := by unfold greater; rw [if_neg (by omega)]
      rw [e2] at ih ⊢
      simpa using ih
theorem ref_steady (l : List Int) : Ev (fun k => madrigalref6_Steady.f k l) (steady l) := by
  refine Ev.congr (fun k => by rw [madrigalref6_Steady.f]) ?_
  unfold steady
  refine evIte (fun h => ?_) (fun h => ?_)
  · rw [if_pos (by omega)]; exact Ev.now _
  · rw [if_neg (by omega)]
    refine Ev.bind (ref_clamped l 0 32768 (by omega)) ?_
    have hb := clampL_bounds (l := l)
    have hl := clampL_length l
    exact ref_steady_l0 (clampL l) [] 0 0 rfl (by simp; omega) (by simp) (fun x hx => by have := hb x hx; omega) (by omega) (by omega)
theorem ref_good_l0 (n : Nat) : ∀ (S A : List Int) (i : Int), S.length = n → i = A.length → A.length + S.length ≤ 1000000 →
    Ev (fun k => madrigalref6_GoodIndex.l0 k (A ++ S) i) (decide (Small S)) := by
  induction n with
  | zero =>
    intro S A i hn hi hb
    have e1 : S = [] := List.eq_nil_of_length_eq_zero hn
    subst e1
    refine Ev.step (fun k => by rw [madrigalref6_GoodIndex.l0]) ?_
    refine evNeg (by simp; omega) (evConst ?_)
    simp [Small]
  | succ n ih =>
    intro S A i hn hi hb
    cases S with
    | nil => simp at hn
    | cons s S =>
      simp at hn hb
      refine Ev.step (fun k => by rw [madrigalref6_GoodIndex.l0]) ?_
      refine evPos (by simp; omega) (evPos (by omega) ?_)
      rw [rd_mid _ _ _ _ hi, w64 (x := i + 1) (by omega) (by omega)]
      refine evIte (fun h => evConst ?_) (fun h => ?_)
      · congr 1; symm; simp [Small]; omega
      refine evIte (fun h2 => evConst ?_) (fun h2 => ?_)
      · congr 1; symm; simp [Small]; omega
      have h3 := ih S (A ++ [s]) (i + 1) (by omega) (by simp; omega) (by simp; omega)
      have e : decide (Small (s :: S)) = decide (Small S) := by
        apply decide_eq_decide.2
        simp only [Small, List.forall_mem_cons]
        exact ⟨fun h => h.2, fun h => ⟨by omega, h⟩⟩
      rw [e]
      simpa using h3
theorem ref_good (o one : Int) (two : List Int) : Ev (fun k => madrigalref6_GoodIndex.f k o one two) (goodB o one two) := by
  refine Ev.congr (fun k => by rw [madrigalref6_GoodIndex.f]) ?_
  have hf : ∀ y, goodB o one two = false → Ev (fun k => madrigalref6_GoodIndex.j0 k y true) (goodB o one two) := by
    intro y h
    rw [h]
    refine Ev.step (fun k => by rw [madrigalref6_GoodIndex.j0]) ?_
    exact evPos rfl (Ev.now _)
  have hg : (o = 10 ∨ o = 16) → Ev (fun k => if one < 0 then madrigalref6_GoodIndex.j0 k two true else if one > 15 then madrigalref6_GoodIndex.j0 k two true else madrigalref6_GoodIndex.j0 k two ((two.length : Int) != o)) (goodB o one two) := by
    intro ho
    refine evIte (fun h1 => hf _ ?_) (fun h1 => ?_)
    · unfold goodB; apply decide_eq_false; rintro ⟨_, h2, _⟩; omega
    refine evIte (fun h2 => hf _ ?_) (fun h2 => ?_)
    · unfold goodB; apply decide_eq_false; rintro ⟨_, _, h3, _⟩; omega
    refine Ev.step (fun k => by rw [madrigalref6_GoodIndex.j0]) ?_
    refine evIte (fun h3 => evConst ?_) (fun h3 => ?_)
    · congr 1; symm; unfold goodB; apply decide_eq_false; rintro ⟨_, _, _, h4, _⟩; simp at h3; omega
    have h4 : (two.length : Int) = o := by simpa using h3
    have h5 := ref_good_l0 two.length two [] 0 rfl rfl (by simp; omega)
    have e : goodB o one two = decide (Small two) := by
      unfold goodB
      apply decide_eq_decide.2
      exact ⟨fun h => h.2.2.2.2, fun h => ⟨ho, by omega, by omega, h4, h⟩⟩
    rw [e]
    simpa using h5
  refine evIte (fun h => hg (.inl h)) (fun h => ?_)
  refine evIte (fun h => hg (.inr h)) (fun h2 => hf _ ?_)
  unfold goodB; apply decide_eq_false; rintro ⟨h1 | h1, _⟩
  · exact h h1
  · exact h2 h1
theorem ref_step {o : Int} (ho : o = 10 ∨ o = 16) : madrigalref6_Step.f o = some (unit o) := by
  rcases ho with rfl | rfl <;> rfl
theorem ref_decode_l0 (o : Int) (ho : o = 10 ∨ o = 16) (n : Nat) : ∀ (B A T T0 : List Int) (i : Int), B.length = n → T.length = B.length → T0.length = A.length → i = A.length → ((A.length + B.length : Nat) : Int) = o → (∀ x ∈ B, 0 ≤ x ∧ x ≤ 32768) → Small T →
    Ev (fun k => madrigalref6_Decode.l0 k o (T0 ++ T) (A ++ B) i) (steady (A ++ changed o B T)) := by
  induction n with
  | zero =>
    intro B A T T0 i hn ht ht0 hi hb hB hT
    have e1 : B = [] := List.eq_nil_of_length_eq_zero hn
    subst e1
    refine Ev.step (fun k => by rw [madrigalref6_Decode.l0]) ?_
    refine evNeg (by simp at hb; omega) ?_
    simp only [changed, List.zipWith_nil_left, List.append_nil]
    exact Ev.bind (ref_steady A) (Ev.now _)
  | succ n ih =>
    intro B A T T0 i hn ht ht0 hi hb hB hT
    cases B with
    | nil => simp at hn
    | cons b B =>
      cases T with
      | nil => simp at ht
      | cons t T =>
        simp only [List.length_cons] at hn ht hb
        have hb2 := hB b (by simp)
        have ht2 := hT t (by simp)
        have hu := unit_bounds o
        refine Ev.step (fun k => by rw [madrigalref6_Decode.l0, ref_step ho]) ?_
        refine evPos (by omega) (evPos (by omega) (evPos (by simp; omega) ?_))
        refine Ev.bind (Ev.now _) ?_
        refine evPos (by simp; omega) ?_
        have hm : -1600 ≤ unit o * t ∧ unit o * t ≤ 1600 := by
          have h1 : unit o * t ≤ unit o * 4 := Int.mul_le_mul_of_nonneg_left ht2.2 hu.1
          have h2 : unit o * (-4) ≤ unit o * t := Int.mul_le_mul_of_nonneg_left ht2.1 hu.1
          omega
        rw [rd_mid _ _ _ _ hi, rd_mid T0 t T i (by omega), set_mid _ _ _ _ _ hi, w64 (x := i + 1) (by omega) (by omega), w64 (x := unit o * t) (by omega) (by omega), w64 (by omega) (by omega)]
        have h := ih B (A ++ [b + unit o * t]) T (T0 ++ [t]) (i + 1) (by omega) (by omega) (by simp; omega) (by simp; omega) (by simp; omega) (fun x hx => hB x (by simp [hx])) (fun x hx => hT x (by simp [hx]))
        simpa [changed] using h
theorem goodB_iff {o one : Int} {two : List Int} : goodB o one two = true ↔ (o = 10 ∨ o = 16) ∧ 0 ≤ one ∧ one < 16 ∧ (two.length : Int) = o ∧ Small two := by simp [goodB]
theorem ref_decode (o one : Int) (two : List Int) (hg : goodB o one two = true) : Ev (fun k => madrigalref6_Decode.f k o one two) (steady (changed o (lsfL o one) two)) := by
  obtain ⟨ho, h0, h1, h2, h3⟩ := goodB_iff.1 hg
  refine Ev.congr (fun k => by rw [madrigalref6_Decode.f]) (Ev.bind (ref_lsf ho h0 h1) ?_)
  have hl := lsfL_length o one
  have h := ref_decode_l0 o ho (lsfL o one).length (lsfL o one) [] two [] 0 rfl (by omega) rfl rfl (by simp; omega) (lsf_bounds ho h0 h1) h3
  simpa using h
end Go.Proofs.Ytdchabinakboeaa.Q
