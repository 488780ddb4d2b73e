/- Frequencies of an index, and lists held against each other, as the program does it: lemmas for the laws. -/
import Derived.Test.YtdchabinakboeaaQLsf
import Derived.Test.YtdchabinakboeaaPx34
import Derived.Test.YtdchabinakboeaaPx31
import Derived.KernelRfl
namespace Go.Proofs.Ytdchabinakboeaa.Q
open Go.RowKit Go.Proofs.Ytdchabinakboeaa.P Go.Proofs.YtdchabinakboeaaW.PrintWords Go.Proofs.YtdchabinakboeaaW.PrintLast Go.Proofs.YtdchabinakboeaaW.PrintMore
open Go.Proofs.Ytdchabinakboeaa.M
set_option linter.unusedVariables false

theorem awake6 : Ev (fun k => madrigallaw6_awake.f k) true := Ev.of madrigallaw6_awake.mono (k := 400) (by kernel_rfl)
theorem lsf10 : ∀ i : Fin 16, tabs_Lsf.f 40 10 ((i.val : Nat) : Int) = some (lsfL 10 ((i.val : Nat) : Int)) := by decide +kernel
theorem lsf16 : ∀ i : Fin 16, tabs_Lsf.f 40 16 ((i.val : Nat) : Int) = some (lsfL 16 ((i.val : Nat) : Int)) := by decide +kernel
theorem tabs_lsf {o i : Int} (ho : o = 10 ∨ o = 16) (h0 : 0 ≤ i) (h1 : i < 16) : Ev (fun k => tabs_Lsf.f k o i) (lsfL o i) := by
  have e : ((i.toNat : Nat) : Int) = i := Int.toNat_of_nonneg h0
  rcases ho with rfl | rfl
  · have h := lsf10 ⟨i.toNat, by omega⟩
    simp only [e] at h
    exact Ev.of (tabs_Lsf.mono _ _) h
  · have h := lsf16 ⟨i.toNat, by omega⟩
    simp only [e] at h
    exact Ev.of (tabs_Lsf.mono _ _) h
theorem lsf_all10 : ∀ i : Fin 16, ∀ x ∈ lsfL 10 ((i.val : Nat) : Int), 0 ≤ x ∧ x ≤ 32768 := by decide +kernel
theorem lsf_all16 : ∀ i : Fin 16, ∀ x ∈ lsfL 16 ((i.val : Nat) : Int), 0 ≤ x ∧ x ≤ 32768 := by decide +kernel
theorem lsf_bounds {o i : Int} (ho : o = 10 ∨ o = 16) (h0 : 0 ≤ i) (h1 : i < 16) : ∀ x ∈ lsfL o i, 0 ≤ x ∧ x ≤ 32768 := by
  have e : ((i.toNat : Nat) : Int) = i := Int.toNat_of_nonneg h0
  rcases ho with rfl | rfl
  · have h := lsf_all10 ⟨i.toNat, by omega⟩
    simp only [e] at h
    exact h
  · have h := lsf_all16 ⟨i.toNat, by omega⟩
    simp only [e] at h
    exact h
theorem unit_bounds (o : Int) : 0 ≤ unit o ∧ unit o ≤ 400 := by
  unfold unit
  split
  · omega
  · split <;> omega
/-- Frequencies changed by the second table. -/
def changed (o : Int) (l two : List Int) : List Int := List.zipWith (fun a t => a + unit o * t) l two
theorem decode_l0 (o one : Int) (n : Nat) : ∀ (B A T T0 : List Int) (i : Int), B.length = n → T.length = B.length → T0.length = A.length → i = A.length → A.length + B.length ≤ 1000 → (∀ x ∈ B, 0 ≤ x ∧ x ≤ 32768) → Small T →
    Ev (fun k => lsf_Decode.l0 k o (A ++ B) ((A ++ B).length : Int) i one (T0 ++ T)) (steady (A ++ changed o B T), 0) := by
  induction n with
  | zero =>
    intro B A T T0 i hn ht ht0 hi hb hB hT
    have e1 : B = [] := List.eq_nil_of_length_eq_zero hn
    subst e1
    refine Ev.step (fun k => by rw [lsf_Decode.l0]) ?_
    refine evNeg (by simp; omega) ?_
    simp only [changed, List.zipWith_nil_left, List.append_nil]
    exact Ev.bind (lsf_steady A) (Ev.now _)
  | succ n ih =>
    intro B A T T0 i hn ht ht0 hi hb hB hT
    cases B with
    | nil => simp at hn
    | cons b B =>
      cases T with
      | nil => simp at ht
      | cons t T =>
        simp at hn ht hb
        have hb2 := hB b (by simp)
        have ht2 := hT t (by simp)
        have hu := unit_bounds o
        refine Ev.step (fun k => by rw [lsf_Decode.l0, lsf_unit']) ?_
        refine evPos (by simp; omega) (evPos (by omega) (evPos (by simp; omega) ?_))
        refine Ev.bind (Ev.now _) ?_
        refine evPos (by simp; omega) ?_
        have hm : -1600 ≤ unit o * t ∧ unit o * t ≤ 1600 := by
          have h1 : unit o * t ≤ unit o * 4 := Int.mul_le_mul_of_nonneg_left ht2.2 hu.1
          have h2 : unit o * (-4) ≤ unit o * t := Int.mul_le_mul_of_nonneg_left ht2.1 hu.1
          omega
        rw [rd_mid _ _ _ _ hi, rd_mid T0 t T i (by omega), set_mid _ _ _ _ _ hi, w64 (x := i + 1) (by omega) (by omega), w64 (x := unit o * t) (by omega) (by omega), w64 (by omega) (by omega)]
        have h := ih B (A ++ [b + unit o * t]) T (T0 ++ [t]) (i + 1) (by omega) (by omega) (by simp; omega) (by simp; omega) (by simp; omega) (fun x hx => hB x (by simp [hx])) (fun x hx => hT x (by simp [hx]))
        simpa [changed] using h
theorem lsf_decode (o one : Int) (two : List Int) : Ev (fun k => lsf_Decode.f k o one two) (if goodB o one two = true then (steady (changed o (lsfL o one) two), 0) else ([], 1)) := by
  refine Ev.congr (fun k => by rw [lsf_Decode.f]) ?_
  refine Ev.bind (lsf_good o one two) ?_
  refine evIte (fun h => ?_) (fun h => ?_)
  · rw [if_pos h]
    have hg : (o = 10 ∨ o = 16) ∧ 0 ≤ one ∧ one < 16 ∧ (two.length : Int) = o ∧ Small two := by simpa [goodB] using h
    obtain ⟨ho, h0, h1, h2, h3⟩ := hg
    refine Ev.bind (tabs_lsf ho h0 h1) ?_
    have hl := lsfL_length o one
    have hd := decode_l0 o one (lsfL o one).length (lsfL o one) [] two [] 0 rfl (by omega) rfl rfl (by simp; omega) (lsf_bounds ho h0 h1) h3
    simpa using hd
  · rw [if_neg h]; exact Ev.now _
theorem same_l0 (n : Nat) : ∀ (S T A B : List Int) (i : Int), S.length = n → T.length = S.length → B.length = A.length → i = A.length → A.length + S.length ≤ 1000000000 →
    Ev (fun k => madrigallaw6_same.l0 k (A ++ S) (B ++ T) i) (decide (S = T)) := by
  induction n with
  | zero =>
    intro S T A B i hn ht hb hi hl
    have e1 : S = [] := List.eq_nil_of_length_eq_zero hn
    subst e1
    have e2 : T = [] := List.eq_nil_of_length_eq_zero (by simpa using ht)
    subst e2
    refine Ev.step (fun k => by rw [madrigallaw6_same.l0]) ?_
    exact evNeg (by simp; omega) (evConst (by simp))
  | succ n ih =>
    intro S T A B i hn ht hb hi hl
    cases S with
    | nil => simp at hn
    | cons s S =>
      cases T with
      | nil => simp at ht
      | cons t T =>
        simp at hn ht hl
        refine Ev.step (fun k => by rw [madrigallaw6_same.l0]) ?_
        refine evPos (by simp; omega) (evPos (by omega) (evPos (by simp; omega) ?_))
        rw [rd_mid _ _ _ _ hi, rd_mid B t T i (by omega), w64 (x := i + 1) (by omega) (by omega)]
        refine evIte (fun h => ?_) (fun h => evConst (by simp [h]))
        have h2 := ih S T (A ++ [s]) (B ++ [t]) (i + 1) (by omega) (by omega) (by simp; omega) (by simp; omega) (by simp; omega)
        have e : decide (s :: S = t :: T) = decide (S = T) := by apply decide_eq_decide.2; simp [h]
        rw [e]
        simpa using h2
theorem same6 (a b : List Int) (h : a.length ≤ 1000000000) : Ev (fun k => madrigallaw6_same.f k a b) (decide (a = b)) := by
  refine Ev.congr (fun k => by rw [madrigallaw6_same.f]) ?_
  refine evIte (fun h2 => ?_) (fun h2 => evConst ?_)
  · have := same_l0 a.length a b [] [] 0 rfl (by omega) rfl rfl (by simpa using h)
    simpa using this
  · congr 1; symm; apply decide_eq_false; rintro rfl; exact h2 rfl
end Go.Proofs.Ytdchabinakboeaa.Q
