/- What lies between two lists of frequencies is between, number by number; at 0 it is the first, at 4 the second: for all lists and numbers, without conditions. -/
import Derived.Test.YtdchabinakboeaaPx45
import Derived.Test.YtdchabinakboeaaQLsf3
namespace Go.Proofs.Ytdchabinakboeaa.Pure
open Go.RowKit Go.Proofs.Ytdchabinakboeaa.P Go.Proofs.YtdchabinakboeaaW.PrintWords Go.Proofs.YtdchabinakboeaaW.PrintLast Go.Proofs.YtdchabinakboeaaW.PrintMore
open Go.Proofs.Ytdchabinakboeaa.M Go.Proofs.Ytdchabinakboeaa.Q
set_option linter.unusedVariables false

theorem mid_zero (a b : List Int) (h : a.length = b.length) : List.zipWith (mid 0) a b = a := by
  apply List.ext_getElem
  · simp [h]
  · intro i h1 h2
    simp [mid]
theorem mid_four (a b : List Int) (h : a.length = b.length) : List.zipWith (mid 4) a b = b := by
  apply List.ext_getElem
  · simp [h]
  · intro i h1 h2
    simp [mid]
    omega
theorem between_l1 (a b : List Int) (w : Int) (hl : a.length = b.length) (h64 : a.length ≤ 64) (hw0 : 0 ≤ w) (hw1 : w ≤ 4) (ha : ∀ x ∈ a, 0 ≤ x ∧ x ≤ 32768) (hb : ∀ x ∈ b, 0 ≤ x ∧ x ≤ 32768) (d : Nat) : ∀ (i : Int), 0 ≤ i → i + d = a.length →
    Ev (fun k => madrigallaw6_LsfBetween.l1 k a b (List.zipWith (mid w) a b) i) true := by
  induction d with
  | zero =>
    intro i h0 hi
    refine Ev.step (fun k => by rw [madrigallaw6_LsfBetween.l1]) ?_
    exact evNeg (by omega) (Ev.now _)
  | succ d ih =>
    intro i h0 hi
    have hlen : (List.zipWith (mid w) a b).length = a.length := by simp [hl]
    have e : rd (List.zipWith (mid w) a b) i = mid w (rd a i) (rd b i) := by
      rw [rd_in h0 (by omega), rd_in h0 (by omega), rd_in h0 (by omega), List.getElem_zipWith]
    have h1 := ha _ (rd_mem h0 (show i < a.length by omega))
    have h2 := hb _ (rd_mem h0 (show i < b.length by omega))
    have hw : w = 0 ∨ w = 1 ∨ w = 2 ∨ w = 3 ∨ w = 4 := by omega
    have hm : (rd a i ≤ rd b i → rd a i ≤ mid w (rd a i) (rd b i) ∧ mid w (rd a i) (rd b i) ≤ rd b i) ∧ (rd b i < rd a i → rd b i ≤ mid w (rd a i) (rd b i) ∧ mid w (rd a i) (rd b i) ≤ rd a i) := by
      unfold mid
      rcases hw with rfl | rfl | rfl | rfl | rfl <;> omega
    refine Ev.step (fun k => by rw [madrigallaw6_LsfBetween.l1]) ?_
    refine evPos (by omega) (evPos h0 (evPos (by omega) ?_))
    rw [e, w64 (x := i + 1) (by omega) (by omega)]
    refine evIte (fun h => ?_) (fun h => ?_)
    · exact evPos (by omega) (evNeg (by omega) (evNeg (by omega) (ih (i + 1) (by omega) (by omega))))
    · exact evPos (by omega) (evNeg (by omega) (evNeg (by omega) (ih (i + 1) (by omega) (by omega))))
theorem take_succ {l : List Int} {i : Int} (h0 : 0 ≤ i) (h1 : i < l.length) : l.take (i + 1).toNat = l.take i.toNat ++ [rd l i] := by
  have h : i.toNat < l.length := by omega
  rw [show (i + 1).toNat = i.toNat + 1 by omega, List.take_succ_eq_append_getElem h, rd_in h0 h]
theorem between_l0' (a b : List Int) (w : Int) (hl : a.length = b.length) (h64 : a.length ≤ 64) (hw0 : 0 ≤ w) (hw1 : w ≤ 4) (d : Nat) : ∀ (i : Int), 0 ≤ i → i + d = a.length → (∀ x ∈ a.take i.toNat, 0 ≤ x ∧ x ≤ 32768) → (∀ x ∈ b.take i.toNat, 0 ≤ x ∧ x ≤ 32768) →
    Ev (fun k => madrigallaw6_LsfBetween.l0 k a b w i) true := by
  induction d with
  | zero =>
    intro i h0 hi ha hb
    rw [List.take_of_length_le (by omega)] at ha hb
    refine Ev.step (fun k => by rw [madrigallaw6_LsfBetween.l0]) ?_
    refine evNeg (by omega) ?_
    refine Ev.bind (between_ok a b w hl h64 hw0 hw1) (Ev.bind (between_ok a b 0 hl h64 (by omega) (by omega)) (Ev.bind (between_ok a b 4 hl h64 (by omega) (by omega)) ?_))
    rw [clampL_id ha, clampL_id hb, mid_zero a b hl, mid_four a b hl]
    refine evPos rfl (evPos rfl (evPos rfl ?_))
    refine Ev.bind (same6 a a (by omega)) (evPos (by simp) (Ev.bind (same6 b b (by omega)) ?_))
    refine Ev.step (fun k => by rw [madrigallaw6_LsfBetween.j2]) ?_
    exact evNeg (by simp) (between_l1 a b w hl h64 hw0 hw1 ha hb a.length 0 (by omega) (by omega))
  | succ d ih =>
    intro i h0 hi ha hb
    refine Ev.step (fun k => by rw [madrigallaw6_LsfBetween.l0]) ?_
    refine evPos (by omega) (evPos h0 (evIte (fun _ => Ev.now _) (fun g1 => evIte (fun _ => Ev.now _) (fun g2 => evPos (by omega) (evIte (fun _ => Ev.now _) (fun g3 => evIte (fun _ => Ev.now _) (fun g4 => ?_)))))))
    rw [w64 (x := i + 1) (by omega) (by omega)]
    refine ih (i + 1) (by omega) (by omega) ?_ ?_
    · rw [take_succ h0 (by omega)]
      intro x hx
      rcases List.mem_append.1 hx with hx | hx
      · exact ha x hx
      · simp at hx; omega
    · rw [take_succ h0 (by omega)]
      intro x hx
      rcases List.mem_append.1 hx with hx | hx
      · exact hb x hx
      · simp at hx; omega
theorem LsfBetween : madrigallaw6_LsfBetween.Pure := by
  intro a b w _ _ _ _ _ _ _
  have hj : ∀ x y z, Ev (fun k => madrigallaw6_LsfBetween.j0 k x y z true) true := by
    intro x y z
    refine Ev.step (fun k => by rw [madrigallaw6_LsfBetween.j0]) ?_
    exact evPos rfl (Ev.now _)
  refine Ev.rounds (Ev.congr (fun k => by rw [madrigallaw6_LsfBetween.f]) (Ev.bind awake6 (evPos rfl ?_)))
  refine evIte (fun h1 => ?_) (fun _ => hj _ _ _)
  refine evIte (fun _ => hj _ _ _) (fun h2 => ?_)
  refine evIte (fun _ => hj _ _ _) (fun h3 => ?_)
  refine Ev.step (fun k => by rw [madrigallaw6_LsfBetween.j0]) ?_
  refine evIte (fun _ => Ev.now _) (fun h4 => ?_)
  simp at h4
  exact between_l0' a b w (by omega) (by omega) (by omega) (by omega) a.length 0 (by omega) (by omega) (by simp) (by simp)
end Go.Proofs.Ytdchabinakboeaa.Pure
