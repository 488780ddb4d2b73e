/- The index that is found for frequencies of the tables tells frequencies no farther than the first table's own ones, number by number: for all orders and indexes, without conditions. -/
import Derived.Test.YtdchabinakboeaaPx44
import Derived.Test.YtdchabinakboeaaQLsf4
import Derived.Test.YtdchabinakboeaaQLsfR
namespace Go.Proofs.Ytdchabinakboeaa.Pure
open Go.RowKit Go.Proofs.Ytdchabinakboeaa.P Go.Proofs.YtdchabinakboeaaW.PrintWords Go.Proofs.YtdchabinakboeaaW.PrintLast Go.Proofs.YtdchabinakboeaaW.PrintMore
open Go.Proofs.Ytdchabinakboeaa.M Go.Proofs.Ytdchabinakboeaa.Q
set_option linter.unusedVariables false

theorem near_two {f l w : Int} (hf : f = 400 ∨ f = 250) : (0 ≤ l - w → -(l - w) ≤ l + f * twoAt f w l - w ∧ l + f * twoAt f w l - w ≤ l - w) ∧ (l - w < 0 → l - w ≤ l + f * twoAt f w l - w ∧ l + f * twoAt f w l - w ≤ -(l - w)) := by
  unfold twoAt clamp
  rcases hf with rfl | rfl
  · split
    · omega
    · split <;> omega
  · split
    · omega
    · split <;> omega
theorem near_l0 (o one : Int) (ho : o = 10 ∨ o = 16) (want l two : List Int) (hl : (l.length : Int) = o) (hw : (want.length : Int) = o) (ht : two = twos (unit o) want l) (bl : ∀ x ∈ l, 0 ≤ x ∧ x ≤ 32768) (bw : ∀ x ∈ want, 0 ≤ x ∧ x ≤ 32768) (d : Nat) : ∀ (i : Int), 0 ≤ i → i + d = o →
    Ev (fun k => madrigallaw6_LsfNear.l0 k o want l i one two) true := by
  have hu : unit o = 400 ∨ unit o = 250 := by rcases ho with rfl | rfl <;> simp [unit]
  induction d with
  | zero =>
    intro i h0 hi
    refine Ev.step (fun k => by rw [madrigallaw6_LsfNear.l0]) ?_
    exact evNeg (by omega) (Ev.now _)
  | succ d ih =>
    intro i h0 hi
    have b1 := bl _ (rd_mem h0 (show i < l.length by omega))
    have b2 := bw _ (rd_mem h0 (show i < want.length by omega))
    have hlen : two.length = l.length := by rw [ht]; simp [twos]; omega
    have et : rd two i = twoAt (unit o) (rd want i) (rd l i) := by
      rw [rd_in h0 (by omega), rd_in h0 (by omega), rd_in h0 (by omega)]
      subst ht
      simp [twos]
    have hn := near_two (l := rd l i) (w := rd want i) hu
    have hc : -4 ≤ twoAt (unit o) (rd want i) (rd l i) ∧ twoAt (unit o) (rd want i) (rd l i) ≤ 4 := clamp_bounds (by omega)
    have hm : -1600 ≤ unit o * twoAt (unit o) (rd want i) (rd l i) ∧ unit o * twoAt (unit o) (rd want i) (rd l i) ≤ 1600 := by
      rcases hu with e | e <;> rw [e] at hc ⊢ <;> omega
    refine Ev.step (fun k => by rw [madrigallaw6_LsfNear.l0, ref_step ho]) ?_
    refine evPos (by omega) (evPos h0 (evPos (by omega) (evPos (by omega) (Ev.bind (Ev.now _) (evPos (by omega) ?_)))))
    rw [et, w64 (x := rd l i - rd want i) (by omega) (by omega), w64 (x := unit o * _) (by omega) (by omega), w64 (x := rd l i + _) (by omega) (by omega), w64 (x := rd l i + _ - _) (by omega) (by omega), w64 (x := -(rd l i - rd want i)) (by omega) (by omega)]
    have next := ih (i + 1) (by omega) (by omega)
    have hj : ∀ dd, (0 ≤ dd) → -dd ≤ rd l i + unit o * twoAt (unit o) (rd want i) (rd l i) - rd want i → rd l i + unit o * twoAt (unit o) (rd want i) (rd l i) - rd want i ≤ dd →
        Ev (fun k => madrigallaw6_LsfNear.j2 k o want l i dd (rd l i + unit o * twoAt (unit o) (rd want i) (rd l i) - rd want i) one two) true := by
      intro dd g0 g1 g2
      refine Ev.step (fun k => by rw [madrigallaw6_LsfNear.j2]) ?_
      rw [w64 (x := i + 1) (by omega) (by omega), w64 (x := -(rd l i + _ - _)) (by omega) (by omega)]
      refine evIte (fun g => ?_) (fun g => ?_)
      · exact evNeg (by omega) next
      · exact evNeg (by omega) next
    refine evIte (fun g => ?_) (fun g => ?_)
    · exact hj _ (by omega) (by omega) (by omega)
    · exact hj _ (by omega) (by omega) (by omega)
theorem LsfNear : madrigallaw6_LsfNear.Pure := by
  intro o one two _ _ _ _
  refine Ev.rounds (Ev.congr (fun k => by rw [madrigallaw6_LsfNear.f]) (Ev.bind awake6 (evPos rfl (Ev.bind (ref_good o one two) ?_))))
  refine evIte (fun hg => ?_) (fun _ => Ev.now _)
  obtain ⟨ho, h0, h1, h2, h3⟩ := goodB_iff.1 hg
  have hcl : (changed o (lsfL o one) two).length ≤ 64 := by simp [changed, lsfL_length]; omega
  have hcl2 : ((changed o (lsfL o one) two).length : Int) = o := by simp [changed, lsfL_length]; omega
  have hsl := steady_length hcl
  have hr := steady_rise hcl
  refine Ev.bind (ref_decode o one two hg) ?_
  have bw : ∀ x ∈ steady (changed o (lsfL o one) two), 0 ≤ x ∧ x ≤ 32768 := fun x hx => by have := hr.mem x hx; omega
  have hs := lsf_search_ok o ho (steady (changed o (lsfL o one) two)) (by omega)
  rw [clampL_id bw] at hs
  have hf := found_in o (steady (changed o (lsfL o one) two))
  refine Ev.bind hs (evPos rfl (Ev.bind (lsf_good _ _ _) ?_))
  have hl := lsfL_length o (found o (steady (changed o (lsfL o one) two)))
  have e : goodB o (found o (steady (changed o (lsfL o one) two))) (twos (unit o) (steady (changed o (lsfL o one) two)) (lsfL o (found o (steady (changed o (lsfL o one) two))))) = true :=
    goodB_iff.2 ⟨ho, hf.1, hf.2, by simp [twos]; omega, twos_small _ _ _⟩
  dsimp only
  rw [e]
  refine Ev.step (fun k => by rw [madrigallaw6_LsfNear.j0]) ?_
  refine evNeg (by simp) (Ev.bind (ref_lsf ho hf.1 hf.2) ?_)
  exact near_l0 o _ ho _ _ _ (by omega) (by omega) rfl (lsf_bounds ho hf.1 hf.2) bw o.toNat 0 (by omega) (by omega)
end Go.Proofs.Ytdchabinakboeaa.Pure
