/- Samplers of one rate and the same hand on what they get, eight samples later: a single sample comes out where it should, the greatest of all; for all rates, samples and places that the statement speaks of. -/
import Derived.Test.YtcicenmmpbgmoaaPx32
import Derived.Test.YtcicenmmpbgmoaaQAwake22
import Derived.Test.YtcicenmmpbgmoaaQRun22
namespace Go.Proofs.Ytcicenmmpbgmoaa.Pure
open Go.RowKit Go.Proofs.Ytcicenmmpbgmoaa.P Go.Proofs.YtcicenmmpbgmoaaW.PrintWords Go.Proofs.YtcicenmmpbgmoaaW.PrintLast Go.Proofs.YtcicenmmpbgmoaaW.PrintMore Go.Proofs.Ytcicenmmpbgmoaa.Q Go.Proofs.Ytcicenmmpbgmoaa.M
set_option linter.unusedVariables false

def pure22 (a : Int) : Bool := l22 a a == 1 && m22 a a == 1 && flt22 a a 0 == [0, 0, 0, 0, 0, 0, 0, 32768, 0, 0, 0, 0, 0, 0, 0, 0]
theorem pure22_all : (rates22.all pure22) = true := by decide +kernel
theorem part22_pure (z : List Int) (b : Nat) : part22 [0, 0, 0, 0, 0, 0, 0, 32768, 0, 0, 0, 0, 0, 0, 0, 0] z b 16 = 16384 + 32768 * z.getD (b + 8) 0 := by
  simp [part22]
/-- The answer is one sample, eight later. -/
def one22 (v : Int) (at_ : Nat) : List Int := (List.range 80).map fun j => if j = at_ + 8 then v else 0
theorem one22_len (v : Int) (at_ : Nat) : (one22 v at_).length = 80 := by simp [one22]
theorem one22_rd (v : Int) (at_ i : Nat) (hi : i < 80) : rd (one22 v at_) (i : Int) = if i = at_ + 8 then v else 0 := by
  rw [rd_nat, List.getD_eq_getElem?_getD]
  simp [one22, hi]
theorem one22_l0 (v : Int) (at_ : Nat) (hv : 1000 ≤ v) (hv2 : v ≤ 32767) (ha : at_ ≤ 40) : ∀ (n i k0 : Nat), i + n = 80 → k0 < 80 → (k0 = at_ + 8 ∨ i ≤ at_ + 8) →
    Ev (fun k => madrigallaw22_ResampOne.l0 k v (at_ : Int) (one22 v at_) (k0 : Int) (i : Int)) true := by
  intro n
  induction n with
  | zero =>
    intro i k0 hi hk h
    have hk0 : k0 = at_ + 8 := by omega
    subst hk0
    refine Ev.step (fun k => by rw [madrigallaw22_ResampOne.l0]) ?_
    rw [w64 (x := (at_ : Int) + 8) (by omega) (by omega), one22_rd v at_ (at_ + 8) hk, one22_len]
    refine evNeg (by omega) (evPos (by omega) (evPos (by omega) (evPos (by omega) (evConst ?_))))
    have e : Int.tdiv v 2 = v / 2 := Int.tdiv_eq_ediv_of_nonneg (by omega)
    rw [e, w64 (by omega) (by omega)]
    simp
    omega
  | succ n ih =>
    intro i k0 hi hk h
    refine Ev.step (fun k => by rw [madrigallaw22_ResampOne.l0]) ?_
    rw [one22_len, one22_rd v at_ i (by omega), one22_rd v at_ k0 hk, w64 (x := (i : Int) + 1) (by omega) (by omega)]
    refine evPos (by omega) (evPos (by omega) (evPos (by omega) (evPos (by omega) ?_)))
    refine evIte (fun hc => ?_) (fun hc => ?_)
    · have hi8 : i = at_ + 8 := by
        by_cases h8 : i = at_ + 8
        · exact h8
        · rw [if_neg h8] at hc
          split at hc <;> omega
      have := ih (i + 1) i (by omega) (by omega) (Or.inl hi8)
      simpa using this
    · have := ih (i + 1) k0 (by omega) hk (by
        by_cases h8 : k0 = at_ + 8
        · exact Or.inl h8
        · by_cases hi8 : i = at_ + 8
          · rw [if_pos hi8, if_neg h8] at hc
            omega
          · right
            omega)
      simpa using this
theorem ResampOne : madrigallaw22_ResampOne.Pure := by
  intro a v at_ _ _ _
  have hyes : Ev (fun k => madrigallaw22_ResampOne.j0 k a v at_ true) true := Ev.step (fun k => by rw [madrigallaw22_ResampOne.j0]) (evPos rfl (evConst rfl))
  refine Ev.rounds (Ev.congr (fun k => by rw [madrigallaw22_ResampOne.f]) (Ev.bind awakeEv22 (evPos rfl (Ev.bind (evConst (known22 a)) ?_))))
  refine evIte (fun ha => ?_) (fun _ => hyes)
  have ha : a ∈ rates22 := of_decide_eq_true ha
  refine evIte (fun _ => hyes) (fun h1 => evIte (fun _ => hyes) (fun h2 => evIte (fun _ => hyes) (fun h3 => ?_)))
  by_cases h4 : at_ > 40
  · rw [decide_eq_true h4]; exact hyes
  rw [decide_eq_false h4]
  have hp := List.all_eq_true.mp pure22_all a ha
  unfold pure22 at hp
  simp only [Bool.and_eq_true, beq_iff_eq] at hp
  obtain ⟨⟨hl, hm⟩, hf⟩ := hp
  obtain ⟨p, rfl⟩ : ∃ p : Nat, at_ = p := ⟨at_.toNat, by omega⟩
  refine Ev.step (fun k => by rw [madrigallaw22_ResampOne.j0]) (evNeg (by simp) (evPos (by rw [good22]; simp [ha]) ?_))
  simp only [new22 ha ha, Option.bind_some]
  refine evPos (by omega) (evPos (by omega) (evPos (by simp; omega) ?_))
  have hrun := run22 (rates22_all ha ha) (x := (List.replicate 80 0).set p v) (kept := List.replicate 16 0) (by simp) (by rw [hm]; exact Nat.mod_one _) (by simp) (in16_zeros 16)
  rw [Int.toNat_natCast]
  refine Ev.bind hrun (evPos rfl ?_)
  have hres : res22 (l22 a a) (m22 a a) (flt22 a a) (List.replicate 16 0 ++ sats22 ((List.replicate 80 0).set p v)) (((List.replicate 80 0).set p v).length / m22 a a * l22 a a) = one22 v p := by
    rw [hl, hm]
    unfold res22 one22
    simp only [List.length_set, List.length_replicate, Nat.div_one, Nat.mul_one]
    refine List.map_congr_left fun j hj => ?_
    have hj : j < 80 := List.mem_range.mp hj
    rw [Nat.mod_one, hf, part22_pure]
    have hz : (List.replicate 16 0 ++ sats22 ((List.replicate 80 0).set p v)).getD (j + 8) 0 = if j = p + 8 then v else 0 := by
      rw [List.getD_eq_getElem?_getD]
      by_cases hj8 : j < 8
      · rw [List.getElem?_append_left (by simp; omega)]
        have : ¬ j = p + 8 := by omega
        rw [if_neg this, List.getElem?_replicate]
        split <;> rfl
      · rw [List.getElem?_append_right (by simp; omega)]
        unfold sats22
        rw [List.getElem?_map, List.getElem?_set]
        simp only [List.length_replicate]
        have e1 : (p = j + 8 - 16) ↔ j = p + 8 := by omega
        by_cases hjp : j = p + 8
        · rw [if_pos (e1.mpr hjp), if_pos (by omega), if_pos hjp]
          simp only [Option.map_some, Option.getD_some]
          exact clamp_id (by omega) (by omega)
        · rw [if_neg (fun h => hjp (e1.mp h)), if_neg hjp]
          by_cases hj80 : j + 8 - 16 < 80
          · rw [List.getElem?_replicate, if_pos hj80]
            rfl
          · rw [List.getElem?_replicate, if_neg hj80]
            rfl
    rw [hz]
    have e : (16384 + 32768 * (if j = p + 8 then v else 0)) / 32768 = if j = p + 8 then v else 0 := by omega
    rw [e]
    exact clamp_id (by split <;> omega) (by split <;> omega)
  rw [hres, one22_len]
  refine Ev.step (fun k => by rw [madrigallaw22_ResampOne.j1]) (evNeg (by decide) ?_)
  have := one22_l0 v p (by omega) (by omega) (by omega) 80 0 0 rfl (by omega) (by omega)
  simpa using this
end Go.Proofs.Ytcicenmmpbgmoaa.Pure
