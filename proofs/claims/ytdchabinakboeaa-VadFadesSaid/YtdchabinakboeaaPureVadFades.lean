/- Behind any sounds, silence is heard as nobody speaking from the sixth frame on, and the floor is nought: for every list of sounds and every number of frames, without conditions. -/
import Derived.Test.YtdchabinakboeaaPx18
import Derived.Test.YtdchabinakboeaaQVad
namespace Go.Proofs.Ytdchabinakboeaa.Pure
open Go.RowKit Go.Proofs.Ytdchabinakboeaa.P Go.Proofs.YtdchabinakboeaaW.PrintWords Go.Proofs.YtdchabinakboeaaW.PrintLast Go.Proofs.YtdchabinakboeaaW.PrintMore
open Go.Proofs.Ytdchabinakboeaa.M Go.Proofs.Ytdchabinakboeaa.Q
set_option linter.unusedVariables false

theorem silent : level (List.replicate 80 0) = 0 := by decide +kernel
theorem fades_l1 (n : Int) (hn : n ≤ 60) (d : Nat) : ∀ (i f c : Int), 0 ≤ i → i + d = n → -1 ≤ f → f ≤ 16128 → 0 ≤ c → c ≤ 4 → (c = 0 ∨ c + i ≤ 4) →
    Ev (fun k => madrigallaw13_VadFades.l1 k n i f c) true := by
  induction d with
  | zero =>
    intro i f c h0 hi f0 f1 c0 c1 hc
    refine Ev.step (fun k => by rw [madrigallaw13_VadFades.l1]) ?_
    exact evNeg (by omega) (Ev.now _)
  | succ d ih =>
    intro i f c h0 hi f0 f1 c0 c1 hc
    refine Ev.step (fun k => by rw [madrigallaw13_VadFades.l1]) ?_
    refine evPos (by omega) (evPos (by omega) ?_)
    refine Ev.bind (vad_step f c _ f0 f1 c0 c1) ?_
    rw [silent]
    have hf : vfloor f 0 = 0 := by have := vfloor_bounds f0 (show (0 : Int) ≤ 0 by omega); omega
    rw [w64 (x := i + 1) (by omega) (by omega)]
    unfold vstep
    rw [hf, if_neg (show ¬ (0 : Int) > 0 + 512 by omega)]
    by_cases h : c > 0
    · rw [if_pos h]
      refine evPos rfl (evNeg (by omega) ?_)
      unfold vad_Meter_Floor.f
      refine Ev.bind (Ev.now _) (evPos rfl ?_)
      exact ih (i + 1) 0 (c - 1) (by omega) (by omega) (by omega) (by omega) (by omega) (by omega) (by omega)
    · rw [if_neg h]
      refine evNeg (by simp) ?_
      unfold vad_Meter_Floor.f
      refine Ev.bind (Ev.now _) (evPos rfl ?_)
      exact ih (i + 1) 0 c (by omega) (by omega) (by omega) (by omega) (by omega) (by omega) (by omega)
theorem fades_l0 (ls : List (List Int)) (n : Int) (hl : ls.length ≤ 30) (hn0 : 0 ≤ n) (hn : n ≤ 60) (d : Nat) : ∀ (i f c : Int), 0 ≤ i → i + d = ls.length → -1 ≤ f → f ≤ 16128 → 0 ≤ c → c ≤ 4 →
    Ev (fun k => madrigallaw13_VadFades.l0 k ls n i f c) true := by
  induction d with
  | zero =>
    intro i f c h0 hi f0 f1 c0 c1
    refine Ev.step (fun k => by rw [madrigallaw13_VadFades.l0]) ?_
    exact evNeg (by omega) (fades_l1 n hn n.toNat 0 f c (by omega) (by omega) f0 f1 c0 c1 (by omega))
  | succ d ih =>
    intro i f c h0 hi f0 f1 c0 c1
    refine Ev.step (fun k => by rw [madrigallaw13_VadFades.l0]) ?_
    refine evPos (by omega) (evPos h0 ?_)
    refine Ev.bind (vad_step f c _ f0 f1 c0 c1) ?_
    have hl := level_bounds (rd_L1 ls i)
    have hv := vstep_inv (c := c) f0 hl.1 hl.2 c0 c1
    rw [w64 (x := i + 1) (by omega) (by omega)]
    exact ih (i + 1) _ _ (by omega) (by omega) hv.1 hv.2.1 hv.2.2.1 hv.2.2.2
theorem fades_j0 (ls : List (List Int)) (n : Int) (b : Bool) (h : b = false → ls.length ≤ 30 ∧ 0 ≤ n ∧ n ≤ 60) : Ev (fun k => madrigallaw13_VadFades.j0 k ls n b) true := by
  refine Ev.step (fun k => by rw [madrigallaw13_VadFades.j0]) ?_
  refine evIte (fun _ => Ev.now _) (fun hb => ?_)
  obtain ⟨h1, h2, h3⟩ := h (by simpa using hb)
  unfold vad_New.f
  refine Ev.bind (Ev.now _) ?_
  exact fades_l0 ls n h1 h2 h3 ls.length 0 (-1) 0 (by omega) (by omega) (by omega) (by omega) (by omega) (by omega)
theorem VadFades : madrigallaw13_VadFades.Pure := by
  intro l0 a1 _ _ _
  refine Ev.rounds (Ev.congr (fun k => by rw [madrigallaw13_VadFades.f]) (Ev.bind awake13 (evPos rfl ?_)))
  refine evIte (fun _ => fades_j0 _ _ _ (by simp)) (fun h1 => ?_)
  refine evIte (fun _ => fades_j0 _ _ _ (by simp)) (fun h2 => ?_)
  exact fades_j0 _ _ _ (fun h => by simp at h; omega)
end Go.Proofs.Ytdchabinakboeaa.Pure
