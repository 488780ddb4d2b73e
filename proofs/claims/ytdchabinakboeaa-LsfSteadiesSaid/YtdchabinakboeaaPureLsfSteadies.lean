/- What rises apart already stays as it is: for all lists of gaps, without conditions. -/
import Derived.Test.YtdchabinakboeaaPx46
import Derived.Test.YtdchabinakboeaaQLsf2
import Derived.Test.YtdchabinakboeaaQBits
namespace Go.Proofs.Ytdchabinakboeaa.Pure
open Go.RowKit Go.Proofs.Ytdchabinakboeaa.P Go.Proofs.YtdchabinakboeaaW.PrintWords Go.Proofs.YtdchabinakboeaaW.PrintLast Go.Proofs.YtdchabinakboeaaW.PrintMore
open Go.Proofs.Ytdchabinakboeaa.M Go.Proofs.Ytdchabinakboeaa.Q
set_option linter.unusedVariables false

/-- They rise from a on and end at b. -/
def RiseTo : Int → Int → List Int → Prop
  | a, b, [] => a = b
  | a, b, v :: l => a + 250 ≤ v ∧ RiseTo v b l
theorem riseTo_snoc : ∀ (l : List Int) (a b v : Int), RiseTo a b l → b + 250 ≤ v → RiseTo a v (l ++ [v])
  | [], a, b, v, h, hv => by
    have h : a = b := h
    exact ⟨by omega, rfl⟩
  | x :: l, a, b, v, h, hv => ⟨h.1, riseTo_snoc l x b v h.2 hv⟩
theorem riseTo_rise : ∀ (l : List Int) (a b : Int), RiseTo a b l → b ≤ 32518 → Rise a l
  | [], a, b, h, hb => by
    have h : a = b := h
    show a ≤ 32518
    omega
  | x :: l, a, b, h, hb => ⟨h.1, riseTo_rise l x b h.2 hb⟩
theorem steadies_l0 (g : List Int) (hg : g.length ≤ 64) (d : Nat) : ∀ (l : List Int) (at_ i : Int), 0 ≤ i → i + d = g.length → (l.length : Int) = i → RiseTo 0 at_ l → 0 ≤ at_ → at_ ≤ 1000 * i →
    Ev (fun k => madrigallaw6_LsfSteadies.l0 k g l at_ i) true := by
  induction d with
  | zero =>
    intro l at_ i h0 hi hl hr ha hb
    refine Ev.step (fun k => by rw [madrigallaw6_LsfSteadies.l0]) ?_
    refine evNeg (by omega) (evIte (fun _ => Ev.now _) (fun h => ?_))
    refine Ev.bind (lsf_steady l) ?_
    rw [steady_id (by omega) (riseTo_rise l 0 at_ hr (by omega))]
    exact Ev.bind (same6 l l (by omega)) (evConst (by simp))
  | succ d ih =>
    intro l at_ i h0 hi hl hr ha hb
    refine Ev.step (fun k => by rw [madrigallaw6_LsfSteadies.l0]) ?_
    refine evPos (by omega) (evPos h0 (evPos (by omega) ?_))
    rw [bits_255]
    have h1 := Int.emod_nonneg (rd g i) (show (256 : Int) ≠ 0 by omega)
    have h2 := Int.emod_lt_of_pos (rd g i) (show (0 : Int) < 256 by omega)
    rw [w64 (x := at_ + 250) (by omega) (by omega), w64 (x := at_ + 250 + _) (by omega) (by omega), w64 (x := i + 1) (by omega) (by omega)]
    exact ih _ _ (i + 1) (by omega) (by omega) (by simp; omega) (riseTo_snoc l 0 at_ _ hr (by omega)) (by omega) (by omega)
theorem LsfSteadies : madrigallaw6_LsfSteadies.Pure := by
  intro g _ _ _
  refine Ev.rounds (Ev.congr (fun k => by rw [madrigallaw6_LsfSteadies.f]) (Ev.bind awake6 (evPos rfl ?_)))
  refine evIte (fun _ => Ev.now _) (fun h => ?_)
  exact steadies_l0 g (by omega) g.length [] 0 0 (by omega) (by omega) rfl rfl (by omega) (by omega)
end Go.Proofs.Ytdchabinakboeaa.Pure
