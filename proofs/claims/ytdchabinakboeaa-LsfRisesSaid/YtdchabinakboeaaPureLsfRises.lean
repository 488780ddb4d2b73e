/- What is told, and what is kept apart, rises by 250 at least, within the bounds; kept apart again it is the same: for all lists and indexes, without conditions. -/
import Derived.Test.YtdchabinakboeaaPx43
import Derived.Test.YtdchabinakboeaaQLsf2
namespace Go.Proofs.Ytdchabinakboeaa.Pure
open Go.RowKit Go.Proofs.Ytdchabinakboeaa.P Go.Proofs.YtdchabinakboeaaW.PrintWords Go.Proofs.YtdchabinakboeaaW.PrintLast Go.Proofs.YtdchabinakboeaaW.PrintMore
open Go.Proofs.Ytdchabinakboeaa.M Go.Proofs.Ytdchabinakboeaa.Q
set_option linter.unusedVariables false

theorem rise_at : ∀ (l : List Int) (a : Int), Rise a l → ∀ i : Nat, i < l.length → (if i = 0 then a else l.getD (i - 1) 0) + 250 ≤ l.getD i 0 ∧ l.getD i 0 ≤ 32518
  | [], _, _, i, hi => by simp at hi
  | v :: l, a, h, 0, hi => by
    have := Rise.le h.2
    exact ⟨by simpa using h.1, by simpa using this⟩
  | v :: l, a, h, 1, hi => by
    have h2 := rise_at l v h.2 0 (by simpa using hi)
    simpa using h2
  | v :: l, a, h, i + 2, hi => by
    have h2 := rise_at l v h.2 (i + 1) (by simp at hi; omega)
    simpa using h2
theorem rises_l1 (x y : List Int) (j : Int) (hj : j = 0 ∨ j = 1) (hx : (rd_L1 [x, y] j).length ≤ 1000) (hr : Rise 0 (rd_L1 [x, y] j)) (hn : Ev (fun k => madrigallaw6_LsfRises.l0 k [x, y] (wrap64 (j + 1))) true) (d : Nat) :
    ∀ (i was : Int), 0 ≤ i → i + d = (rd_L1 [x, y] j).length → was = (if i.toNat = 0 then 0 else (rd_L1 [x, y] j).getD (i.toNat - 1) 0) → Ev (fun k => madrigallaw6_LsfRises.l1 k [x, y] j was i) true := by
  induction d with
  | zero =>
    intro i was h0 hi hw
    refine Ev.step (fun k => by rw [madrigallaw6_LsfRises.l1]) ?_
    exact evPos (by omega) (evPos (by simp; omega) (evNeg (by omega) hn))
  | succ d ih =>
    intro i was h0 hi hw
    have h1 := rise_at _ 0 hr i.toNat (by omega)
    have h2 := hr.mem
    rw [← hw] at h1
    have e : rd (rd_L1 [x, y] j) i = (rd_L1 [x, y] j).getD i.toNat 0 := rfl
    have hwb : 0 ≤ was ∧ was ≤ 32518 := by
      rw [hw]
      split
      · omega
      · have h3 := rise_at _ 0 hr (i.toNat - 1) (by omega)
        have h4 := hr.mem ((rd_L1 [x, y] j).getD (i.toNat - 1) 0) (by
          rw [List.getD_eq_getElem?_getD, List.getElem?_eq_getElem (by omega)]
          exact List.getElem_mem _)
        omega
    refine Ev.step (fun k => by rw [madrigallaw6_LsfRises.l1]) ?_
    refine evPos (by omega) (evPos (by simp; omega) (evPos (by omega) (evPos h0 ?_)))
    rw [e, w64 (x := was + 250) (by omega) (by omega), w64 (x := i + 1) (by omega) (by omega)]
    refine evNeg (by omega) (evNeg (by omega) (ih (i + 1) _ (by omega) (by omega) ?_))
    rw [if_neg (by omega), show (i + 1).toNat - 1 = i.toNat by omega]
theorem rises_both (x y : List Int) (hx : x.length ≤ 1000) (hy : y.length ≤ 1000) (rx : Rise 0 x) (ry : Rise 0 y) : Ev (fun k => madrigallaw6_LsfRises.l0 k [x, y] 0) true := by
  have h2 : Ev (fun k => madrigallaw6_LsfRises.l0 k [x, y] 2) true := by
    refine Ev.step (fun k => by rw [madrigallaw6_LsfRises.l0]) ?_
    exact evNeg (by omega) (Ev.now _)
  have h1 : Ev (fun k => madrigallaw6_LsfRises.l0 k [x, y] 1) true := by
    refine Ev.step (fun k => by rw [madrigallaw6_LsfRises.l0]) ?_
    refine evPos (by omega) ?_
    exact rises_l1 x y 1 (.inr rfl) hy ry (by simpa [w64] using h2) y.length 0 0 (by omega) (by show (0 : Int) + _ = (y.length : Int); omega) rfl
  refine Ev.step (fun k => by rw [madrigallaw6_LsfRises.l0]) ?_
  refine evPos (by omega) ?_
  exact rises_l1 x y 0 (.inl rfl) hx rx (by simpa [w64] using h1) x.length 0 0 (by omega) (by show (0 : Int) + _ = (x.length : Int); omega) rfl
theorem LsfRises : madrigallaw6_LsfRises.Pure := by
  intro l o one two _ _ _ _ _ _ _
  refine Ev.rounds (Ev.congr (fun k => by rw [madrigallaw6_LsfRises.f]) (Ev.bind awake6 (evPos rfl ?_)))
  refine evIte (fun _ => Ev.now _) (fun h => ?_)
  have hl : l.length ≤ 64 := by omega
  have hs := steady_length hl
  have hr := steady_rise hl
  refine Ev.bind (lsf_steady l) ?_
  refine evPos (by omega) ?_
  refine Ev.bind (lsf_steady _) ?_
  rw [steady_id (by omega) hr]
  refine Ev.bind (same6 _ _ (by omega)) ?_
  refine Ev.step (fun k => by rw [madrigallaw6_LsfRises.j0]) ?_
  refine evNeg (by simp) ?_
  refine Ev.bind (lsf_decode o one two) ?_
  split
  · rename_i hg
    have hg2 : (o = 10 ∨ o = 16) ∧ 0 ≤ one ∧ one < 16 ∧ (two.length : Int) = o ∧ Small two := by simpa [goodB] using hg
    have hcl : (changed o (lsfL o one) two).length ≤ 64 := by simp [changed, lsfL_length]; omega
    exact rises_both _ _ (by omega) (by have := steady_length hcl; show (steady _).length ≤ 1000; omega) hr (steady_rise hcl)
  · exact rises_both _ _ (by omega) (by show ([] : List Int).length ≤ 1000; simp) hr (show (0 : Int) ≤ 32518 by omega)
end Go.Proofs.Ytdchabinakboeaa.Pure
