/- What is answered is new each time: without conditions. -/
import Derived.Test.YtkhcckemcamcbaaPx37
import Derived.Test.YtkhcckemcamcbaaQWin
import Derived.Test.YtkhcckemcamcbaaQAwake2
namespace Go.Proofs.Ytkhcckemcamcbaa.Pure
open Go.RowKit Go.Proofs.Ytkhcckemcamcbaa.P Go.Proofs.YtkhcckemcamcbaaW.PrintWords Go.Proofs.YtkhcckemcamcbaaW.PrintLast Go.Proofs.YtkhcckemcamcbaaW.PrintMore
open Go.Proofs.Ytkhcckemcamcbaa.M Go.Proofs.Ytkhcckemcamcbaa.Q
set_option linter.unusedVariables false

theorem icdf_all : ∀ i : Fin 8, ((tabs_Icdf.f ((i.val : Nat) : Int)).bind fun l => if l.length ≤ 100 then tabs_Good.f 60 l else none) = some true := by decide +kernel
theorem icdf_good (a : Int) : ∃ l, tabs_Icdf.f (Go.bits .and .i64 a 7) = some l ∧ l.length ≤ 100 ∧ Ev (fun k => tabs_Good.f k l) true := by
  rw [bits_7]
  have h := icdf_all ⟨(a % 8).toNat, by omega⟩
  have e : (((a % 8).toNat : Nat) : Int) = a % 8 := Int.toNat_of_nonneg (by omega)
  simp only [e] at h
  obtain ⟨l, hl, hg⟩ := Option.bind_eq_some_iff.mp h
  by_cases hc : l.length ≤ 100
  · rw [if_pos hc] at hg
    exact ⟨l, hl, hc, Ev.of (tabs_Good.mono l) hg⟩
  · rw [if_neg hc] at hg; simp at hg
theorem edges_ok (r : Int) : ∃ l, tabs_Edges.f r = some l ∧ l.length ≤ 100 ∧ (l = [] ∨ rd l 0 = 0 ∧ 0 < l.length) := by
  unfold tabs_Edges.f
  by_cases h1 : r = 8000
  · subst h1; exact ⟨[0, 1, 2, 3, 4, 5, 6, 7, 8, 10, 12, 14, 16, 20], rfl, by decide, .inr ⟨rfl, by decide⟩⟩
  · by_cases h2 : r = 16000
    · subst h2; exact ⟨[0, 1, 2, 3, 4, 5, 6, 7, 8, 10, 12, 14, 16, 20, 24, 28, 34, 40], rfl, by decide, .inr ⟨rfl, by decide⟩⟩
    · by_cases h3 : r = 24000
      · subst h3; exact ⟨[0, 1, 2, 3, 4, 5, 6, 7, 8, 10, 12, 14, 16, 20, 24, 28, 34, 40, 48, 60], rfl, by decide, .inr ⟨rfl, by decide⟩⟩
      · exact ⟨[], by simp only [Option.bind_some, if_neg h1, if_neg h2, if_neg h3], by simp, .inl rfl⟩
theorem window_ok (l : Int) : ∃ w, Ev (fun k => tabs_Window.f k l) w ∧ w.length ≤ 480 ∧ (w = [] ∨ 0 ≤ rd w 0 ∧ 0 < w.length) := by
  by_cases h : 1 ≤ l ∧ l ≤ 480
  · refine ⟨win l.toNat, tabs_window l h, by rw [win_length]; omega, .inr ⟨?_, by rw [win_length]; omega⟩⟩
    rw [rd_win l.toNat 0 (by omega) (by omega)]
    have hw := wat_in (l := (l.toNat : Int)) (i := 0) (by omega) (by omega)
    exact (gw_in hw.1 hw.2).1
  · exact ⟨[], tabs_window_none l h, by simp, .inl rfl⟩
theorem new_l2 (a r l : Int) (e : List Int) (el : e.length ≤ 100) (he : ∃ f, tabs_Edges.f r = some f ∧ f.length = e.length ∧ (f = [] ∨ rd f 0 = 0 ∧ 0 < f.length)) (v : List Int) (hv : Ev (fun k => tabs_Window.f k l) v) (hv2 : v = [] ∨ 0 ≤ rd v 0 ∧ 0 < v.length) (n : Nat) :
    ∀ (w : List Int) (i : Int), w.length = v.length → w.length ≤ 480 → 0 ≤ i → i + n = w.length → Ev (fun k => madrigallaw2_TabsNew.l2 k a r l e w i) true := by
  obtain ⟨b, hb, hbl, hbg⟩ := icdf_good a
  obtain ⟨f, hf, hfl, hf0⟩ := he
  induction n with
  | zero =>
    intro w i hw hw2 hi hin
    refine Ev.step (fun k => by rw [madrigallaw2_TabsNew.l2]) ?_
    refine evNeg (by omega) (Ev.bind (evConst hb) (Ev.bind (evConst hf) (Ev.bind hv (Ev.bind hbg (evPos rfl (evPos (by omega) ?_))))))
    have hfin : Ev (fun k => if (v.length : Int) = (w.length : Int) then (if (v.length : Int) = 0 then (some true) else (if 0 < (v.length : Int) then (some (decide ((rd v 0) ≥ 0))) else (none))) else (none)) true := by
      refine evPos (by omega) (evIte (fun _ => Ev.now _) (fun h => ?_))
      rcases hv2 with h2 | h2
      · subst h2; simp at h
      · exact evPos (by omega) (evConst (by rw [decide_eq_true h2.1]))
    refine evIte (fun _ => hfin) (fun h => ?_)
    rcases hf0 with h2 | h2
    · subst h2; simp at h
    · exact evPos (by omega) (evPos h2.1 hfin)
  | succ n ih =>
    intro w i hw hw2 hi hin
    refine Ev.step (fun k => by rw [madrigallaw2_TabsNew.l2]) ?_
    rw [w64 (x := i + 1) (by omega) (by omega)]
    exact evPos (by omega) (evPos hi (ih _ (i + 1) (by simpa using hw) (by simpa using hw2) (by omega) (by simp; omega)))
theorem new_l1 (a r l : Int) (n : Nat) : ∀ (e : List Int) (i : Int), e.length ≤ 100 → (∃ f, tabs_Edges.f r = some f ∧ f.length = e.length ∧ (f = [] ∨ rd f 0 = 0 ∧ 0 < f.length)) → 0 ≤ i → i + n = e.length → Ev (fun k => madrigallaw2_TabsNew.l1 k a r l e i) true := by
  induction n with
  | zero =>
    intro e i hel he hi hin
    obtain ⟨v, hv, hvl, hv2⟩ := window_ok l
    refine Ev.step (fun k => by rw [madrigallaw2_TabsNew.l1]) ?_
    refine evNeg (by omega) (Ev.bind hv ?_)
    exact new_l2 a r l e hel he v hv hv2 v.length v 0 rfl hvl (by omega) (by omega)
  | succ n ih =>
    intro e i hel he hi hin
    refine Ev.step (fun k => by rw [madrigallaw2_TabsNew.l1]) ?_
    rw [w64 (x := i + 1) (by omega) (by omega)]
    exact evPos (by omega) (evPos hi (ih _ (i + 1) (by simpa using hel) (by simpa using he) (by omega) (by simp; omega)))
theorem new_l0 (a r l : Int) (n : Nat) : ∀ (b : List Int) (i : Int), b.length ≤ 100 → 0 ≤ i → i + n = b.length → Ev (fun k => madrigallaw2_TabsNew.l0 k a r l b i) true := by
  induction n with
  | zero =>
    intro b i hbl hi hin
    obtain ⟨f, hf, hfl, hf0⟩ := edges_ok r
    refine Ev.step (fun k => by rw [madrigallaw2_TabsNew.l0]) ?_
    refine evNeg (by omega) (Ev.bind (evConst hf) ?_)
    exact new_l1 a r l f.length f 0 hfl ⟨f, hf, rfl, hf0⟩ (by omega) (by omega)
  | succ n ih =>
    intro b i hbl hi hin
    refine Ev.step (fun k => by rw [madrigallaw2_TabsNew.l0]) ?_
    rw [w64 (x := i + 1) (by omega) (by omega)]
    exact evPos (by omega) (evPos hi (ih _ (i + 1) (by simpa using hbl) (by omega) (by simp; omega)))
theorem TabsNew : madrigallaw2_TabsNew.Pure := by
  intro a r l _ _ _
  obtain ⟨b, hb, hbl, _⟩ := icdf_good a
  refine Ev.rounds (g := fun k => madrigallaw2_TabsNew.f k a r l) ?_
  refine Ev.congr (fun k => by rw [madrigallaw2_TabsNew.f]) (Ev.bind awake2 (evPos rfl (Ev.bind (evConst hb) ?_)))
  exact new_l0 a r l b.length b 0 hbl (by omega) (by omega)
end Go.Proofs.Ytkhcckemcamcbaa.Pure
