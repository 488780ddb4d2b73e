/- A sound is most like itself now, and that is its power: for every sound and order, without conditions. -/
import Derived.Test.YtllglpcpjeggcaaPx53
import Derived.Test.YtllglpcpjeggcaaQLevin2
import Derived.Test.YtllglpcpjeggcaaQAwake12
namespace Go.Proofs.Ytllglpcpjeggcaa.Pure
open Go.RowKit Go.Proofs.Ytllglpcpjeggcaa.P Go.Proofs.YtllglpcpjeggcaaW.PrintWords Go.Proofs.YtllglpcpjeggcaaW.PrintLast Go.Proofs.YtllglpcpjeggcaaW.PrintMore
open Go.Proofs.Ytllglpcpjeggcaa.M Go.Proofs.Ytllglpcpjeggcaa.Q
set_option linter.unusedVariables false

theorem powL_dot : ∀ l : List Int, (∀ x ∈ l, -32768 ≤ x ∧ x ≤ 32767) → powL l = dot l l
  | [], _ => rfl
  | v :: l, h => by
    have hv := h v (by simp)
    have ih := powL_dot l fun x hx => h x (by simp [hx])
    have e : cl20 v = v := clamp_id (by omega) (by omega)
    simp only [powL, dot, e, ih]
theorem auto_law_l1 (x : List Int) (m : Nat) (hm : 0 < m) (hx : x.length ≤ 960) (d : Nat) : ∀ (i : Int), 0 ≤ i → i + d = x.length → (∀ v ∈ x.take i.toNat, -32768 ≤ v ∧ v ≤ 32767) →
    Ev (fun k => madrigallaw12_LevinAuto.l1 k x (autoL (x.map sat) m) i) true := by
  have e0 : rd (autoL (x.map sat) m) 0 = dot (x.map sat) (x.map sat) := by
    rw [rd_autoL _ _ _ (by omega) (by omega)]; simp
  have hn := dot_self_nonneg (x.map sat)
  induction d with
  | zero =>
    intro i h0 hi h
    refine Ev.step (fun k => by rw [madrigallaw12_LevinAuto.l1]) ?_
    rw [List.take_of_length_le (by omega)] at h
    refine evNeg (by omega) (evPos (by rw [autoL_length]; omega) (Ev.bind (levin_power x) ?_))
    rw [e0, sat_kept h, List.take_of_length_le hx, powL_dot x h]
    exact evConst (by simp)
  | succ d ih =>
    intro i h0 hi h
    refine Ev.step (fun k => by rw [madrigallaw12_LevinAuto.l1]) ?_
    refine evPos (by omega) (evPos h0 ?_)
    have hno : Ev (fun _ => if 0 < ((autoL (x.map sat) m).length : Int) then some (decide (rd (autoL (x.map sat) m) 0 ≥ 0)) else none) true :=
      evPos (by rw [autoL_length]; omega) (evConst (by rw [e0]; simpa using hn))
    refine evIte (fun _ => hno) (fun g1 => evIte (fun _ => hno) (fun g2 => ?_))
    rw [w64 (x := i + 1) (by omega) (by omega)]
    refine ih (i + 1) (by omega) (by omega) ?_
    rw [take_rd h0 (by omega)]
    intro v hv
    rcases List.mem_append.1 hv with hv | hv
    · exact h v hv
    · simp at hv; omega
theorem auto_law_l0 (x : List Int) (m : Nat) (hm : 0 < m) (hm2 : m ≤ 100) (hx : x.length ≤ 960) (d : Nat) : ∀ (i : Int), 1 ≤ i → i + d = m →
    Ev (fun k => madrigallaw12_LevinAuto.l0 k x (autoL (x.map sat) m) i) true := by
  have e0 : rd (autoL (x.map sat) m) 0 = dot (x.map sat) (x.map sat) := by
    rw [rd_autoL _ _ _ (by omega) (by omega)]; simp
  induction d with
  | zero =>
    intro i h0 hi
    refine Ev.step (fun k => by rw [madrigallaw12_LevinAuto.l0]) ?_
    refine evNeg (by rw [autoL_length]; omega) ?_
    exact auto_law_l1 x m hm hx x.length 0 (by omega) (by omega) (by simp)
  | succ d ih =>
    intro i h0 hi
    refine Ev.step (fun k => by rw [madrigallaw12_LevinAuto.l0]) ?_
    have hi2 : rd (autoL (x.map sat) m) i = dot ((x.map sat).drop i.toNat) (x.map sat) := rd_autoL _ _ _ (by omega) (by omega)
    have hm := dot_most (x.map sat) i.toNat
    have hb := dot_bounds _ _ (within_drop (within_sat x) i.toNat) (within_sat x)
    have hl : ((x.map sat).drop i.toNat).length ≤ 960 := by simp; omega
    rw [e0, hi2, w64 (x := -dot _ _) (by omega) (by omega), w64 (x := i + 1) (by omega) (by omega)]
    exact evPos (by rw [autoL_length]; omega) (evPos (by omega) (evPos (by rw [autoL_length]; omega) (evNeg (by omega) (evNeg (by omega) (ih (i + 1) (by omega) (by omega))))))
theorem LevinAuto : madrigallaw12_LevinAuto.Pure := by
  intro l0 a1 _ _ _ _
  refine Ev.rounds (Ev.congr (fun k => by rw [madrigallaw12_LevinAuto.f]) (Ev.bind awake12 (evPos rfl ?_)))
  by_cases h : l0.length ≤ 960 ∧ 1 ≤ a1 ∧ a1 ≤ 32
  · obtain ⟨h1, h2, h3⟩ := h
    refine Ev.bind (levin_auto l0 a1 h1 h2 h3) (evPos rfl ?_)
    exact auto_law_l0 l0 (a1.toNat + 1) (by omega) (by omega) h1 a1.toNat 1 (by omega) (by omega)
  · exact Ev.bind (levin_auto_bad l0 a1 h) (evNeg (by simp) (Ev.now _))
end Go.Proofs.Ytllglpcpjeggcaa.Pure
