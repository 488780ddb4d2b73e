/- With a filter of noughts all is left; what is left of silence is silence; a louder sound has no less power: for every sound, without conditions. -/
import Derived.Test.YtllglpcpjeggcaaPx52
import Derived.Test.YtllglpcpjeggcaaQLevin2
import Derived.Test.YtllglpcpjeggcaaQSame12
import Derived.Test.YtllglpcpjeggcaaQAwake12
namespace Go.Proofs.Ytllglpcpjeggcaa.Pure
open Go.RowKit Go.Proofs.Ytllglpcpjeggcaa.P Go.Proofs.YtllglpcpjeggcaaW.PrintWords Go.Proofs.YtllglpcpjeggcaaW.PrintLast Go.Proofs.YtllglpcpjeggcaaW.PrintMore
open Go.Proofs.Ytllglpcpjeggcaa.M Go.Proofs.Ytllglpcpjeggcaa.Q
set_option linter.unusedVariables false

theorem mul12_zero (p : Int) : mul 0 p 12 = 0 ∧ mul p 0 12 = 0 := by
  have e : ∀ a b, mul a b 12 = (fac a * fac b + 2048) / 4096 := fun a b => by unfold mul; rw [if_neg (by omega), if_neg (by omega), if_neg (by omega)]; rfl
  have f0 : fac 0 = 0 := fac_id (by omega) (by omega)
  rw [e, e, f0, Int.zero_mul, Int.mul_zero]
  exact ⟨by decide, by decide⟩
theorem tsum_zeros : ∀ (n : Nat) (q : List Int), tsum (List.replicate n 0) q = 0
  | 0, q => tsum_nil q
  | n + 1, [] => rfl
  | n + 1, p :: q => by
    rw [List.replicate_succ]
    simp only [tsum, (mul12_zero p).1, tsum_zeros n q, Int.add_zero]
theorem held_zeros (n : Nat) : held12 (List.replicate n 0) = List.replicate n 0 := by
  unfold held12
  rw [List.map_replicate]
  rfl
theorem restL_zeros (n : Nat) : ∀ (x past : List Int), restL (List.replicate n 0) past x = x
  | [], _ => rfl
  | v :: x, past => by simp only [restL, tsum_zeros, restL_zeros n x, Int.sub_zero]
theorem tsum_past (m : Nat) : ∀ (a : List Int) , tsum a (List.replicate m 0) = 0
  | [] => tsum_nil _
  | v :: a => by
    cases m with
    | zero => rfl
    | succ m =>
      rw [List.replicate_succ]
      simp only [tsum, (mul12_zero v).2, tsum_past m a, Int.add_zero]
theorem restL_silence (a : List Int) : ∀ (n m : Nat), restL a (List.replicate m 0) (List.replicate n 0) = List.replicate n 0
  | 0, m => rfl
  | n + 1, m => by
    rw [List.replicate_succ]
    simp only [restL, tsum_past m a, Int.sub_zero]
    have h := restL_silence a n (m + 1)
    rw [List.replicate_succ] at h
    rw [h]
theorem powL_twice : ∀ l : List Int, (∀ x ∈ l, -16383 ≤ x ∧ x ≤ 16383) → powL (l.map fun v => 2 * v) = 4 * powL l
  | [], _ => rfl
  | v :: l, h => by
    have hv := h v (by simp)
    have ih := powL_twice l fun x hx => h x (by simp [hx])
    have e1 : cl20 v = v := clamp_id (by omega) (by omega)
    have e2 : cl20 (2 * v) = 2 * v := clamp_id (by omega) (by omega)
    have e : 2 * v * (2 * v) = 4 * (v * v) := by rw [Int.mul_assoc, Int.mul_left_comm v 2 v]; omega
    simp only [List.map_cons, powL, e1, e2, ih, e]
    omega
theorem nothing_l1 (x : List Int) (hx : x.length ≤ 400) (hb : ∀ v ∈ x, -16383 ≤ v ∧ v ≤ 16383) (d : Nat) : ∀ (i : Int), 0 ≤ i → i + d = x.length →
    Ev (fun k => madrigallaw12_LevinNothing.l1 k x x 0 (List.replicate x.length 0) 0 ((x.take i.toNat).map fun v => 2 * v) i) true := by
  induction d with
  | zero =>
    intro i h0 hi
    refine Ev.step (fun k => by rw [madrigallaw12_LevinNothing.l1]) ?_
    rw [List.take_of_length_le (by omega)]
    refine evNeg (by omega) (evPos rfl (evPos rfl (Ev.bind (same12 x x (by omega)) (evPos (by simp) (evPos (by omega) (evPos (by omega) ?_))))))
    rw [Int.toNat_natCast]
    refine Ev.bind (same12 (List.replicate x.length 0) (List.replicate x.length 0) (by simp; omega)) (evPos (by simp) ?_)
    refine Ev.bind (levin_power _) (Ev.bind (levin_power _) ?_)
    rw [List.take_of_length_le (by simp; omega), List.take_of_length_le (by omega), powL_twice x hb]
    have := powL_bounds x
    rw [w64 (x := 4 * powL x) (by omega) (by omega)]
    exact evConst (by simp)
  | succ d ih =>
    intro i h0 hi
    refine Ev.step (fun k => by rw [madrigallaw12_LevinNothing.l1]) ?_
    have hm := hb _ (rd_mem (l := x) h0 (by omega))
    have hlen : ((x.take i.toNat).map fun v => 2 * v).length ≤ 400 := by simp; omega
    refine evPos (by omega) (evPos h0 (evPos (by omega) ?_))
    rw [w64 (x := 2 * rd x i) (by omega) (by omega), w64 (x := i + 1) (by omega) (by omega)]
    have ih2 := ih (i + 1) (by omega) (by omega)
    rw [take_rd h0 (by omega), List.map_append] at ih2
    exact ih2
theorem nothing_l0 (x : List Int) (n : Int) (hx : x.length ≤ 400) (h1 : 0 ≤ n) (h2 : n ≤ 32) (d : Nat) : ∀ (i : Int), 0 ≤ i → i + d = x.length → (∀ v ∈ x.take i.toNat, -16383 ≤ v ∧ v ≤ 16383) →
    Ev (fun k => madrigallaw12_LevinNothing.l0 k x n i) true := by
  induction d with
  | zero =>
    intro i h0 hi h
    refine Ev.step (fun k => by rw [madrigallaw12_LevinNothing.l0]) ?_
    rw [List.take_of_length_le (by omega)] at h
    refine evNeg (by omega) (evPos h1 (evPos (by omega) ?_))
    have a1 := levin_rest x (List.replicate n.toNat 0) (by omega) (by simp; omega)
    rw [held_zeros, restL_zeros, sat_kept fun v hv => by have := h v hv; omega] at a1
    refine Ev.bind a1 (evPos (by omega) (evPos (by omega) ?_))
    rw [Int.toNat_natCast]
    have a2 := levin_rest (List.replicate x.length 0) [4000, -900] (by simp; omega) (by simp)
    have e2 : (List.replicate x.length (0 : Int)).map sat = List.replicate x.length 0 := by rw [List.map_replicate]; rfl
    have e3 := restL_silence (held12 [4000, -900]) x.length 0
    rw [e2] at a2
    rw [show List.replicate 0 (0 : Int) = [] from rfl] at e3
    rw [e3] at a2
    exact Ev.bind a2 (nothing_l1 x hx h x.length 0 (by omega) (by omega))
  | succ d ih =>
    intro i h0 hi h
    refine Ev.step (fun k => by rw [madrigallaw12_LevinNothing.l0]) ?_
    refine evPos (by omega) (evPos h0 ?_)
    refine evIte (fun _ => Ev.now _) (fun g1 => evIte (fun _ => Ev.now _) (fun g2 => ?_))
    rw [w64 (x := i + 1) (by omega) (by omega)]
    refine ih (i + 1) (by omega) (by omega) ?_
    rw [take_rd h0 (by omega)]
    intro v hv
    rcases List.mem_append.1 hv with hv | hv
    · exact h v hv
    · simp at hv; omega
theorem LevinNothing : madrigallaw12_LevinNothing.Pure := by
  intro l0 a1 _ _ _ _
  have hj : ∀ b, (b = false → l0.length ≤ 400 ∧ 0 ≤ a1 ∧ a1 ≤ 32) → Ev (fun k => madrigallaw12_LevinNothing.j0 k l0 a1 b) true := by
    intro b h
    refine Ev.step (fun k => by rw [madrigallaw12_LevinNothing.j0]) ?_
    refine evIte (fun _ => Ev.now _) (fun hb => ?_)
    obtain ⟨g1, g2, g3⟩ := h (by simpa using hb)
    exact nothing_l0 l0 a1 g1 g2 g3 l0.length 0 (by omega) (by omega) (by simp)
  refine Ev.rounds (Ev.congr (fun k => by rw [madrigallaw12_LevinNothing.f]) (Ev.bind awake12 (evPos rfl ?_)))
  refine evIte (fun _ => hj _ (by simp)) (fun g1 => evIte (fun _ => hj _ (by simp)) (fun g2 => ?_))
  exact hj _ (fun h => by simp at h; omega)
end Go.Proofs.Ytllglpcpjeggcaa.Pure
