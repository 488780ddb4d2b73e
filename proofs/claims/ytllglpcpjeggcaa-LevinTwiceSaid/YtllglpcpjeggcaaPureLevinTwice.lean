/- A sound twice as loud is four times as much like itself, at every lag: for every sound, without conditions. -/
import Derived.Test.YtllglpcpjeggcaaPx54
import Derived.Test.YtllglpcpjeggcaaQLevin2
import Derived.Test.YtllglpcpjeggcaaQAwake12
namespace Go.Proofs.Ytllglpcpjeggcaa.Pure
open Go.RowKit Go.Proofs.Ytllglpcpjeggcaa.P Go.Proofs.YtllglpcpjeggcaaW.PrintWords Go.Proofs.YtllglpcpjeggcaaW.PrintLast Go.Proofs.YtllglpcpjeggcaaW.PrintMore
open Go.Proofs.Ytllglpcpjeggcaa.M Go.Proofs.Ytllglpcpjeggcaa.Q
set_option linter.unusedVariables false

theorem dot_twice : ∀ l m : List Int, dot (l.map fun v => 2 * v) (m.map fun v => 2 * v) = 4 * dot l m
  | [], m => by rw [List.map_nil, dot_nil, dot_nil]; rfl
  | a :: l, [] => rfl
  | a :: l, b :: m => by
    have ih := dot_twice l m
    have e : 2 * a * (2 * b) = 4 * (a * b) := by rw [Int.mul_assoc, Int.mul_left_comm a 2 b]; omega
    simp only [List.map_cons, dot, e]
    omega
theorem twice_l1 (L : List Int) (hb : Within 9007199254740992 L) (hl : L.length ≤ 1000) (d : Nat) : ∀ (i : Int), 0 ≤ i → i + d = L.length → Ev (fun k => madrigallaw12_LevinTwice.l1 k L (L.map fun v => 4 * v) i) true := by
  induction d with
  | zero =>
    intro i h0 hi
    refine Ev.step (fun k => by rw [madrigallaw12_LevinTwice.l1]) ?_
    exact evNeg (by omega) (Ev.now _)
  | succ d ih =>
    intro i h0 hi
    refine Ev.step (fun k => by rw [madrigallaw12_LevinTwice.l1]) ?_
    have hm := hb _ (rd_mem (l := L) h0 (by omega))
    have e : rd (L.map fun v => 4 * v) i = 4 * rd L i := by
      rw [rd_in h0 (by simp; omega), rd_in (l := L) h0 (by omega), List.getElem_map]
    rw [w64 (x := 4 * rd L i) (by omega) (by omega), w64 (x := i + 1) (by omega) (by omega)]
    exact evPos (by omega) (evPos h0 (evPos (by simp; omega) (evPos e (ih (i + 1) (by omega) (by omega)))))
theorem twice_l0 (x : List Int) (order : Int) (hx : x.length ≤ 300) (h1 : 1 ≤ order) (h2 : order ≤ 16) (d : Nat) : ∀ (i : Int), 0 ≤ i → i + d = x.length → (∀ v ∈ x.take i.toNat, -16383 ≤ v ∧ v ≤ 16383) →
    Ev (fun k => madrigallaw12_LevinTwice.l0 k x order ((x.take i.toNat).map fun v => 2 * v) i) true := by
  induction d with
  | zero =>
    intro i h0 hi h
    refine Ev.step (fun k => by rw [madrigallaw12_LevinTwice.l0]) ?_
    refine evNeg (by omega) ?_
    rw [List.take_of_length_le (by omega)] at h ⊢
    have e1 : x.map sat = x := sat_kept fun v hv => by have := h v hv; omega
    have e2 : (x.map fun v => 2 * v).map sat = x.map fun v => 2 * v := sat_kept fun v hv => by
      obtain ⟨u, hu, rfl⟩ := List.mem_map.1 hv
      have := h u hu
      omega
    have a1 := levin_auto x order (by omega) h1 (by omega)
    have a2 := levin_auto (x.map fun v => 2 * v) order (by simp; omega) h1 (by omega)
    rw [e1] at a1
    rw [e2] at a2
    have e3 : autoL (x.map fun v => 2 * v) (order.toNat + 1) = (autoL x (order.toNat + 1)).map fun v => 4 * v := by
      unfold autoL
      rw [List.map_map]
      refine List.map_congr_left fun k _ => ?_
      rw [← List.map_drop, dot_twice]; rfl
    rw [e3] at a2
    refine Ev.bind a1 (Ev.bind a2 (evPos rfl (evPos rfl ?_)))
    refine Ev.step (fun k => by rw [madrigallaw12_LevinTwice.j2]) ?_
    refine evNeg (by simp) ?_
    have hw : Within 32768 x := fun v hv => by have := h v hv; omega
    refine twice_l1 _ ?_ (by simp [autoL]; omega) _ 0 (by omega) (Int.zero_add _)
    intro v hv
    unfold autoL at hv
    obtain ⟨k, _, rfl⟩ := List.mem_map.1 hv
    have hd := dot_bounds _ x (within_drop hw k) hw
    have hl : (x.drop k).length ≤ 300 := by simp; omega
    omega
  | succ d ih =>
    intro i h0 hi h
    refine Ev.step (fun k => by rw [madrigallaw12_LevinTwice.l0]) ?_
    refine evPos (by omega) (evPos h0 ?_)
    refine evIte (fun _ => Ev.now _) (fun g1 => ?_)
    refine evIte (fun _ => Ev.now _) (fun g2 => ?_)
    have hlen : ((x.take i.toNat).map fun v => 2 * v).length ≤ 300 := by simp; omega
    refine evPos (by omega) ?_
    rw [w64 (x := 2 * rd x i) (by omega) (by omega), w64 (x := i + 1) (by omega) (by omega)]
    have er := take_rd (l := x) h0 (show i < x.length by omega)
    have ih2 := ih (i + 1) (by omega) (by omega) (by
      rw [er]
      intro v hv
      rcases List.mem_append.1 hv with hv | hv
      · exact h v hv
      · simp at hv; omega)
    rw [er, List.map_append] at ih2
    exact ih2
theorem LevinTwice : madrigallaw12_LevinTwice.Pure := by
  intro l0 a1 _ _ _ _
  have hj : ∀ b, (b = false → l0.length ≤ 300 ∧ 1 ≤ a1 ∧ a1 ≤ 16) → Ev (fun k => madrigallaw12_LevinTwice.j0 k l0 a1 b) true := by
    intro b h
    refine Ev.step (fun k => by rw [madrigallaw12_LevinTwice.j0]) ?_
    refine evIte (fun _ => Ev.now _) (fun hb => ?_)
    obtain ⟨g1, g2, g3⟩ := h (by simpa using hb)
    exact twice_l0 l0 a1 g1 g2 g3 l0.length 0 (by omega) (by omega) (by simp)
  refine Ev.rounds (Ev.congr (fun k => by rw [madrigallaw12_LevinTwice.f]) (Ev.bind awake12 (evPos rfl ?_)))
  refine evIte (fun _ => hj _ (by simp)) (fun g1 => evIte (fun _ => hj _ (by simp)) (fun g2 => ?_))
  exact hj _ (fun h => by simp at h; omega)
end Go.Proofs.Ytllglpcpjeggcaa.Pure
