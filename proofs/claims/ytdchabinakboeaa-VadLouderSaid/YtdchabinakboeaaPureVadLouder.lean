/- A sound twice as loud is no less loud, by at most two steps of 256 and two; the floor is never above what was heard last, nor below nought: for every sound and every list of sounds, without conditions. -/
import Derived.Test.YtdchabinakboeaaPx19
import Derived.Test.YtdchabinakboeaaQVad
namespace Go.Proofs.Ytdchabinakboeaa.Pure
open Go.RowKit Go.Proofs.Ytdchabinakboeaa.P Go.Proofs.YtdchabinakboeaaW.PrintWords Go.Proofs.YtdchabinakboeaaW.PrintLast Go.Proofs.YtdchabinakboeaaW.PrintMore
open Go.Proofs.Ytdchabinakboeaa.M Go.Proofs.Ytdchabinakboeaa.Q
set_option linter.unusedVariables false

theorem louder_l1 (ls : List (List Int)) (hl : ls.length ≤ 30) (d : Nat) : ∀ (i f c : Int), 0 ≤ i → i + d = ls.length → -1 ≤ f → f ≤ 16128 → 0 ≤ c → c ≤ 4 →
    Ev (fun k => madrigallaw13_VadLouder.l1 k ls i f c) true := by
  induction d with
  | zero =>
    intro i f c h0 hi f0 f1 c0 c1
    refine Ev.step (fun k => by rw [madrigallaw13_VadLouder.l1]) ?_
    exact evNeg (by omega) (Ev.now _)
  | succ d ih =>
    intro i f c h0 hi f0 f1 c0 c1
    refine Ev.step (fun k => by rw [madrigallaw13_VadLouder.l1]) ?_
    refine evPos (by omega) (evPos h0 ?_)
    refine Ev.bind (vad_step f c _ f0 f1 c0 c1) ?_
    have hl := level_bounds (rd_L1 ls i)
    have hv := vstep_inv (c := c) f0 hl.1 hl.2 c0 c1
    have hf := vfloor_bounds f0 hl.1
    have e : (vstep f c (level (rd_L1 ls i))).2.1 = vfloor f (level (rd_L1 ls i)) := by
      unfold vstep
      split
      · rfl
      · split <;> rfl
    rw [w64 (x := i + 1) (by omega) (by omega)]
    unfold vad_Meter_Floor.f
    refine Ev.bind (Ev.now _) ?_
    refine Ev.bind (vad_level _) ?_
    refine evNeg (by dsimp only; omega) ?_
    refine Ev.bind (Ev.now _) ?_
    refine evNeg (by dsimp only; omega) ?_
    exact ih (i + 1) _ _ (by omega) (by omega) hv.1 hv.2.1 hv.2.2.1 hv.2.2.2
theorem sat_id {x : Int} (h0 : -32768 ≤ x) (h1 : x ≤ 32767) : sat x = x := clamp_id h0 h1
theorem sumsq_twice : ∀ l : List Int, (∀ x ∈ l, -16383 ≤ x ∧ x ≤ 16383) → sumsq (l.map fun x => 2 * x) = 4 * sumsq l ∧ sumsq l ≤ 268402689 * l.length
  | [], _ => by simp [sumsq]
  | x :: l, h => by
    have hx := h x (by simp)
    obtain ⟨e, b⟩ := sumsq_twice l (fun y hy => h y (by simp [hy]))
    have s1 : sat x = x := sat_id (by omega) (by omega)
    have s2 : sat (2 * x) = 2 * x := sat_id (by omega) (by omega)
    have e4 : 2 * x * (2 * x) = 4 * (x * x) := by rw [Int.mul_assoc, Int.mul_left_comm x 2 x]; omega
    have hb : x * x ≤ 268402689 := by
      by_cases h0 : 0 ≤ x
      · have := sq_le h0 hx.2; omega
      · have := sq_le (show 0 ≤ -x by omega) (show -x ≤ 16383 by omega)
        rw [Int.neg_mul_neg] at this
        omega
    simp only [List.map_cons, sumsq, s1, s2, List.length_cons, e]
    omega
theorem level_twice (l : List Int) (hl : l.length ≤ 960) (h : ∀ x ∈ l, -16383 ≤ x ∧ x ≤ 16383) : level l ≤ level (l.map fun x => 2 * x) ∧ level (l.map fun x => 2 * x) ≤ level l + 512 := by
  have t1 : l.take 960 = l := List.take_of_length_le hl
  have t2 : (l.map fun x => 2 * x).take 960 = l.map fun x => 2 * x := List.take_of_length_le (by simpa using hl)
  unfold level
  rw [t1, t2, List.length_map]
  split
  · omega
  · rename_i hne
    obtain ⟨e, b⟩ := sumsq_twice l h
    have s0 := (sumsq_bounds l).1
    have hn : (0 : Int) < l.length := by omega
    rw [e]
    have q1 : sumsq l / l.length ≤ 4 * sumsq l / l.length := Int.ediv_le_ediv hn (by omega)
    have q2 : 4 * sumsq l / l.length < 4 * (sumsq l / l.length) + 4 := by
      rw [Int.ediv_lt_iff_lt_mul hn]
      have := Int.lt_ediv_add_one_mul_self (sumsq l) hn
      have e5 : (4 * (sumsq l / l.length) + 4) * (l.length : Int) = 4 * ((sumsq l / l.length + 1) * l.length) := by
        rw [show 4 * (sumsq l / (l.length : Int)) + 4 = 4 * (sumsq l / (l.length : Int) + 1) by omega, Int.mul_assoc]
      omega
    have q3 : sumsq l / l.length ≤ 268402689 := by
      have h9 : sumsq l < (268402689 + 1) * (l.length : Int) := by
        rw [Int.add_mul]; omega
      have := (Int.ediv_lt_iff_lt_mul hn).2 h9
      omega
    have q0 : 0 ≤ sumsq l / (l.length : Int) := Int.ediv_nonneg s0 (by omega)
    refine ⟨log2_mono (by omega), ?_⟩
    have h4 : log2 (1 + 4 * sumsq l / l.length) ≤ log2 (4 * (1 + sumsq l / l.length)) := log2_mono (by omega)
    have hbl : bl (1 + sumsq l / (l.length : Int)) ≤ 29 := by
      have := bl_mono (show 1 + sumsq l / (l.length : Int) ≤ 268402690 by omega)
      have e9 : bl 268402690 = 28 := by decide +kernel
      omega
    rw [log2_four (by omega) (by omega)] at h4
    exact h4
theorem louder_l0 (x : List Int) (ls : List (List Int)) (hx : x.length ≤ 960) (hl : ls.length ≤ 30) (d : Nat) : ∀ (i : Int), 0 ≤ i → i + d = x.length → (∀ v ∈ x.take i.toNat, -16383 ≤ v ∧ v ≤ 16383) →
    Ev (fun k => madrigallaw13_VadLouder.l0 k x ls ((x.take i.toNat).map fun v => 2 * v) i) true := by
  induction d with
  | zero =>
    intro i h0 hi h
    refine Ev.step (fun k => by rw [madrigallaw13_VadLouder.l0]) ?_
    refine evNeg (by omega) ?_
    rw [List.take_of_length_le (by omega)] at h ⊢
    obtain ⟨t1, t2⟩ := level_twice x hx h
    have b1 := level_bounds x
    refine Ev.bind (vad_level _) (Ev.bind (vad_level _) ?_)
    refine evNeg (by omega) ?_
    rw [w64 (x := level x + 514) (by omega) (by omega)]
    refine Ev.step (fun k => by rw [madrigallaw13_VadLouder.j2]) ?_
    refine evNeg (by simp; omega) ?_
    unfold vad_New.f
    refine Ev.bind (Ev.now _) ?_
    exact louder_l1 ls hl ls.length 0 (-1) 0 (by omega) (by omega) (by omega) (by omega) (by omega) (by omega)
  | succ d ih =>
    intro i h0 hi h
    refine Ev.step (fun k => by rw [madrigallaw13_VadLouder.l0]) ?_
    refine evPos (by omega) (evPos h0 ?_)
    refine evIte (fun _ => Ev.now _) (fun g1 => ?_)
    refine evIte (fun _ => Ev.now _) (fun g2 => ?_)
    have hlen : ((x.take i.toNat).map fun v => 2 * v).length ≤ 960 := by simp; omega
    refine evPos (by omega) ?_
    rw [w64 (x := 2 * rd x i) (by omega) (by omega), w64 (x := i + 1) (by omega) (by omega)]
    have hlt : i.toNat < x.length := by omega
    have er : x.take (i + 1).toNat = x.take i.toNat ++ [rd x i] := by
      rw [show (i + 1).toNat = i.toNat + 1 by omega, List.take_succ_eq_append_getElem hlt]
      unfold rd
      rw [List.getD_eq_getElem?_getD, List.getElem?_eq_getElem hlt]
      rfl
    have ih2 := ih (i + 1) (by omega) (by omega) (by
      rw [er]
      intro v hv
      rcases List.mem_append.1 hv with hv | hv
      · exact h v hv
      · simp at hv; omega)
    rw [er, List.map_append] at ih2
    exact ih2
theorem louder_j0 (x : List Int) (ls : List (List Int)) (b : Bool) (h : b = false → x.length ≤ 960 ∧ ls.length ≤ 30) : Ev (fun k => madrigallaw13_VadLouder.j0 k x ls b) true := by
  refine Ev.step (fun k => by rw [madrigallaw13_VadLouder.j0]) ?_
  refine evIte (fun _ => Ev.now _) (fun hb => ?_)
  obtain ⟨h1, h2⟩ := h (by simpa using hb)
  exact louder_l0 x ls h1 h2 x.length 0 (by omega) (by omega) (by simp)
theorem VadLouder : madrigallaw13_VadLouder.Pure := by
  intro l0 l1 _ _ _ _ _
  refine Ev.rounds (Ev.congr (fun k => by rw [madrigallaw13_VadLouder.f]) (Ev.bind awake13 (evPos rfl ?_)))
  refine evIte (fun _ => louder_j0 _ _ _ (by simp)) (fun h1 => ?_)
  exact louder_j0 _ _ _ (fun h => by simp at h; omega)
end Go.Proofs.Ytdchabinakboeaa.Pure
