/- Loudness and the meter, as the program has them: lemmas for the laws. -/
import Derived.Test.YtdchabinakboeaaQClamp
import Derived.Test.YtdchabinakboeaaQLog2
import Derived.Test.YtdchabinakboeaaPx1
import Derived.Test.YtdchabinakboeaaPx5
import Derived.Test.YtdchabinakboeaaPx7
import Derived.Test.YtdchabinakboeaaPx9
import Derived.Test.YtdchabinakboeaaPx10
import Derived.KernelRfl
namespace Go.Proofs.Ytdchabinakboeaa.Q
open Go.RowKit Go.Proofs.Ytdchabinakboeaa.P Go.Proofs.YtdchabinakboeaaW.PrintWords Go.Proofs.YtdchabinakboeaaW.PrintLast Go.Proofs.YtdchabinakboeaaW.PrintMore
open Go.Proofs.Ytdchabinakboeaa.M
set_option linter.unusedVariables false

theorem awake13 : Ev (fun k => madrigallaw13_awake.f k) true := Ev.of madrigallaw13_awake.mono (k := 40) (by kernel_rfl)
theorem fix_sat (a : Int) : Ev (fun k => fix_Sat16.f k a) (sat a) := by
  refine Ev.congr (fun k => by rw [fix_Sat16.f]) ?_
  exact Ev.bind (fix_clamp a (-32768) 32767) (Ev.now _)
/-- The sum of squares. -/
def sumsq : List Int → Int
  | [] => 0
  | x :: l => sat x * sat x + sumsq l
theorem sat_sq (x : Int) : 0 ≤ sat x * sat x ∧ sat x * sat x ≤ 1073741824 := by
  have h := sat_bounds x
  by_cases h0 : 0 ≤ sat x
  · have := sq_le h0 h.2; have := Int.mul_nonneg h0 h0; omega
  · have := sq_le (show 0 ≤ -sat x by omega) (show -sat x ≤ 32768 by omega)
    have h2 := Int.mul_nonneg (show 0 ≤ -sat x by omega) (show 0 ≤ -sat x by omega)
    rw [Int.neg_mul_neg] at this h2
    omega
theorem sumsq_bounds : ∀ l : List Int, 0 ≤ sumsq l ∧ sumsq l ≤ 1073741824 * l.length
  | [] => by simp [sumsq]
  | x :: l => by
    have h := sumsq_bounds l
    have s := sat_sq x
    simp only [sumsq, List.length_cons]
    omega
theorem drop_rd {l : List Int} {i : Int} (h0 : 0 ≤ i) (h1 : i < l.length) : l.drop i.toNat = rd l i :: l.drop (i + 1).toNat := by
  have hl : i.toNat < l.length := by omega
  rw [List.drop_eq_getElem_cons hl, show (i + 1).toNat = i.toNat + 1 by omega]
  unfold rd
  rw [List.getD_eq_getElem?_getD, List.getElem?_eq_getElem hl]
  rfl
/-- How loud a sound is. -/
def level (l : List Int) : Int := if (l.take 960).length = 0 then 0 else log2 (1 + sumsq (l.take 960) / ((l.take 960).length : Int))
theorem level_l0 (y : List Int) (hy : 0 < y.length) (hm : y.length ≤ 960) (d : Nat) : ∀ (s i : Int), 0 ≤ i → i + d = y.length → 0 ≤ s → s ≤ 1073741824 * i →
    Ev (fun k => vad_Level.l0 k y s y (y.length : Int) i) (log2 (1 + (s + sumsq (y.drop i.toNat)) / (y.length : Int))) := by
  induction d with
  | zero =>
    intro s i h0 hi hs hs2
    refine Ev.step (fun k => by rw [vad_Level.l0]) ?_
    refine evNeg (by omega) (evNeg (by omega) ?_)
    have e : y.drop i.toNat = [] := List.drop_eq_nil_of_le (by omega)
    have hq0 : 0 ≤ s / (y.length : Int) := Int.ediv_nonneg hs (by omega)
    have hq1 : s / (y.length : Int) ≤ s := Int.ediv_le_self _ hs
    rw [e, Int.tdiv_eq_ediv_of_nonneg hs, w64 (x := s / _) (by omega) (by omega), w64 (by omega) (by omega)]
    simp only [sumsq, Int.add_zero]
    exact Ev.bind (fix_log2 _ (by omega)) (Ev.now _)
  | succ d ih =>
    intro s i h0 hi hs hs2
    refine Ev.step (fun k => by rw [vad_Level.l0]) ?_
    refine evPos (by omega) (evPos h0 (evPos (by omega) ?_))
    refine Ev.bind (fix_sat _) ?_
    have hsq := sat_sq (rd y i)
    rw [w64 (x := sat (rd y i) * sat (rd y i)) (by omega) (by omega), w64 (x := s + _) (by omega) (by omega), w64 (x := i + 1) (by omega) (by omega)]
    refine evEq (ih _ (i + 1) (by omega) (by omega) (by omega) (by omega)) ?_
    rw [drop_rd h0 (by omega)]
    simp only [sumsq, Int.add_assoc]
theorem vad_level (l : List Int) : Ev (fun k => vad_Level.f k l) (level l) := by
  refine Ev.congr (fun k => by rw [vad_Level.f]) ?_
  have hm : 0 ≤ mn (l.length : Int) 960 ∧ mn (l.length : Int) 960 ≤ l.length ∧ l.take (mn (l.length : Int) 960).toNat = l.take 960 := by
    unfold mn
    split
    · exact ⟨by omega, by omega, rfl⟩
    · refine ⟨by omega, by omega, ?_⟩
      rw [List.take_of_length_le (by omega), List.take_of_length_le (by omega)]
  refine evPos hm.1 (evPos hm.2.1 ?_)
  rw [hm.2.2]
  refine Ev.bind (Ev.now _) ?_
  unfold level
  refine evIte (fun h => ?_) (fun h => ?_)
  · rw [if_pos (by omega)]; exact Ev.now _
  · rw [if_neg (by omega)]
    have hl : (l.take 960).length ≤ 960 := List.length_take_le _ _
    exact evEq (level_l0 (l.take 960) (by omega) hl (l.take 960).length 0 0 (by omega) (by omega) (by omega) (by omega)) (by simp)
theorem log2_le {a : Int} (h : a ≤ 9223372036854775807) : log2 a ≤ 16128 := by
  by_cases h1 : 1 ≤ a
  · rw [log2_pos h1]
    have r := (l2_range 8 (mant a) (bl a - 1)).2
    have g := bl_le h
    omega
  · unfold log2; rw [if_pos (by omega)]; omega
theorem level_bounds (l : List Int) : 0 ≤ level l ∧ level l ≤ 16128 := by
  unfold level
  split
  · omega
  · rename_i h
    have hl : (l.take 960).length ≤ 960 := List.length_take_le _ _
    have hs := sumsq_bounds (l.take 960)
    have hq1 : sumsq (l.take 960) / ((l.take 960).length : Int) ≤ sumsq (l.take 960) := Int.ediv_le_self _ hs.1
    exact ⟨log2_nonneg _, log2_le (by omega)⟩
/-- One step of a meter: floor and count, and the loudness. -/
def vfloor (f v : Int) : Int := if f = -1 then v else mn v (f + 8)
def vstep (f c v : Int) : Bool × Int × Int := if v > vfloor f v + 512 then (true, vfloor f v, 4) else if c > 0 then (true, vfloor f v, c - 1) else (false, vfloor f v, c)
theorem vfloor_bounds {f v : Int} (h0 : -1 ≤ f) (hv : 0 ≤ v) : 0 ≤ vfloor f v ∧ vfloor f v ≤ v := by
  unfold vfloor mn
  split
  · omega
  · split <;> omega
theorem vad_step (f c : Int) (l : List Int) (h0 : -1 ≤ f) (h1 : f ≤ 16128) (c0 : 0 ≤ c) (c1 : c ≤ 4) : Ev (fun k => vad_Meter_Step.f k f c l) (vstep f c (level l)) := by
  have hl := level_bounds l
  have hf := vfloor_bounds h0 hl.1
  have hj : ∀ g, 0 ≤ g → g ≤ 16128 → g = vfloor f (level l) → Ev (fun k => vad_Meter_Step.j0 k (level l) g c) (vstep f c (level l)) := by
    intro g g0 g1 hg
    refine Ev.step (fun k => by rw [vad_Meter_Step.j0]) ?_
    unfold vstep
    rw [w64 (x := g + 512) (by omega) (by omega), w64 (x := c - 1) (by omega) (by omega), ← hg]
    refine evIte (fun h => ?_) (fun h => ?_)
    · rw [if_pos h]; exact Ev.now _
    · rw [if_neg h]
      refine evIte (fun h => ?_) (fun h => ?_)
      · rw [if_pos h]; exact Ev.now _
      · rw [if_neg h]; exact Ev.now _
  refine Ev.congr (fun k => by rw [vad_Meter_Step.f]) ?_
  refine Ev.bind (vad_level l) ?_
  rw [w64 (x := f + 8) (by omega) (by omega)]
  refine evIte (fun h => ?_) (fun h => ?_)
  · exact hj _ hl.1 hl.2 (by unfold vfloor; rw [if_pos h])
  · refine hj _ ?_ ?_ (by unfold vfloor; rw [if_neg h])
    · unfold mn; split <;> omega
    · unfold mn; split <;> omega
theorem vstep_inv {f c v : Int} (h0 : -1 ≤ f) (hv0 : 0 ≤ v) (hv1 : v ≤ 16128) (c0 : 0 ≤ c) (c1 : c ≤ 4) :
    -1 ≤ (vstep f c v).2.1 ∧ (vstep f c v).2.1 ≤ 16128 ∧ 0 ≤ (vstep f c v).2.2 ∧ (vstep f c v).2.2 ≤ 4 := by
  have hf := vfloor_bounds h0 hv0
  unfold vstep
  split
  · exact ⟨by simp; omega, by simp; omega, by simp, by simp⟩
  · split
    · exact ⟨by simp; omega, by simp; omega, by simp; omega, by simp; omega⟩
    · exact ⟨by simp; omega, by simp; omega, by simp; omega, by simp; omega⟩
end Go.Proofs.Ytdchabinakboeaa.Q
