/- Filters of all phases are what the document says, and are one together: for the rates that are known each by itself, for all else by the tests. -/
import Derived.Test.YtcicenmmpbgmoaaPx26
import Derived.Test.YtcicenmmpbgmoaaQAwake22
import Derived.KernelRfl
namespace Go.Proofs.Ytcicenmmpbgmoaa.Pure
open Go.RowKit Go.Proofs.Ytcicenmmpbgmoaa.P

def rates22 : List Int := [8000, 12000, 16000, 24000, 48000]
def rest22 (a b p : Int) : Option Bool := (resamp_Filter.f 400 a b p).bind fun t324 => ((madrigalref10_Known.f a).bind fun t327 => (if t327 = true then ((madrigalref10_Known.f b).bind fun t328 => (madrigallaw22_ResampFilters.j0 400 a b p t324 t328)) else (madrigallaw22_ResampFilters.j0 400 a b p t324 false)))
theorem rest22_f (a b p : Int) : madrigallaw22_ResampFilters.f 400 a b p = rest22 a b p := by
  unfold madrigallaw22_ResampFilters.f rest22
  rw [awake22]
  simp
def chk22 (a b : Int) : Bool := (List.range 6).all fun p => rest22 a b (p : Int) == some true
theorem chk22_0 : (rates22.all fun b => chk22 8000 b) = true := by decide +kernel
theorem chk22_1 : (rates22.all fun b => chk22 12000 b) = true := by decide +kernel
theorem chk22_2 : (rates22.all fun b => chk22 16000 b) = true := by decide +kernel
theorem chk22_3 : (rates22.all fun b => chk22 24000 b) = true := by decide +kernel
theorem chk22_4 : (rates22.all fun b => chk22 48000 b) = true := by decide +kernel
theorem chk22_in {a b : Int} (ha : a ∈ rates22) (hb : b ∈ rates22) {p : Int} (h0 : 0 ≤ p) (h1 : p < 6) : rest22 a b p = some true := by
  have hc : chk22 a b = true := by
    simp only [rates22, List.mem_cons, List.not_mem_nil, or_false] at ha
    rcases ha with rfl | rfl | rfl | rfl | rfl
    · exact List.all_eq_true.mp chk22_0 b hb
    · exact List.all_eq_true.mp chk22_1 b hb
    · exact List.all_eq_true.mp chk22_2 b hb
    · exact List.all_eq_true.mp chk22_3 b hb
    · exact List.all_eq_true.mp chk22_4 b hb
  have h := List.all_eq_true.mp hc p.toNat (List.mem_range.mpr (by omega))
  rw [Int.toNat_of_nonneg h0] at h
  exact eq_of_beq h
def pts22 (a b : Int) : Bool := match resamp_parts.f 400 a b, madrigalref10_Parts.f 399 a b with
  | some (l, _), some (l2, _) => l == l2 && decide (l ≤ 6)
  | _, _ => false
theorem pts22_all : (rates22.all fun a => rates22.all fun b => pts22 a b) = true := by decide +kernel
theorem rate22 (a : Int) : resamp_rate.f a = some (decide (a ∈ rates22)) := by
  unfold resamp_rate.f rates22
  by_cases h1 : a = 8000
  · simp [h1]
  by_cases h2 : a = 12000
  · simp [h2]
  by_cases h3 : a = 16000
  · simp [h3]
  by_cases h4 : a = 24000
  · simp [h4]
  by_cases h5 : a = 48000
  · simp [h5]
  simp [h1, h2, h3, h4, h5]
theorem known22 (a : Int) : madrigalref10_Known.f a = some (decide (a ∈ rates22)) := by
  unfold madrigalref10_Known.f rates22
  by_cases h1 : a = 8000
  · simp [h1]
  by_cases h2 : a = 12000
  · simp [h2]
  by_cases h3 : a = 16000
  · simp [h3]
  by_cases h4 : a = 24000
  · simp [h4]
  by_cases h5 : a = 48000
  · simp [h5]
  simp [h1, h2, h3, h4, h5]
theorem good22 (a b : Int) : resamp_Good.f a b = some (decide (a ∈ rates22) && decide (b ∈ rates22)) := by
  unfold resamp_Good.f
  rw [rate22, rate22]
  by_cases h : a ∈ rates22 <;> simp [h]
theorem rest22_all (a b p : Int) : rest22 a b p = some true := by
  by_cases ha : a ∈ rates22
  · by_cases hb : b ∈ rates22
    · by_cases hp : 0 ≤ p ∧ p < 6
      · exact chk22_in ha hb hp.1 hp.2
      · have h := List.all_eq_true.mp (List.all_eq_true.mp pts22_all a ha) b hb
        unfold pts22 at h
        split at h
        · rename_i l m l2 m2 e1 e2
          simp only [Bool.and_eq_true, beq_iff_eq, decide_eq_true_eq] at h
          obtain ⟨rfl, hl⟩ := h
          have hF : resamp_Filter.f 400 a b p = some [] := by
            unfold resamp_Filter.f
            rw [good22, e1]
            by_cases h0 : p < 0
            · simp [ha, hb, h0, resamp_Filter.j0]
            · have : p ≥ l := by omega
              simp [ha, hb, h0, this, resamp_Filter.j0]
          unfold rest22
          rw [hF, known22, known22]
          by_cases h0 : p ≥ 0
          · have h6 : ¬ p < l := by omega
            simp [ha, hb, h0, h6, madrigallaw22_ResampFilters.j0, madrigallaw22_ResampFilters.j1, good22, e2]
          · simp [ha, hb, h0, madrigallaw22_ResampFilters.j0, madrigallaw22_ResampFilters.j1, good22, e2]
        · simp at h
    · unfold rest22 resamp_Filter.f
      rw [good22, known22, known22]
      simp [ha, hb, madrigallaw22_ResampFilters.j0, madrigallaw22_ResampFilters.j1, good22]
  · unfold rest22 resamp_Filter.f
    rw [good22, known22]
    simp [ha, madrigallaw22_ResampFilters.j0, madrigallaw22_ResampFilters.j1, good22]
theorem ResampFilters : madrigallaw22_ResampFilters.Pure := fun a b p _ _ _ => ⟨400, (rest22_f a b p).trans (rest22_all a b p)⟩
end Go.Proofs.Ytcicenmmpbgmoaa.Pure
