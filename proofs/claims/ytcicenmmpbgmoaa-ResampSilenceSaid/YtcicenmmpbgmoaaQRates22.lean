/- The rates that are known, their parts and filters: a finite check. -/
import Derived.Test.YtcicenmmpbgmoaaPx17
import Derived.Test.YtcicenmmpbgmoaaPx2
import Derived.Test.YtcicenmmpbgmoaaPx9
import Derived.Test.YtcicenmmpbgmoaaQ0
namespace Go.Proofs.Ytcicenmmpbgmoaa.Q
open Go.RowKit Go.Proofs.YtcicenmmpbgmoaaW.PrintWords Go.Proofs.YtcicenmmpbgmoaaW.PrintLast Go.Proofs.YtcicenmmpbgmoaaW.PrintMore Go.Proofs.Ytcicenmmpbgmoaa.P
set_option linter.unusedVariables false

def rates22 : List Int := [8000, 12000, 16000, 24000, 48000]
theorem rate22 (a : Int) : resamp_rate.f a = some (decide (a ∈ rates22)) := by
  unfold resamp_rate.f rates22
  by_cases h1 : a = 8000
  · simp [h1]
  by_cases h2 : a = 12000
  · simp [h2]
  by_cases h3 : a = 16000
  · simp [h3]
  by_cases h4 : a = 24000
  · simp [h4]
  by_cases h5 : a = 48000
  · simp [h5]
  simp [h1, h2, h3, h4, h5]
theorem known22 (a : Int) : madrigalref10_Known.f a = some (decide (a ∈ rates22)) := by
  unfold madrigalref10_Known.f rates22
  by_cases h1 : a = 8000
  · simp [h1]
  by_cases h2 : a = 12000
  · simp [h2]
  by_cases h3 : a = 16000
  · simp [h3]
  by_cases h4 : a = 24000
  · simp [h4]
  by_cases h5 : a = 48000
  · simp [h5]
  simp [h1, h2, h3, h4, h5]
theorem good22 (a b : Int) : resamp_Good.f a b = some (decide (a ∈ rates22) && decide (b ∈ rates22)) := by
  unfold resamp_Good.f
  rw [rate22, rate22]
  by_cases h : a ∈ rates22 <;> simp [h]
theorem new22 {a b : Int} (ha : a ∈ rates22) (hb : b ∈ rates22) : resamp_New1.f a b = some (a, b, List.replicate 16 0, 0) := by
  unfold resamp_New1.f
  rw [good22]
  simp [ha, hb]
def flt22 (a b : Int) (p : Nat) : List Int := (resamp_Filter.f 400 a b (p : Int)).getD []
def prt22 (a b : Int) : Int × Int := (resamp_parts.f 400 a b).getD (0, 0)
def l22 (a b : Int) : Nat := (prt22 a b).1.toNat
def m22 (a b : Int) : Nat := (prt22 a b).2.toNat
def fchk22 (a b : Int) (p : Nat) : Bool :=
  match resamp_Filter.f 400 a b (p : Int) with
  | none => false
  | some f => f.length == 16 && (f.all fun v => decide (-65536 ≤ v) && decide (v ≤ 65536)) && (List.foldl (· + ·) 0 f == 32768)
def chk22 (a b : Int) : Bool :=
  match resamp_parts.f 400 a b, madrigalref10_Parts.f 400 a b with
  | some (l, m), some (l2, m2) => l == l2 && m == m2 && decide (1 ≤ l) && decide (l ≤ 6) && decide (1 ≤ m) && decide (m ≤ 6) && (l * a == m * b) && (List.range l.toNat).all fun p => fchk22 a b p
  | _, _ => false
theorem chk22_0 : (rates22.all fun b => chk22 8000 b) = true := by decide +kernel
theorem chk22_1 : (rates22.all fun b => chk22 12000 b) = true := by decide +kernel
theorem chk22_2 : (rates22.all fun b => chk22 16000 b) = true := by decide +kernel
theorem chk22_3 : (rates22.all fun b => chk22 24000 b) = true := by decide +kernel
theorem chk22_4 : (rates22.all fun b => chk22 48000 b) = true := by decide +kernel
theorem chk22_in {a b : Int} (ha : a ∈ rates22) (hb : b ∈ rates22) : chk22 a b = true := by
  simp only [rates22, List.mem_cons, List.not_mem_nil, or_false] at ha
  rcases ha with rfl | rfl | rfl | rfl | rfl
  · exact List.all_eq_true.mp chk22_0 b hb
  · exact List.all_eq_true.mp chk22_1 b hb
  · exact List.all_eq_true.mp chk22_2 b hb
  · exact List.all_eq_true.mp chk22_3 b hb
  · exact List.all_eq_true.mp chk22_4 b hb
structure Rates22 (a b : Int) (l m : Nat) (flt : Nat → List Int) : Prop where
  rl : a ∈ rates22
  rr : b ∈ rates22
  parts : Ev (fun k => resamp_parts.f k a b) ((l : Int), (m : Int))
  refparts : Ev (fun k => madrigalref10_Parts.f k a b) ((l : Int), (m : Int))
  l1 : 1 ≤ l
  l6 : l ≤ 6
  m1 : 1 ≤ m
  m6 : m ≤ 6
  cross : (l : Int) * a = (m : Int) * b
  flts : ∀ p, p < l → Ev (fun k => resamp_Filter.f k a b (p : Int)) (flt p)
  len : ∀ p, p < l → (flt p).length = 16
  bound : ∀ p, p < l → ∀ i, -65536 ≤ (flt p).getD i 0 ∧ (flt p).getD i 0 ≤ 65536
  one : ∀ p, p < l → (flt p).foldl (· + ·) 0 = 32768
theorem rates22_all {a b : Int} (ha : a ∈ rates22) (hb : b ∈ rates22) : Rates22 a b (l22 a b) (m22 a b) (flt22 a b) := by
  have h := chk22_in ha hb
  unfold chk22 at h
  split at h
  · rename_i l m l2 m2 e1 e2
    simp only [Bool.and_eq_true, beq_iff_eq, decide_eq_true_eq, List.all_eq_true, List.mem_range] at h
    obtain ⟨⟨⟨⟨⟨⟨⟨hl, hm⟩, h1⟩, h2⟩, h3⟩, h4⟩, h5⟩, h6⟩ := h
    subst hl hm
    have el : (l22 a b : Int) = l := by unfold l22 prt22; rw [e1]; simp; omega
    have em : (m22 a b : Int) = m := by unfold m22 prt22; rw [e1]; simp; omega
    have hF : ∀ p, p < l22 a b → resamp_Filter.f 400 a b (p : Int) = some (flt22 a b p) ∧ (flt22 a b p).length = 16 ∧ (∀ v ∈ flt22 a b p, -65536 ≤ v ∧ v ≤ 65536) ∧ (flt22 a b p).foldl (· + ·) 0 = 32768 := by
      intro p hp
      have h := h6 p (by omega)
      unfold fchk22 at h
      unfold flt22
      cases hx : resamp_Filter.f 400 a b (p : Int) with
      | none => rw [hx] at h; simp at h
      | some f =>
        rw [hx] at h
        simp only [Bool.and_eq_true, beq_iff_eq, decide_eq_true_eq, List.all_eq_true] at h
        exact ⟨rfl, h.1.1, h.1.2, h.2⟩
    exact {
      rl := ha
      rr := hb
      parts := by rw [el, em]; exact Ev.of (resamp_parts.mono a b) e1
      refparts := by rw [el, em]; exact Ev.of (madrigalref10_Parts.mono a b) e2
      l1 := by omega
      l6 := by omega
      m1 := by omega
      m6 := by omega
      cross := by rw [el, em]; exact h5
      flts := fun p hp => Ev.of (resamp_Filter.mono a b p) (hF p hp).1
      len := fun p hp => (hF p hp).2.1
      bound := fun p hp i => by
        rw [List.getD_eq_getElem?_getD]
        by_cases hi : i < (flt22 a b p).length
        · rw [List.getElem?_eq_getElem hi]
          exact (hF p hp).2.2.1 _ (List.getElem_mem hi)
        · rw [List.getElem?_eq_none (by omega)]
          simp
      one := fun p hp => (hF p hp).2.2.2 }
  · simp at h
theorem rates22_ex {a b : Int} (ha : a ∈ rates22) (hb : b ∈ rates22) : ∃ l m flt, Rates22 a b l m flt := ⟨_, _, _, rates22_all ha hb⟩
end Go.Proofs.Ytcicenmmpbgmoaa.Q
