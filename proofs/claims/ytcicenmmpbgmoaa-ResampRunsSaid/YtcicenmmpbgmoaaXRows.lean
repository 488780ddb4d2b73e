/- A list of lists of whole numbers that comes in is read as what its cells hold: a lemma for the laws that take one. -/
import Derived.Test.YtcicenmmpbgmoaaWMore
import Derived.Deep.Matrix
namespace Go.Proofs.Ytcicenmmpbgmoaa.X
open Go.RowKit Go.Proofs.YtcicenmmpbgmoaaW.PrintWords
set_option linter.unusedVariables false

theorem C_of_rows {k : IntKind} {E : Nat} {w : World} {base : Nat} {a : Addr} {len cap : Nat} {A : Nat → Option Addr} {L C : Nat → Nat} {Z : Nat → List Int} (hl : len ≤ cap) (hm : cap ≤ maxLen)
    (h : ∀ r, r < cap → w.cell? (a.add r) = some (.slice (A r) (L r) (C r)) ∧ L r ≤ C r ∧ C r ≤ maxLen ∧ (Z r).length = C r ∧ (∀ n ∈ Z r, (Lit.int k n).wf = true) ∧ (A r = none → C r = 0) ∧
        ∀ a', A r = some a' → base ≤ a'.block ∧ ∀ c, c < C r → w.cell? (a'.add c) = some (.int k ((Z r).getD c 0))) :
    ∃ zs : List (List Int), Kd.C (Kd.slice E (Kd.int k)) w (some a) len zs ∧ zs.length ≤ maxLen ∧ ∀ z ∈ zs, z.length ≤ maxLen ∧ ∀ x ∈ z, (Lit.int k x).wf = true := by
  have hmax : maxLen ≤ 9223372036854775807 := by unfold maxLen; omega
  refine ⟨(List.range len).map fun r => (Z r).take (L r), ⟨by simp, by omega, fun _ => ⟨a, rfl, fun j p hj => ?_⟩⟩, by simp; omega, ?_⟩
  · obtain ⟨hjl, hp⟩ := List.getElem?_eq_some_iff.1 hj
    simp at hjl
    obtain ⟨hc, hL, hC, hZ, hwf, hnone, hin⟩ := h j (by omega)
    have hp' : p = (Z j).take (L j) := by rw [← hp]; simp
    subst hp'
    have hlen : ((Z j).take (L j)).length = L j := by simp; omega
    refine ⟨[.slice (A j) (L j) (C j)], rfl, ⟨A j, C j, by rw [hlen], by omega, ?_⟩, ?_⟩
    · rw [hlen]
      refine ⟨hlen, by omega, fun hpos => ?_⟩
      cases hA : A j with
      | none => have := hnone hA; omega
      | some a' =>
        obtain ⟨_, hcell⟩ := hin a' hA
        refine ⟨a', rfl, fun i q hi => ⟨[.int k q], rfl, rfl, fun i' u hu => ?_⟩⟩
        obtain ⟨hil, hq⟩ := List.getElem?_eq_some_iff.1 hi
        rw [hlen] at hil
        have hi0 : i' = 0 := by
          have := (List.getElem?_eq_some_iff.1 hu).1
          simp at this
          exact this
        subst hi0
        simp at hu
        subst hu
        have h2 := hcell i (by omega)
        rw [List.getElem_take] at hq
        rw [List.getD_eq_getElem?_getD, List.getElem?_eq_getElem (by omega)] at h2
        simp only [Option.getD_some] at h2
        rw [hq] at h2
        have e : i * (Kd.int k).sz + 0 = i := by show i * 1 + 0 = i; omega
        rw [e]
        exact h2
    · intro i u hu
      have hi0 : i = 0 := by
        have := (List.getElem?_eq_some_iff.1 hu).1
        simp at this
        exact this
      subst hi0
      simp at hu
      subst hu
      have e : j * (Kd.slice E (Kd.int k)).sz + 0 = j := by show j * 1 + 0 = j; omega
      rw [e]
      exact hc
  · intro z hz
    obtain ⟨j, hj, rfl⟩ := List.mem_map.1 hz
    rw [List.mem_range] at hj
    obtain ⟨_, hL, hC, hZ, hwf, _⟩ := h j (by omega)
    exact ⟨by simp; omega, fun x hx => hwf x (List.mem_of_mem_take hx)⟩
end Go.Proofs.Ytcicenmmpbgmoaa.X
