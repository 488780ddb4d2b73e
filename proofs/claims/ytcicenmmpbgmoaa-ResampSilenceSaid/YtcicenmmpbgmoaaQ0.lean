/- Rounds, and reading lists: small lemmas for the laws. -/
import Derived.Test.YtcicenmmpbgmoaaWMore
import Derived.Test.YtcicenmmpbgmoaaWLast
namespace Go.Proofs.Ytcicenmmpbgmoaa.Q
open Go.RowKit Go.Proofs.YtcicenmmpbgmoaaW.PrintWords Go.Proofs.YtcicenmmpbgmoaaW.PrintLast Go.Proofs.YtcicenmmpbgmoaaW.PrintMore
set_option linter.unusedVariables false

theorem evPos {α : Type} {c : Prop} [Decidable c] {A B : Nat → Option α} {r : α} (h : c) (hA : Ev A r) : Ev (fun k => if c then A k else B k) r := by
  obtain ⟨K, hA⟩ := hA
  exact ⟨K, fun k hk => by simp only [if_pos h]; exact hA k hk⟩
theorem evNeg {α : Type} {c : Prop} [Decidable c] {A B : Nat → Option α} {r : α} (h : ¬ c) (hB : Ev B r) : Ev (fun k => if c then A k else B k) r := by
  obtain ⟨K, hB⟩ := hB
  exact ⟨K, fun k hk => by simp only [if_neg h]; exact hB k hk⟩
theorem evIte {α : Type} {c : Prop} [Decidable c] {A B : Nat → Option α} {r : α} (hA : c → Ev A r) (hB : ¬ c → Ev B r) : Ev (fun k => if c then A k else B k) r := by
  by_cases h : c
  · exact evPos h (hA h)
  · exact evNeg h (hB h)
theorem evConst {α : Type} {r : α} {o : Option α} (h : o = some r) : Ev (fun _ => o) r := ⟨0, fun _ _ => h⟩
theorem evEq {α : Type} {g : Nat → Option α} {r r' : α} (h : Ev g r) (e : r = r') : Ev g r' := e ▸ h
theorem w64 {x : Int} (h1 : -9223372036854775808 ≤ x) (h2 : x ≤ 9223372036854775807) : wrap64 x = x := by
  unfold wrap64; omega
theorem rd_mem {l : List Int} {i : Int} (h0 : 0 ≤ i) (h1 : i < l.length) : rd l i ∈ l := by
  unfold rd
  have h : i.toNat < l.length := by omega
  rw [List.getD_eq_getElem?_getD, List.getElem?_eq_getElem h]
  exact List.getElem_mem h
theorem rd_nat (l : List Int) (n : Nat) : rd l (n : Int) = l.getD n 0 := by
  unfold rd; simp
theorem rd_mid (A : List Int) (c : Int) (B : List Int) (i : Int) (h : i = A.length) : rd (A ++ c :: B) i = c := by
  subst h
  unfold rd
  rw [List.getD_eq_getElem?_getD, Int.toNat_natCast, List.getElem?_append_right (Nat.le_refl _)]
  simp
theorem set_mid (A : List Int) (c : Int) (B : List Int) (v i : Int) (h : i = A.length) : (A ++ c :: B).set i.toNat v = A ++ v :: B := by
  subst h
  rw [Int.toNat_natCast, List.set_append_right _ _ (Nat.le_refl _)]
  simp
theorem rd_at {l : List Int} {i : Nat} (h : i < l.length) : rd l (i : Int) = l[i] := by
  unfold rd
  rw [List.getD_eq_getElem?_getD, Int.toNat_natCast, List.getElem?_eq_getElem h]
  rfl
theorem rd_in {l : List Int} {i : Int} (h0 : 0 ≤ i) (h : i.toNat < l.length) : rd l i = l[i.toNat] := by
  unfold rd
  rw [List.getD_eq_getElem?_getD, List.getElem?_eq_getElem h]
  rfl
end Go.Proofs.Ytcicenmmpbgmoaa.Q
