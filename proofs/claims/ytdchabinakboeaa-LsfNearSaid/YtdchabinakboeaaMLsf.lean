/- Frequencies kept apart, as lists of numbers: lemmas for the laws. -/
import Derived.Test.YtdchabinakboeaaM0
namespace Go.Proofs.Ytdchabinakboeaa.M
set_option linter.unusedVariables false

/-- The lesser, and the greater, of two numbers. -/
def lesser (a b : Int) : Int := if b < a then b else a
def greater (a b : Int) : Int := if a < b then b else a
theorem lo_le (a b : Int) : lesser a b ≤ a ∧ lesser a b ≤ b ∧ (lesser a b = a ∨ lesser a b = b) := by unfold lesser; split <;> omega
theorem hi_ge (a b : Int) : a ≤ greater a b ∧ b ≤ greater a b ∧ (greater a b = a ∨ greater a b = b) := by unfold greater; split <;> omega
/-- Numbers within the bounds of frequencies. -/
def clampL (l : List Int) : List Int := l.map fun v => clamp v 0 32768
/-- Kept apart, from the lowest on. -/
def lift : Int → List Int → List Int
  | _, [] => []
  | a, v :: l => greater v (a + 250) :: lift (greater v (a + 250)) l
/-- One step of the way down: the number ahead of some. -/
def dn (v : Int) (r : List Int) : List Int := lesser v (r.headD 32768 - 250) :: r
/-- Kept apart. -/
def steady (l : List Int) : List Int := if l.length > 64 then [] else (lift 0 (clampL l)).foldr dn []
theorem lift_length : ∀ (a : Int) (l : List Int), (lift a l).length = l.length
  | _, [] => rfl
  | _, _ :: l => by simp [lift, lift_length _ l]
theorem dn_length : ∀ (l r : List Int), (l.foldr dn r).length = l.length + r.length
  | [], r => by simp
  | v :: l, r => by simp [dn, dn_length l r]; omega
/-- They rise by 250 at least, from a on, lift to 32518. -/
def Rise : Int → List Int → Prop
  | a, [] => a ≤ 32518
  | a, v :: l => a + 250 ≤ v ∧ Rise v l
/-- They rise by 250 at least, from a on. -/
def Up : Int → List Int → Prop
  | _, [] => True
  | a, v :: l => a + 250 ≤ v ∧ Up v l
theorem Rise.le : ∀ {a : Int} {l : List Int}, Rise a l → a ≤ 32518
  | _, [], h => h
  | _, _ :: _, h => by have := Rise.le h.2; have := h.1; omega
theorem Rise.mem : ∀ {a : Int} {l : List Int}, Rise a l → ∀ x ∈ l, a + 250 ≤ x ∧ x ≤ 32518
  | _, [], _, x, hx => by simp at hx
  | a, v :: l, h, x, hx => by
    rcases List.mem_cons.1 hx with rfl | hx
    · exact ⟨h.1, Rise.le h.2⟩
    · have := Rise.mem h.2 x hx; have := h.1; omega
theorem Up.less : ∀ {a b : Int} {l : List Int}, a ≤ b → Up b l → Up a l
  | _, _, [], _, _ => trivial
  | _, _, _ :: _, hab, h => ⟨by have := h.1; omega, h.2⟩
theorem lift_up : ∀ (a : Int) (l : List Int), Up a (lift a l)
  | _, [] => trivial
  | a, v :: l => by
    exact ⟨(hi_ge v (a + 250)).2.1, lift_up _ l⟩
theorem rise_dn : ∀ (u : List Int) (a : Int), Up a u → a + 250 * (u.length + 1) ≤ 32768 → Rise a (u.foldr dn [])
  | [], a, _, h => by simp at h; show a ≤ 32518; omega
  | v :: l, a, hu, h => by
    have ih := rise_dn l (a + 250) (Up.less hu.1 hu.2) (by simp at h ⊢; omega)
    simp only [List.foldr_cons]
    have h1 := hu.1
    cases hr : l.foldr dn [] with
    | nil =>
      have hl : l.length = 0 := by
        have := dn_length l []
        rw [hr] at this
        simpa using this.symm
      simp [hl] at h
      have g := lo_le v (32768 - 250)
      exact ⟨show a + 250 ≤ lesser v (32768 - 250) by omega, show lesser v (32768 - 250) ≤ 32518 by omega⟩
    | cons w t =>
      rw [hr] at ih
      have h2 := ih.1
      have g := lo_le v (w - 250)
      exact ⟨show a + 250 ≤ lesser v (w - 250) by omega, show lesser v (w - 250) + 250 ≤ w by omega, ih.2⟩
theorem clampL_length (l : List Int) : (clampL l).length = l.length := by simp [clampL]
theorem steady_length {l : List Int} (h : l.length ≤ 64) : (steady l).length = l.length := by
  unfold steady
  rw [if_neg (by omega), dn_length, lift_length, clampL_length]
  simp
theorem steady_rise {l : List Int} (h : l.length ≤ 64) : Rise 0 (steady l) := by
  unfold steady
  rw [if_neg (by omega)]
  exact rise_dn _ 0 (lift_up _ _) (by rw [lift_length, clampL_length]; omega)
theorem clampL_id {l : List Int} (h : ∀ x ∈ l, 0 ≤ x ∧ x ≤ 32768) : clampL l = l := by
  unfold clampL
  have : l.map (fun v => clamp v 0 32768) = l.map id := List.map_congr_left fun x hx => clamp_id (h x hx).1 (h x hx).2
  rw [this, List.map_id]
theorem lift_id : ∀ {a : Int} {l : List Int}, Rise a l → lift a l = l
  | _, [], _ => rfl
  | a, v :: l, h => by
    have g := hi_ge v (a + 250)
    have e : greater v (a + 250) = v := by have := h.1; omega
    unfold lift
    rw [e, lift_id h.2]
theorem dn_id : ∀ {a : Int} {l : List Int}, Rise a l → l.foldr dn [] = l
  | _, [], _ => rfl
  | a, v :: l, h => by
    rw [List.foldr_cons, dn_id h.2]
    unfold dn
    cases l with
    | nil =>
      have h2 : v ≤ 32518 := h.2
      have g := lo_le v (32768 - 250)
      have e : lesser v (32768 - 250) = v := by omega
      show lesser v (32768 - 250) :: [] = [v]
      rw [e]
    | cons w t =>
      have h2 := h.2.1
      have g := lo_le v (w - 250)
      have e : lesser v (w - 250) = v := by omega
      show lesser v (w - 250) :: w :: t = _
      rw [e]
theorem steady_id {l : List Int} (h : l.length ≤ 64) (hr : Rise 0 l) : steady l = l := by
  unfold steady
  rw [if_neg (by omega), clampL_id (fun x hx => by have := hr.mem x hx; omega), lift_id hr, dn_id hr]
/-- A number of the first table. -/
def lsfAt (order i k : Int) : Int := 32768 * (k + 1) / (order + 1) + (if order = 16 then 14 else 24) * ((37 * i + 53 * k) % 64 - 32)
def lsfL (order i : Int) : List Int := (List.range order.toNat).map fun k => lsfAt order i (k : Nat)
theorem lsfL_length (order i : Int) : (lsfL order i).length = order.toNat := by simp [lsfL]
/-- What changes a number of the second table. -/
def unit (order : Int) : Int := if order = 10 then 400 else if order = 16 then 250 else 0
end Go.Proofs.Ytdchabinakboeaa.M
