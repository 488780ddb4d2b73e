/- Frequencies are told, kept apart, gone between, found, or refused, as the document says: for all numbers, lists and indexes, without conditions. -/
import Derived.Test.YtdchabinakboeaaPx42
import Derived.Test.YtdchabinakboeaaWMore
import Derived.Test.YtdchabinakboeaaWLast
import Derived.Test.YtdchabinakboeaaPx1
import Derived.Test.YtdchabinakboeaaPx22
import Derived.Test.YtdchabinakboeaaPx23
import Derived.Test.YtdchabinakboeaaPx24
import Derived.Test.YtdchabinakboeaaPx20
import Derived.Test.YtdchabinakboeaaPx21
import Derived.Test.YtdchabinakboeaaPx25
import Derived.Test.YtdchabinakboeaaPx34
import Derived.Test.YtdchabinakboeaaPx31
import Derived.KernelRfl
import Derived.Test.YtdchabinakboeaaPx26
import Derived.Test.YtdchabinakboeaaPx28
import Derived.Test.YtdchabinakboeaaPx29
import Derived.Test.YtdchabinakboeaaPx30
import Derived.Test.YtdchabinakboeaaPx37
import Derived.Test.YtdchabinakboeaaPx12
import Derived.Test.YtdchabinakboeaaPx35
import Derived.Test.YtdchabinakboeaaPx36
import Derived.Test.YtdchabinakboeaaPx33
import Derived.Test.YtdchabinakboeaaPx38
import Derived.Test.YtdchabinakboeaaPx39
import Derived.Test.YtdchabinakboeaaPx40
import Derived.Test.YtdchabinakboeaaPx41
namespace Go.Proofs.Ytdchabinakboeaa.Q
open Go.RowKit Go.Proofs.YtdchabinakboeaaW.PrintWords Go.Proofs.YtdchabinakboeaaW.PrintLast Go.Proofs.YtdchabinakboeaaW.PrintMore
set_option linter.unusedVariables false

theorem evPos {α : Type} {c : Prop} [Decidable c] {A B : Nat → Option α} {r : α} (h : c) (hA : Ev A r) : Ev (fun k => if c then A k else B k) r := by
  obtain ⟨K, hA⟩ := hA
  exact ⟨K, fun k hk => by simp only [if_pos h]; exact hA k hk⟩
theorem evNeg {α : Type} {c : Prop} [Decidable c] {A B : Nat → Option α} {r : α} (h : ¬ c) (hB : Ev B r) : Ev (fun k => if c then A k else B k) r := by
  obtain ⟨K, hB⟩ := hB
  exact ⟨K, fun k hk => by simp only [if_neg h]; exact hB k hk⟩
theorem evIte {α : Type} {c : Prop} [Decidable c] {A B : Nat → Option α} {r : α} (hA : c → Ev A r) (hB : ¬ c → Ev B r) : Ev (fun k => if c then A k else B k) r := by
  by_cases h : c
  · exact evPos h (hA h)
  · exact evNeg h (hB h)
theorem evConst {α : Type} {r : α} {o : Option α} (h : o = some r) : Ev (fun _ => o) r := ⟨0, fun _ _ => h⟩
theorem evEq {α : Type} {g : Nat → Option α} {r r' : α} (h : Ev g r) (e : r = r') : Ev g r' := e ▸ h
theorem w64 {x : Int} (h1 : -9223372036854775808 ≤ x) (h2 : x ≤ 9223372036854775807) : wrap64 x = x := by
  unfold wrap64; omega
theorem rd_mem {l : List Int} {i : Int} (h0 : 0 ≤ i) (h1 : i < l.length) : rd l i ∈ l := by
  unfold rd
  have h : i.toNat < l.length := by omega
  rw [List.getD_eq_getElem?_getD, List.getElem?_eq_getElem h]
  exact List.getElem_mem h
theorem rd_nat (l : List Int) (n : Nat) : rd l (n : Int) = l.getD n 0 := by
  unfold rd; simp
theorem rd_mid (A : List Int) (c : Int) (B : List Int) (i : Int) (h : i = A.length) : rd (A ++ c :: B) i = c := by
  subst h
  unfold rd
  rw [List.getD_eq_getElem?_getD, Int.toNat_natCast, List.getElem?_append_right (Nat.le_refl _)]
  simp
theorem set_mid (A : List Int) (c : Int) (B : List Int) (v i : Int) (h : i = A.length) : (A ++ c :: B).set i.toNat v = A ++ v :: B := by
  subst h
  rw [Int.toNat_natCast, List.set_append_right _ _ (Nat.le_refl _)]
  simp
theorem rd_at {l : List Int} {i : Nat} (h : i < l.length) : rd l (i : Int) = l[i] := by
  unfold rd
  rw [List.getD_eq_getElem?_getD, Int.toNat_natCast, List.getElem?_eq_getElem h]
  rfl
theorem rd_in {l : List Int} {i : Int} (h0 : 0 ≤ i) (h : i.toNat < l.length) : rd l i = l[i.toNat] := by
  unfold rd
  rw [List.getD_eq_getElem?_getD, List.getElem?_eq_getElem h]
  rfl
end Go.Proofs.Ytdchabinakboeaa.Q
namespace Go.Proofs.Ytdchabinakboeaa.M
set_option linter.unusedVariables false
/-- Numbers brought between two others. -/
def clamp (a lo hi : Int) : Int := if lo > hi ∨ a < lo then lo else if a > hi then hi else a
theorem clamp_bounds {a lo hi : Int} (h : lo ≤ hi) : lo ≤ clamp a lo hi ∧ clamp a lo hi ≤ hi := by
  unfold clamp; repeat' split
  all_goals omega
theorem clamp_id {a lo hi : Int} (h1 : lo ≤ a) (h2 : a ≤ hi) : clamp a lo hi = a := by
  unfold clamp; repeat' split
  all_goals omega
/-- A number brought into 16 bits. -/
def sat (a : Int) : Int := clamp a (-32768) 32767
theorem sat_bounds (a : Int) : -32768 ≤ sat a ∧ sat a ≤ 32767 := clamp_bounds (by omega)
/-- How many bits a number has. -/
def bl (a : Int) : Int := if a ≤ 0 then 0 else (Nat.log2 a.toNat : Int) + 1
theorem bl_pos {a : Int} (h : 1 ≤ a) : bl a = (Nat.log2 a.toNat : Int) + 1 := by unfold bl; rw [if_neg (by omega)]
theorem bl_lo {a : Int} (h : 1 ≤ a) : (2 : Int) ^ (bl a - 1).toNat ≤ a := by
  rw [bl_pos h]
  have h1 : 2 ^ Nat.log2 a.toNat ≤ a.toNat := Nat.log2_self_le (by omega)
  have e : ((Nat.log2 a.toNat : Int) + 1 - 1).toNat = Nat.log2 a.toNat := by omega
  rw [e]
  have h2 : ((2 ^ Nat.log2 a.toNat : Nat) : Int) ≤ (a.toNat : Int) := by exact_mod_cast h1
  rw [Int.toNat_of_nonneg (by omega)] at h2
  simpa using h2
theorem bl_hi {a : Int} (h : 1 ≤ a) : a < (2 : Int) ^ (bl a).toNat := by
  rw [bl_pos h]
  have h1 : a.toNat < 2 ^ (Nat.log2 a.toNat + 1) := Nat.lt_log2_self
  have e : ((Nat.log2 a.toNat : Int) + 1).toNat = Nat.log2 a.toNat + 1 := by omega
  rw [e]
  have h2 : (a.toNat : Int) < ((2 ^ (Nat.log2 a.toNat + 1) : Nat) : Int) := by exact_mod_cast h1
  rw [Int.toNat_of_nonneg (by omega)] at h2
  simpa using h2
theorem bl_ge {a : Int} (h : 1 ≤ a) : 1 ≤ bl a := by rw [bl_pos h]; omega
theorem bl_unique {a : Int} {n : Nat} (h1 : (2 : Int) ^ n ≤ a) (h2 : a < (2 : Int) ^ (n + 1)) : bl a = n + 1 := by
  have hp : (0 : Int) < (2 : Int) ^ n := Int.pow_pos (by omega)
  have h : 1 ≤ a := by omega
  rw [bl_pos h]
  have e1 : 2 ^ n ≤ a.toNat := by
    have : ((2 ^ n : Nat) : Int) ≤ (a.toNat : Int) := by rw [Int.toNat_of_nonneg (by omega)]; simpa using h1
    exact_mod_cast this
  have e2 : a.toNat < 2 ^ (n + 1) := by
    have : (a.toNat : Int) < ((2 ^ (n + 1) : Nat) : Int) := by rw [Int.toNat_of_nonneg (by omega)]; simpa using h2
    exact_mod_cast this
  have hn : a.toNat ≠ 0 := by omega
  have f1 : n ≤ Nat.log2 a.toNat := (Nat.le_log2 hn).2 e1
  have f2 : Nat.log2 a.toNat < n + 1 := (Nat.log2_lt hn).2 e2
  omega
end Go.Proofs.Ytdchabinakboeaa.M
namespace Go.Proofs.Ytdchabinakboeaa.Q
open Go.RowKit Go.Proofs.Ytdchabinakboeaa.P Go.Proofs.YtdchabinakboeaaW.PrintWords Go.Proofs.YtdchabinakboeaaW.PrintLast Go.Proofs.YtdchabinakboeaaW.PrintMore
open Go.Proofs.Ytdchabinakboeaa.M
set_option linter.unusedVariables false

theorem fix_clamp (a lo hi : Int) : Ev (fun k => fix_Clamp.f k a lo hi) (clamp a lo hi) := by
  have hj : ∀ b, Ev (fun k => fix_Clamp.j0 k a lo hi b) (if b = true then lo else if a > hi then hi else a) := by
    intro b
    refine Ev.step (fun k => by rw [fix_Clamp.j0]) ?_
    refine evConst ?_
    cases b <;> simp <;> split <;> rfl
  refine Ev.congr (fun k => by rw [fix_Clamp.f]) ?_
  refine evIte (fun h => ?_) (fun h => ?_)
  · exact evEq (hj true) (by unfold clamp; simp [h])
  · exact evEq (hj _) (by unfold clamp; simp [h])
end Go.Proofs.Ytdchabinakboeaa.Q
namespace Go.Proofs.Ytdchabinakboeaa.M
set_option linter.unusedVariables false

/-- The lesser, and the greater, of two numbers. -/
def lesser (a b : Int) : Int := if b < a then b else a
def greater (a b : Int) : Int := if a < b then b else a
theorem lo_le (a b : Int) : lesser a b ≤ a ∧ lesser a b ≤ b ∧ (lesser a b = a ∨ lesser a b = b) := by unfold lesser; split <;> omega
theorem hi_ge (a b : Int) : a ≤ greater a b ∧ b ≤ greater a b ∧ (greater a b = a ∨ greater a b = b) := by unfold greater; split <;> omega
/-- Numbers within the bounds of frequencies. -/
def clampL (l : List Int) : List Int := l.map fun v => clamp v 0 32768
/-- Kept apart, from the lowest on. -/
def lift : Int → List Int → List Int
  | _, [] => []
  | a, v :: l => greater v (a + 250) :: lift (greater v (a + 250)) l
/-- One step of the way down: the number ahead of some. -/
def dn (v : Int) (r : List Int) : List Int := lesser v (r.headD 32768 - 250) :: r
/-- Kept apart. -/
def steady (l : List Int) : List Int := if l.length > 64 then [] else (lift 0 (clampL l)).foldr dn []
theorem lift_length : ∀ (a : Int) (l : List Int), (lift a l).length = l.length
  | _, [] => rfl
  | _, _ :: l => by simp [lift, lift_length _ l]
theorem dn_length : ∀ (l r : List Int), (l.foldr dn r).length = l.length + r.length
  | [], r => by simp
  | v :: l, r => by simp [dn, dn_length l r]; omega
/-- They rise by 250 at least, from a on, lift to 32518. -/
def Rise : Int → List Int → Prop
  | a, [] => a ≤ 32518
  | a, v :: l => a + 250 ≤ v ∧ Rise v l
/-- They rise by 250 at least, from a on. -/
def Up : Int → List Int → Prop
  | _, [] => True
  | a, v :: l => a + 250 ≤ v ∧ Up v l
theorem Rise.le : ∀ {a : Int} {l : List Int}, Rise a l → a ≤ 32518
  | _, [], h => h
  | _, _ :: _, h => by have := Rise.le h.2; have := h.1; omega
theorem Rise.mem : ∀ {a : Int} {l : List Int}, Rise a l → ∀ x ∈ l, a + 250 ≤ x ∧ x ≤ 32518
  | _, [], _, x, hx => by simp at hx
  | a, v :: l, h, x, hx => by
    rcases List.mem_cons.1 hx with rfl | hx
    · exact ⟨h.1, Rise.le h.2⟩
    · have := Rise.mem h.2 x hx; have := h.1; omega
theorem Up.less : ∀ {a b : Int} {l : List Int}, a ≤ b → Up b l → Up a l
  | _, _, [], _, _ => trivial
  | _, _, _ :: _, hab, h => ⟨by have := h.1; omega, h.2⟩
theorem lift_up : ∀ (a : Int) (l : List Int), Up a (lift a l)
  | _, [] => trivial
  | a, v :: l => by
    exact ⟨(hi_ge v (a + 250)).2.1, lift_up _ l⟩
theorem rise_dn : ∀ (u : List Int) (a : Int), Up a u → a + 250 * (u.length + 1) ≤ 32768 → Rise a (u.foldr dn [])
  | [], a, _, h => by simp at h; show a ≤ 32518; omega
  | v :: l, a, hu, h => by
    have ih := rise_dn l (a + 250) (Up.less hu.1 hu.2) (by simp at h ⊢; omega)
    simp only [List.foldr_cons]
    have h1 := hu.1
    cases hr : l.foldr dn [] with
    | nil =>
      have hl : l.length = 0 := by
        have := dn_length l []
        rw [hr] at this
        simpa using this.symm
      simp [hl] at h
      have g := lo_le v (32768 - 250)
      exact ⟨show a + 250 ≤ lesser v (32768 - 250) by omega, show lesser v (32768 - 250) ≤ 32518 by omega⟩
    | cons w t =>
      rw [hr] at ih
      have h2 := ih.1
      have g := lo_le v (w - 250)
      exact ⟨show a + 250 ≤ lesser v (w - 250) by omega, show lesser v (w - 250) + 250 ≤ w by omega, ih.2⟩
theorem clampL_length (l : List Int) : (clampL l).length = l.length := by simp [clampL]
theorem steady_length {l : List Int} (h : l.length ≤ 64) : (steady l).length = l.length := by
  unfold steady
  rw [if_neg (by omega), dn_length, lift_length, clampL_length]
  simp
theorem steady_rise {l : List Int} (h : l.length ≤ 64) : Rise 0 (steady l) := by
  unfold steady
  rw [if_neg (by omega)]
  exact rise_dn _ 0 (lift_up _ _) (by rw [lift_length, clampL_length]; omega)
theorem clampL_id {l : List Int} (h : ∀ x ∈ l, 0 ≤ x ∧ x ≤ 32768) : clampL l = l := by
  unfold clampL
  have : l.map (fun v => clamp v 0 32768) = l.map id := List.map_congr_left fun x hx => clamp_id (h x hx).1 (h x hx).2
  rw [this, List.map_id]
theorem lift_id : ∀ {a : Int} {l : List Int}, Rise a l → lift a l = l
  | _, [], _ => rfl
  | a, v :: l, h => by
    have g := hi_ge v (a + 250)
    have e : greater v (a + 250) = v := by have := h.1; omega
    unfold lift
    rw [e, lift_id h.2]
theorem dn_id : ∀ {a : Int} {l : List Int}, Rise a l → l.foldr dn [] = l
  | _, [], _ => rfl
  | a, v :: l, h => by
    rw [List.foldr_cons, dn_id h.2]
    unfold dn
    cases l with
    | nil =>
      have h2 : v ≤ 32518 := h.2
      have g := lo_le v (32768 - 250)
      have e : lesser v (32768 - 250) = v := by omega
      show lesser v (32768 - 250) :: [] = [v]
      rw [e]
    | cons w t =>
      have h2 := h.2.1
      have g := lo_le v (w - 250)
      have e : lesser v (w - 250) = v := by omega
      show lesser v (w - 250) :: w :: t = _
      rw [e]
theorem steady_id {l : List Int} (h : l.length ≤ 64) (hr : Rise 0 l) : steady l = l := by
  unfold steady
  rw [if_neg (by omega), clampL_id (fun x hx => by have := hr.mem x hx; omega), lift_id hr, dn_id hr]
/-- A number of the first table. -/
def lsfAt (order i k : Int) : Int := 32768 * (k + 1) / (order + 1) + (if order = 16 then 14 else 24) * ((37 * i + 53 * k) % 64 - 32)
def lsfL (order i : Int) : List Int := (List.range order.toNat).map fun k => lsfAt order i (k : Nat)
theorem lsfL_length (order i : Int) : (lsfL order i).length = order.toNat := by simp [lsfL]
/-- What changes a number of the second table. -/
def unit (order : Int) : Int := if order = 10 then 400 else if order = 16 then 250 else 0
end Go.Proofs.Ytdchabinakboeaa.M
namespace Go.Proofs.Ytdchabinakboeaa.Q
open Go.RowKit Go.Proofs.Ytdchabinakboeaa.P Go.Proofs.YtdchabinakboeaaW.PrintWords Go.Proofs.YtdchabinakboeaaW.PrintLast Go.Proofs.YtdchabinakboeaaW.PrintMore
open Go.Proofs.Ytdchabinakboeaa.M
set_option linter.unusedVariables false

theorem clamped_l0 (n : Nat) : ∀ (S A Z S0 : List Int) (i : Int), S.length = n → Z.length = S.length → i = A.length → S0.length = A.length → A.length + S.length ≤ 1000000 →
    Ev (fun k => lsf_clamped.l0 k (A ++ Z) (S0 ++ S) ((S0 ++ S).length : Int) i) (A ++ clampL S) := by
  induction n with
  | zero =>
    intro S A Z S0 i hn hz hi hs hb
    have e1 : S = [] := List.eq_nil_of_length_eq_zero hn
    subst e1
    have e2 : Z = [] := List.eq_nil_of_length_eq_zero (by simpa using hz)
    subst e2
    refine Ev.step (fun k => by rw [lsf_clamped.l0]) ?_
    refine evNeg (by simp; omega) ?_
    exact Ev.now _
  | succ n ih =>
    intro S A Z S0 i hn hz hi hs hb
    cases S with
    | nil => simp at hn
    | cons s S =>
      cases Z with
      | nil => simp at hz
      | cons z Z =>
        simp at hn hz hb
        refine Ev.step (fun k => by rw [lsf_clamped.l0]) ?_
        refine evPos (by simp; omega) (evPos (by omega) (evPos (by simp; omega) ?_))
        rw [rd_mid S0 s S i (by omega)]
        refine Ev.bind (fix_clamp s 0 32768) ?_
        refine evPos (by simp; omega) ?_
        rw [set_mid A z Z _ i hi, w64 (x := i + 1) (by omega) (by omega)]
        have h := ih S (A ++ [clamp s 0 32768]) Z (S0 ++ [s]) (i + 1) (by omega) (by omega) (by simp; omega) (by simp; omega) (by simp; omega)
        simpa [clampL] using h
theorem lsf_clamped' (l : List Int) (h : l.length ≤ 1000000) : Ev (fun k => lsf_clamped.f k l) (clampL l) := by
  refine Ev.congr (fun k => by rw [lsf_clamped.f]) ?_
  refine evPos (by omega) (evPos (by omega) ?_)
  rw [Int.toNat_natCast]
  have := clamped_l0 l.length l [] (List.replicate l.length 0) [] 0 rfl (by simp) (by simp) rfl (by simpa using h)
  simpa using this
theorem mn_lo (a b : Int) : mn a b = lesser a b := rfl
theorem mx_hi (a b : Int) : mx a b = greater a b := rfl
theorem steady_l1 : ∀ (R Q : List Int) (a : Int), a = Q.headD 32768 → R.length ≤ 64 → (∀ x ∈ R, -1000 ≤ x ∧ x ≤ 1000000) → -100000 ≤ a - 250 * R.length → a ≤ 1000000 →
    Ev (fun k => lsf_Steady.l1 k (R.reverse ++ Q) a ((R.length : Int) - 1)) (R.reverse.foldr dn Q)
  | [], Q, a, ha, hR, hx, h0, h1 => by
    refine Ev.step (fun k => by rw [lsf_Steady.l1]) ?_
    refine evNeg (by simp) ?_
    simpa using Ev.now Q
  | v :: R, Q, a, ha, hR, hx, h0, h1 => by
    have hv := hx v (by simp)
    simp only [List.length_cons] at hR h0
    refine Ev.step (fun k => by rw [lsf_Steady.l1]) ?_
    have e : (v :: R).reverse ++ Q = R.reverse ++ v :: Q := by simp
    rw [e]
    have ei : (((v :: R).length : Nat) : Int) - 1 = (R.reverse.length : Nat) := by simp
    rw [ei]
    refine evPos (by omega) (evPos (by omega) (evPos (by simp; omega) ?_))
    rw [rd_mid _ _ _ _ rfl, set_mid _ _ _ _ _ rfl, w64 (x := a - 250) (by omega) (by omega), mn_lo]
    refine Ev.bind (Ev.now _) ?_
    rw [rd_mid _ _ _ _ rfl, w64 (x := _ - 1) (by simp; omega) (by simp; omega)]
    have g := lo_le v (a - 250)
    have ih := steady_l1 R (lesser v (a - 250) :: Q) (lesser v (a - 250)) rfl (by omega) (fun x h => hx x (by simp [h])) (by omega) (by omega)
    have eq : (v :: R).reverse.foldr dn Q = R.reverse.foldr dn (lesser v (a - 250) :: Q) := by
      rw [List.reverse_cons, List.foldr_append]
      show R.reverse.foldr dn (dn v Q) = _
      unfold dn
      rw [← ha]
    rw [eq, List.length_reverse]
    exact ih
theorem steady_l0 : ∀ (B A : List Int) (a i : Int), i = A.length → A.length + B.length ≤ 64 → (∀ x ∈ A, -1000 ≤ x ∧ x ≤ 1000000) → (∀ x ∈ B, -1000 ≤ x ∧ x ≤ 100000) → -1000 ≤ a → a + 250 * B.length ≤ 200000 →
    Ev (fun k => lsf_Steady.l0 k (A ++ B) a ((A.length + B.length : Nat) : Int) i) ((A ++ lift a B).foldr dn [])
  | [], A, a, i, hi, hl, hA, hB, h0, h1 => by
    refine Ev.step (fun k => by rw [lsf_Steady.l0]) ?_
    refine evNeg (by simp; omega) ?_
    simp only [lift, List.append_nil]
    simp only [List.length_nil, Nat.add_zero] at hl
    rw [w64 (x := (A.length : Int) - 1) (by omega) (by omega)]
    have h := steady_l1 A.reverse [] 32768 rfl (by simpa using hl) (fun x hx => hA x (by simpa using hx)) (by simp; omega) (by omega)
    simpa using h
  | v :: B, A, a, i, hi, hl, hA, hB, h0, h1 => by
    have hv := hB v (by simp)
    simp only [List.length_cons] at hl h1
    refine Ev.step (fun k => by rw [lsf_Steady.l0]) ?_
    refine evPos (by simp; omega) (evPos (by omega) (evPos (by simp; omega) ?_))
    rw [rd_mid _ _ _ _ hi, set_mid _ _ _ _ _ hi, w64 (x := a + 250) (by omega) (by omega), mx_hi]
    refine Ev.bind (Ev.now _) ?_
    rw [rd_mid _ _ _ _ hi, w64 (x := i + 1) (by omega) (by omega)]
    have g := hi_ge v (a + 250)
    have ih := steady_l0 B (A ++ [greater v (a + 250)]) (greater v (a + 250)) (i + 1) (by simp; omega) (by simp; omega) (by
      intro x hx
      rcases List.mem_append.1 hx with hx | hx
      · exact hA x hx
      · simp at hx; omega) (fun x h => hB x (by simp [h])) (by omega) (by omega)
    have e : (A ++ [greater v (a + 250)]).length + B.length = A.length + (v :: B).length := by simp; omega
    rw [e] at ih
    simpa [lift] using ih
theorem clampL_bounds {l : List Int} : ∀ x ∈ clampL l, 0 ≤ x ∧ x ≤ 32768 := by
  intro x hx
  obtain ⟨y, _, rfl⟩ := List.mem_map.1 hx
  exact clamp_bounds (by omega)
theorem lsf_steady (l : List Int) : Ev (fun k => lsf_Steady.f k l) (steady l) := by
  refine Ev.congr (fun k => by rw [lsf_Steady.f]) ?_
  unfold steady
  refine evIte (fun h => ?_) (fun h => ?_)
  · rw [if_pos (by omega)]; exact Ev.now _
  · rw [if_neg (by omega)]
    refine Ev.bind (lsf_clamped' l (by omega)) ?_
    have hb := clampL_bounds (l := l)
    have hl := clampL_length l
    have h0 := steady_l0 (clampL l) [] 0 0 rfl (by simp; omega) (by simp) (fun x hx => by have := hb x hx; omega) (by omega) (by omega)
    simpa using h0
theorem lsf_unit' (o : Int) : lsf_unit.f o = some (unit o) := by
  unfold lsf_unit.f unit
  split
  · rfl
  · split <;> rfl
/-- The numbers of a list lie from -4 to 4. -/
def Small (l : List Int) : Prop := ∀ x ∈ l, -4 ≤ x ∧ x ≤ 4
instance (l : List Int) : Decidable (Small l) := inferInstanceAs (Decidable (∀ x ∈ l, _))
def goodB (o one : Int) (two : List Int) : Bool := decide ((o = 10 ∨ o = 16) ∧ 0 ≤ one ∧ one < 16 ∧ (two.length : Int) = o ∧ Small two)
theorem good_l0 (n : Nat) : ∀ (S A : List Int) (i : Int), S.length = n → i = A.length → A.length + S.length ≤ 1000000 →
    Ev (fun k => lsf_Good.l0 k (A ++ S) ((A ++ S).length : Int) i) (decide (Small S)) := by
  induction n with
  | zero =>
    intro S A i hn hi hb
    have e1 : S = [] := List.eq_nil_of_length_eq_zero hn
    subst e1
    refine Ev.step (fun k => by rw [lsf_Good.l0]) ?_
    refine evNeg (by simp; omega) (evConst ?_)
    simp [Small]
  | succ n ih =>
    intro S A i hn hi hb
    cases S with
    | nil => simp at hn
    | cons s S =>
      simp at hn hb
      refine Ev.step (fun k => by rw [lsf_Good.l0]) ?_
      refine evPos (by simp; omega) (evPos (by omega) (evPos (by simp; omega) ?_))
      rw [rd_mid _ _ _ _ hi, w64 (x := i + 1) (by omega) (by omega)]
      refine evIte (fun h => evConst ?_) (fun h => ?_)
      · congr 1; symm; simp [Small]; omega
      refine evIte (fun h2 => evConst ?_) (fun h2 => ?_)
      · congr 1; symm; simp [Small]; omega
      have h3 := ih S (A ++ [s]) (i + 1) (by omega) (by simp; omega) (by simp; omega)
      have e : decide (Small (s :: S)) = decide (Small S) := by
        apply decide_eq_decide.2
        simp only [Small, List.forall_mem_cons]
        exact ⟨fun h => h.2, fun h => ⟨by omega, h⟩⟩
      rw [e]
      simpa using h3
theorem lsf_good (o one : Int) (two : List Int) : Ev (fun k => lsf_Good.f k o one two) (goodB o one two) := by
  refine Ev.congr (fun k => by rw [lsf_Good.f, lsf_unit']) ?_
  refine Ev.bind (Ev.now _) ?_
  have hf : ∀ x y, goodB o one two = false → Ev (fun k => lsf_Good.j0 k true x y) (goodB o one two) := by
    intro x y h
    rw [h]
    refine Ev.step (fun k => by rw [lsf_Good.j0]) ?_
    exact evPos rfl (Ev.now _)
  refine evIte (fun h => hf _ _ ?_) (fun h => ?_)
  · unfold goodB
    apply decide_eq_false
    unfold unit at h
    rintro ⟨h1 | h1, _⟩ <;> simp [h1] at h
  have ho : o = 10 ∨ o = 16 := by
    unfold unit at h
    by_cases h1 : o = 10
    · exact .inl h1
    · by_cases h2 : o = 16
      · exact .inr h2
      · simp [h1, h2] at h
  refine evIte (fun h1 => hf _ _ ?_) (fun h1 => ?_)
  · unfold goodB; apply decide_eq_false; rintro ⟨_, h2, _⟩; omega
  refine evIte (fun h2 => hf _ _ ?_) (fun h2 => ?_)
  · unfold goodB; apply decide_eq_false; rintro ⟨_, _, h3, _⟩; omega
  refine Ev.step (fun k => by rw [lsf_Good.j0]) ?_
  refine evIte (fun h3 => evConst ?_) (fun h3 => ?_)
  · congr 1; symm; unfold goodB; apply decide_eq_false; rintro ⟨_, _, _, h4, _⟩; simp at h3; omega
  have h4 : (two.length : Int) = o := by simpa using h3
  have h5 := good_l0 two.length two [] 0 rfl (by simp) (by simp; omega)
  have e : goodB o one two = decide (Small two) := by
    unfold goodB
    apply decide_eq_decide.2
    exact ⟨fun h => h.2.2.2.2, fun h => ⟨ho, by omega, by omega, h4, h⟩⟩
  rw [e]
  simpa using h5
end Go.Proofs.Ytdchabinakboeaa.Q
namespace Go.Proofs.Ytdchabinakboeaa.Q
open Go.RowKit Go.Proofs.Ytdchabinakboeaa.P Go.Proofs.YtdchabinakboeaaW.PrintWords Go.Proofs.YtdchabinakboeaaW.PrintLast Go.Proofs.YtdchabinakboeaaW.PrintMore
open Go.Proofs.Ytdchabinakboeaa.M
set_option linter.unusedVariables false

theorem awake6 : Ev (fun k => madrigallaw6_awake.f k) true := Ev.of madrigallaw6_awake.mono (k := 400) (by kernel_rfl)
theorem lsf10 : ∀ i : Fin 16, tabs_Lsf.f 40 10 ((i.val : Nat) : Int) = some (lsfL 10 ((i.val : Nat) : Int)) := by decide +kernel
theorem lsf16 : ∀ i : Fin 16, tabs_Lsf.f 40 16 ((i.val : Nat) : Int) = some (lsfL 16 ((i.val : Nat) : Int)) := by decide +kernel
theorem tabs_lsf {o i : Int} (ho : o = 10 ∨ o = 16) (h0 : 0 ≤ i) (h1 : i < 16) : Ev (fun k => tabs_Lsf.f k o i) (lsfL o i) := by
  have e : ((i.toNat : Nat) : Int) = i := Int.toNat_of_nonneg h0
  rcases ho with rfl | rfl
  · have h := lsf10 ⟨i.toNat, by omega⟩
    simp only [e] at h
    exact Ev.of (tabs_Lsf.mono _ _) h
  · have h := lsf16 ⟨i.toNat, by omega⟩
    simp only [e] at h
    exact Ev.of (tabs_Lsf.mono _ _) h
theorem lsf_all10 : ∀ i : Fin 16, ∀ x ∈ lsfL 10 ((i.val : Nat) : Int), 0 ≤ x ∧ x ≤ 32768 := by decide +kernel
theorem lsf_all16 : ∀ i : Fin 16, ∀ x ∈ lsfL 16 ((i.val : Nat) : Int), 0 ≤ x ∧ x ≤ 32768 := by decide +kernel
theorem lsf_bounds {o i : Int} (ho : o = 10 ∨ o = 16) (h0 : 0 ≤ i) (h1 : i < 16) : ∀ x ∈ lsfL o i, 0 ≤ x ∧ x ≤ 32768 := by
  have e : ((i.toNat : Nat) : Int) = i := Int.toNat_of_nonneg h0
  rcases ho with rfl | rfl
  · have h := lsf_all10 ⟨i.toNat, by omega⟩
    simp only [e] at h
    exact h
  · have h := lsf_all16 ⟨i.toNat, by omega⟩
    simp only [e] at h
    exact h
theorem unit_bounds (o : Int) : 0 ≤ unit o ∧ unit o ≤ 400 := by
  unfold unit
  split
  · omega
  · split <;> omega
/-- Frequencies changed by the second table. -/
def changed (o : Int) (l two : List Int) : List Int := List.zipWith (fun a t => a + unit o * t) l two
theorem decode_l0 (o one : Int) (n : Nat) : ∀ (B A T T0 : List Int) (i : Int), B.length = n → T.length = B.length → T0.length = A.length → i = A.length → A.length + B.length ≤ 1000 → (∀ x ∈ B, 0 ≤ x ∧ x ≤ 32768) → Small T →
    Ev (fun k => lsf_Decode.l0 k o (A ++ B) ((A ++ B).length : Int) i one (T0 ++ T)) (steady (A ++ changed o B T), 0) := by
  induction n with
  | zero =>
    intro B A T T0 i hn ht ht0 hi hb hB hT
    have e1 : B = [] := List.eq_nil_of_length_eq_zero hn
    subst e1
    refine Ev.step (fun k => by rw [lsf_Decode.l0]) ?_
    refine evNeg (by simp; omega) ?_
    simp only [changed, List.zipWith_nil_left, List.append_nil]
    exact Ev.bind (lsf_steady A) (Ev.now _)
  | succ n ih =>
    intro B A T T0 i hn ht ht0 hi hb hB hT
    cases B with
    | nil => simp at hn
    | cons b B =>
      cases T with
      | nil => simp at ht
      | cons t T =>
        simp at hn ht hb
        have hb2 := hB b (by simp)
        have ht2 := hT t (by simp)
        have hu := unit_bounds o
        refine Ev.step (fun k => by rw [lsf_Decode.l0, lsf_unit']) ?_
        refine evPos (by simp; omega) (evPos (by omega) (evPos (by simp; omega) ?_))
        refine Ev.bind (Ev.now _) ?_
        refine evPos (by simp; omega) ?_
        have hm : -1600 ≤ unit o * t ∧ unit o * t ≤ 1600 := by
          have h1 : unit o * t ≤ unit o * 4 := Int.mul_le_mul_of_nonneg_left ht2.2 hu.1
          have h2 : unit o * (-4) ≤ unit o * t := Int.mul_le_mul_of_nonneg_left ht2.1 hu.1
          omega
        rw [rd_mid _ _ _ _ hi, rd_mid T0 t T i (by omega), set_mid _ _ _ _ _ hi, w64 (x := i + 1) (by omega) (by omega), w64 (x := unit o * t) (by omega) (by omega), w64 (by omega) (by omega)]
        have h := ih B (A ++ [b + unit o * t]) T (T0 ++ [t]) (i + 1) (by omega) (by omega) (by simp; omega) (by simp; omega) (by simp; omega) (fun x hx => hB x (by simp [hx])) (fun x hx => hT x (by simp [hx]))
        simpa [changed] using h
theorem lsf_decode (o one : Int) (two : List Int) : Ev (fun k => lsf_Decode.f k o one two) (if goodB o one two = true then (steady (changed o (lsfL o one) two), 0) else ([], 1)) := by
  refine Ev.congr (fun k => by rw [lsf_Decode.f]) ?_
  refine Ev.bind (lsf_good o one two) ?_
  refine evIte (fun h => ?_) (fun h => ?_)
  · rw [if_pos h]
    have hg : (o = 10 ∨ o = 16) ∧ 0 ≤ one ∧ one < 16 ∧ (two.length : Int) = o ∧ Small two := by simpa [goodB] using h
    obtain ⟨ho, h0, h1, h2, h3⟩ := hg
    refine Ev.bind (tabs_lsf ho h0 h1) ?_
    have hl := lsfL_length o one
    have hd := decode_l0 o one (lsfL o one).length (lsfL o one) [] two [] 0 rfl (by omega) rfl rfl (by simp; omega) (lsf_bounds ho h0 h1) h3
    simpa using hd
  · rw [if_neg h]; exact Ev.now _
theorem same_l0 (n : Nat) : ∀ (S T A B : List Int) (i : Int), S.length = n → T.length = S.length → B.length = A.length → i = A.length → A.length + S.length ≤ 1000000000 →
    Ev (fun k => madrigallaw6_same.l0 k (A ++ S) (B ++ T) i) (decide (S = T)) := by
  induction n with
  | zero =>
    intro S T A B i hn ht hb hi hl
    have e1 : S = [] := List.eq_nil_of_length_eq_zero hn
    subst e1
    have e2 : T = [] := List.eq_nil_of_length_eq_zero (by simpa using ht)
    subst e2
    refine Ev.step (fun k => by rw [madrigallaw6_same.l0]) ?_
    exact evNeg (by simp; omega) (evConst (by simp))
  | succ n ih =>
    intro S T A B i hn ht hb hi hl
    cases S with
    | nil => simp at hn
    | cons s S =>
      cases T with
      | nil => simp at ht
      | cons t T =>
        simp at hn ht hl
        refine Ev.step (fun k => by rw [madrigallaw6_same.l0]) ?_
        refine evPos (by simp; omega) (evPos (by omega) (evPos (by simp; omega) ?_))
        rw [rd_mid _ _ _ _ hi, rd_mid B t T i (by omega), w64 (x := i + 1) (by omega) (by omega)]
        refine evIte (fun h => ?_) (fun h => evConst (by simp [h]))
        have h2 := ih S T (A ++ [s]) (B ++ [t]) (i + 1) (by omega) (by omega) (by simp; omega) (by simp; omega) (by simp; omega)
        have e : decide (s :: S = t :: T) = decide (S = T) := by apply decide_eq_decide.2; simp [h]
        rw [e]
        simpa using h2
theorem same6 (a b : List Int) (h : a.length ≤ 1000000000) : Ev (fun k => madrigallaw6_same.f k a b) (decide (a = b)) := by
  refine Ev.congr (fun k => by rw [madrigallaw6_same.f]) ?_
  refine evIte (fun h2 => ?_) (fun h2 => evConst ?_)
  · have := same_l0 a.length a b [] [] 0 rfl (by omega) rfl rfl (by simpa using h)
    simpa using this
  · congr 1; symm; apply decide_eq_false; rintro rfl; exact h2 rfl
end Go.Proofs.Ytdchabinakboeaa.Q
namespace Go.Proofs.Ytdchabinakboeaa.Q
open Go.RowKit Go.Proofs.Ytdchabinakboeaa.P Go.Proofs.YtdchabinakboeaaW.PrintWords Go.Proofs.YtdchabinakboeaaW.PrintLast Go.Proofs.YtdchabinakboeaaW.PrintMore
open Go.Proofs.Ytdchabinakboeaa.M
set_option linter.unusedVariables false

/-- What lies between two numbers. -/
def mid (w a b : Int) : Int := a + (b - a) * w / 4
theorem mid_w {w a b : Int} (hw0 : 0 ≤ w) (hw1 : w ≤ 4) (ha : 0 ≤ a ∧ a ≤ 32768) (hb : 0 ≤ b ∧ b ≤ 32768) : -140000 ≤ (b - a) * w ∧ (b - a) * w ≤ 140000 := by
  have h : w = 0 ∨ w = 1 ∨ w = 2 ∨ w = 3 ∨ w = 4 := by omega
  rcases h with rfl | rfl | rfl | rfl | rfl <;> omega
theorem between_l0 (w : Int) (hw0 : 0 ≤ w) (hw1 : w ≤ 4) (n : Nat) : ∀ (S T A B : List Int) (i : Int), S.length = n → T.length = S.length → B.length = A.length → i = A.length → A.length + S.length ≤ 1000 → (∀ x ∈ S, 0 ≤ x ∧ x ≤ 32768) → (∀ x ∈ T, 0 ≤ x ∧ x ≤ 32768) →
    Ev (fun k => lsf_Between.l0 k (A ++ S) (B ++ T) w ((A ++ S).length : Int) i) (A ++ List.zipWith (mid w) S T, 0) := by
  induction n with
  | zero =>
    intro S T A B i hn ht hb hi hl hS hT
    have e1 : S = [] := List.eq_nil_of_length_eq_zero hn
    subst e1
    refine Ev.step (fun k => by rw [lsf_Between.l0]) ?_
    refine evNeg (by simp; omega) ?_
    simpa using Ev.now (A, (0 : Int))
  | succ n ih =>
    intro S T A B i hn ht hb hi hl hS hT
    cases S with
    | nil => simp at hn
    | cons s S =>
      cases T with
      | nil => simp at ht
      | cons t T =>
        simp at hn ht hl
        have hs := hS s (by simp)
        have ht2 := hT t (by simp)
        have hm := mid_w hw0 hw1 hs ht2
        refine Ev.step (fun k => by rw [lsf_Between.l0]) ?_
        refine evPos (by simp; omega) (evPos (by omega) (evPos (by simp; omega) (evPos (by simp; omega) ?_)))
        rw [rd_mid _ _ _ _ hi, rd_mid B t T i (by omega), set_mid _ _ _ _ _ hi, w64 (x := i + 1) (by omega) (by omega), w64 (x := t - s) (by omega) (by omega), w64 (x := (t - s) * w) (by omega) (by omega), w64 (by omega) (by omega)]
        have h := ih S T (A ++ [mid w s t]) (B ++ [t]) (i + 1) (by omega) (by omega) (by simp; omega) (by simp; omega) (by simp; omega) (fun x hx => hS x (by simp [hx])) (fun x hx => hT x (by simp [hx]))
        simpa [mid] using h
theorem between_ok (a b : List Int) (w : Int) (hl : a.length = b.length) (h64 : a.length ≤ 64) (hw0 : 0 ≤ w) (hw1 : w ≤ 4) : Ev (fun k => lsf_Between.f k a b w) (List.zipWith (mid w) (clampL a) (clampL b), 0) := by
  refine Ev.congr (fun k => by rw [lsf_Between.f]) ?_
  refine evPos (by omega) (evNeg (by omega) (evNeg (by omega) ?_))
  refine Ev.step (fun k => by rw [lsf_Between.j0]) ?_
  refine evNeg (by simp; omega) ?_
  refine Ev.bind (lsf_clamped' a (by omega)) (Ev.bind (lsf_clamped' b (by omega)) ?_)
  have h := between_l0 w hw0 hw1 (clampL a).length (clampL a) (clampL b) [] [] 0 rfl (by simp [clampL_length]; omega) rfl rfl (by simp [clampL_length]; omega) clampL_bounds clampL_bounds
  simpa using h
theorem between_not (a b : List Int) (w : Int) (h : a.length ≠ b.length ∨ 64 < a.length ∨ w < 0 ∨ 4 < w) : Ev (fun k => lsf_Between.f k a b w) ([], 1) := by
  have hj : ∀ x y z, Ev (fun k => lsf_Between.j0 k x y z true) ([], 1) := by
    intro x y z
    refine Ev.step (fun k => by rw [lsf_Between.j0]) ?_
    exact evPos rfl (Ev.now _)
  refine Ev.congr (fun k => by rw [lsf_Between.f]) ?_
  refine evIte (fun h1 => ?_) (fun h1 => hj _ _ _)
  refine evIte (fun h2 => hj _ _ _) (fun h2 => ?_)
  refine evIte (fun h3 => hj _ _ _) (fun h3 => ?_)
  have e : decide (w > 4) = true := by apply decide_eq_true; omega
  rw [e]
  exact hj _ _ _
end Go.Proofs.Ytdchabinakboeaa.Q
namespace Go.Proofs.Ytdchabinakboeaa.Q
open Go.RowKit Go.Proofs.Ytdchabinakboeaa.P Go.Proofs.YtdchabinakboeaaW.PrintWords Go.Proofs.YtdchabinakboeaaW.PrintLast Go.Proofs.YtdchabinakboeaaW.PrintMore
open Go.Proofs.Ytdchabinakboeaa.M
set_option linter.unusedVariables false

theorem fix_fac (a : Int) : Ev (fun k => fix_factor.f k a) (clamp a (-2147483648) 2147483648) := by
  refine Ev.congr (fun k => by rw [fix_factor.f]) ?_
  exact Ev.bind (fix_clamp a _ _) (Ev.now _)
/-- A quotient rounded down, for small numbers and a divisor above nought. -/
theorem fix_div0 (a b : Int) (ha : -2147483648 ≤ a ∧ a ≤ 2147483648) (hb : 1 ≤ b ∧ b ≤ 2147483648) : Ev (fun k => fix_Div.f k a b 0) (a / b) := by
  refine Ev.congr (fun k => by rw [fix_Div.f]) ?_
  refine Ev.bind (evEq (fix_fac a) (clamp_id ha.1 ha.2)) (Ev.bind (evEq (fix_fac b) (clamp_id (by omega) hb.2)) ?_)
  refine evNeg (by omega) (evNeg (by omega) ?_)
  refine Ev.step (fun k => by rw [fix_Div.j0]) ?_
  have es : shl .i64 a 0 = a := by
    unfold shl
    rw [show (0 : Int).toNat = 0 from rfl, Nat.zero_min, Int.pow_zero, Int.mul_one, i64_w]
    exact w64 (by omega) (by omega)
  rw [es]
  refine evNeg (by simp) (evPos (by omega) (evNeg (by omega) ?_))
  have hmod := Int.emod_nonneg a (show b ≠ 0 by omega)
  have hlt := Int.emod_lt_of_pos a (show 0 < b by omega)
  have hd := Int.mul_ediv_add_emod a b
  have hbs : b.sign = 1 := Int.sign_eq_one_of_pos (by omega)
  have hq1 : -2147483648 ≤ a / b := by
    rw [Int.le_ediv_iff_mul_le (by omega)]
    have : (-2147483648 : Int) * b ≤ -2147483648 * 1 := Int.mul_le_mul_of_nonpos_left (by omega) (by omega)
    omega
  have hq2 : a / b ≤ 2147483648 := by
    have h1 : a / b ≤ 2147483648 / b := Int.ediv_le_ediv (by omega) ha.2
    have h2 : 2147483648 / b ≤ 2147483648 := Int.ediv_le_self _ (by omega)
    omega
  have ht : Int.tdiv a b = if 0 ≤ a ∨ a % b = 0 then a / b else a / b + 1 := by
    rw [Int.tdiv_eq_ediv, hbs]
    by_cases h : 0 ≤ a
    · rw [if_pos (.inl h), if_pos (.inl h)]; omega
    · by_cases h2 : a % b = 0
      · rw [if_pos (.inr (Int.dvd_of_emod_eq_zero h2)), if_pos (.inr h2)]; omega
      · rw [if_neg, if_neg]
        · rintro (h3 | h3)
          · exact h h3
          · exact h2 h3
        · rintro (h3 | h3)
          · exact h h3
          · exact h2 (Int.emod_eq_zero_of_dvd h3)
  have hm : Int.tmod a b = a - b * Int.tdiv a b := by have := Int.mul_tdiv_add_tmod a b; omega
  by_cases h : 0 ≤ a ∨ a % b = 0
  · rw [if_pos h] at ht
    rw [hm, ht, w64 (x := a / b) (by omega) (by omega)]
    refine evIte (fun _ => Ev.now _) (fun h2 => ?_)
    refine evIte (fun h3 => ?_) (fun _ => Ev.now _)
    exfalso
    have h0 : 0 ≤ a := by
      rcases h with h | h
      · exact h
      · omega
    have e1 : decide (a < 0) = false := decide_eq_false (by omega)
    have e2 : decide (b < 0) = false := decide_eq_false (by omega)
    rw [e1, e2] at h3
    simp at h3
  · rw [if_neg h] at ht
    rw [hm, ht, w64 (x := a / b + 1) (by omega) (by omega), w64 (x := a / b + 1 - 1) (by omega) (by omega)]
    have hmul : b * (a / b + 1) = b * (a / b) + b := by rw [Int.mul_add]; omega
    refine evNeg (by omega) ?_
    have e1 : decide (a < 0) = true := decide_eq_true (by omega)
    have e2 : decide (b < 0) = false := decide_eq_false (by omega)
    rw [e1, e2]
    exact evPos rfl (evConst (by congr 1; omega))
/-- How far a number is changed by the second table. -/
def twoAt (f w l : Int) : Int := clamp ((w - l + f / 2) / f) (-4) 4
def twos (f : Int) (w l : List Int) : List Int := List.zipWith (twoAt f) w l
theorem twos_small (f : Int) (w l : List Int) : Small (twos f w l) := by
  intro x hx
  unfold twos at hx
  rw [List.mem_iff_getElem] at hx
  obtain ⟨i, hi, rfl⟩ := hx
  rw [List.getElem_zipWith]
  exact clamp_bounds (by omega)
theorem search_l2 (f : Int) (hf : f = 400 ∨ f = 250) (one : Int) (n : Nat) : ∀ (S T A B R : List Int) (i : Int), T.length = n → S.length = T.length → A.length = B.length → i = B.length → B.length + T.length ≤ 1000 → R.length = B.length → (∀ x ∈ S, 0 ≤ x ∧ x ≤ 32768) → (∀ x ∈ T, 0 ≤ x ∧ x ≤ 32768) →
    Ev (fun k => lsf_Search.l2 k (A ++ S) f (B ++ T) ((B ++ T).length : Int) i one R) (one, R ++ twos f S T, 0) := by
  induction n with
  | zero =>
    intro S T A B R i hn ht hb hi hl hR hS hT
    have e1 : T = [] := List.eq_nil_of_length_eq_zero hn
    subst e1
    refine Ev.step (fun k => by rw [lsf_Search.l2]) ?_
    refine evNeg (by simp; omega) ?_
    simpa [twos] using Ev.now (one, R, (0 : Int))
  | succ n ih =>
    intro S T A B R i hn ht hb hi hl hR hS hT
    cases T with
    | nil => simp at hn
    | cons t T =>
      cases S with
      | nil => simp at ht
      | cons s S =>
        simp at hn ht hl
        have hs := hS s (by simp)
        have ht2 := hT t (by simp)
        refine Ev.step (fun k => by rw [lsf_Search.l2]) ?_
        refine evPos (by simp; omega) (evPos (by omega) (evPos (by simp; omega) (evPos (by simp; omega) ?_)))
        have hf2 : Int.tdiv f 2 = f / 2 := Int.tdiv_eq_ediv_of_nonneg (by omega)
        rw [rd_mid B t T i hi, rd_mid A s S i (by omega), hf2, w64 (x := i + 1) (by omega) (by omega), w64 (x := s - t) (by omega) (by omega), w64 (x := f / 2) (by omega) (by omega), w64 (x := s - t + f / 2) (by omega) (by omega)]
        refine Ev.bind (fix_div0 _ f (by omega) (by omega)) (Ev.bind (fix_clamp _ _ _) ?_)
        refine evPos (by omega) ?_
        have h := ih S T (A ++ [s]) (B ++ [t]) (R ++ [twoAt f s t]) (i + 1) (by omega) (by omega) (by simp; omega) (by simp; omega) (by simp; omega) (by simp; omega) (fun x hx => hS x (by simp [hx])) (fun x hx => hT x (by simp [hx]))
        simpa [twos, twoAt] using h
/-- The squares of the differences. -/
def far : List Int → List Int → Int
  | l :: L, w :: W => (l - w) * (l - w) + far L W
  | _, _ => 0
theorem far_bounds : ∀ (L W : List Int), (∀ x ∈ L, 0 ≤ x ∧ x ≤ 32768) → (∀ x ∈ W, 0 ≤ x ∧ x ≤ 32768) → 0 ≤ far L W ∧ far L W ≤ 1073741824 * L.length
  | l :: L, w :: W, hL, hW => by
    have h := far_bounds L W (fun x hx => hL x (by simp [hx])) (fun x hx => hW x (by simp [hx]))
    have h1 := hL l (by simp)
    have h2 := hW w (by simp)
    have hs : 0 ≤ (l - w) * (l - w) ∧ (l - w) * (l - w) ≤ 1073741824 := by
      by_cases h0 : 0 ≤ l - w
      · have := Int.mul_le_mul (show l - w ≤ 32768 by omega) (show l - w ≤ 32768 by omega) h0 (by omega)
        have := Int.mul_nonneg h0 h0
        omega
      · have := Int.mul_le_mul (show -(l - w) ≤ 32768 by omega) (show -(l - w) ≤ 32768 by omega) (show 0 ≤ -(l - w) by omega) (by omega)
        have h3 := Int.mul_nonneg (show 0 ≤ -(l - w) by omega) (show 0 ≤ -(l - w) by omega)
        rw [Int.neg_mul_neg] at this h3
        omega
    simp only [far, List.length_cons]
    omega
  | [], _, _, _ => by simp [far]
  | _ :: _, [], _, _ => by simp [far]; omega
/-- One book more is looked at: the best one so far, and how far it is. -/
def look (o : Int) (W : List Int) (i : Int) (best : Int × Int) : Int × Int := if best.2 < 0 ∨ far (lsfL o i) W < best.2 then (i, far (lsfL o i) W) else best
def looks (o : Int) (W : List Int) : Nat → Int → Int × Int → Int × Int
  | 0, _, b => b
  | n + 1, i, b => looks o W n (i + 1) (look o W i b)
theorem looks_in (o : Int) (W : List Int) : ∀ (n : Nat) (i : Int) (b : Int × Int), 0 ≤ i → i + n ≤ 16 → 0 ≤ b.1 → b.1 < 16 → 0 ≤ (looks o W n i b).1 ∧ (looks o W n i b).1 < 16
  | 0, _, _, _, _, h0, h1 => ⟨h0, h1⟩
  | n + 1, i, b, hi, hn, h0, h1 => by
    unfold looks
    refine looks_in o W n (i + 1) _ (by omega) (by omega) ?_ ?_
    · unfold look; split <;> (try dsimp only) <;> omega
    · unfold look; split <;> (try dsimp only) <;> omega
/-- The index that is found. -/
def found (o : Int) (W : List Int) : Int := (looks o W 16 0 (0, -1)).1
theorem found_in (o : Int) (W : List Int) : 0 ≤ found o W ∧ found o W < 16 := looks_in o W 16 0 (0, -1) (by omega) (by omega) (by simp) (by simp)
theorem search_l1 (o f least i one : Int) (W : List Int) (hW : ∀ x ∈ W, 0 ≤ x ∧ x ≤ 32768) (hWl : W.length ≤ 16) {r : Int × List Int × Int} (hi : 0 ≤ i ∧ i < 16) (n : Nat) :
    ∀ (T S A B : List Int) (s j : Int), T.length = n → S.length = T.length → A.length = B.length → j = B.length → A ++ S = W → (∀ x ∈ T, 0 ≤ x ∧ x ≤ 32768) → 0 ≤ s → s + 1073741824 * T.length ≤ 1073741824 * 20 →
    (least < 0 ∨ s + far T S < least → Ev (fun k => lsf_Search.l0 k o W f (s + far T S) (i + 1) i) r) → (¬ (least < 0 ∨ s + far T S < least) → Ev (fun k => lsf_Search.l0 k o W f least (i + 1) one) r) →
    Ev (fun k => lsf_Search.l1 k o W f least i s i (B ++ T) ((B ++ T).length : Int) j one) r := by
  induction n with
  | zero =>
    intro T S A B s j hn hs ha hj hw hT h0 hb h1 h2
    have e1 : T = [] := List.eq_nil_of_length_eq_zero hn
    subst e1
    simp only [far, Int.add_zero] at h1 h2
    refine Ev.step (fun k => by rw [lsf_Search.l1]) ?_
    rw [w64 (x := i + 1) (by omega) (by omega)]
    refine evNeg (by simp; omega) ?_
    refine evIte (fun h => h1 (.inl h)) (fun h => ?_)
    refine evIte (fun g => h1 (.inr g)) (fun g => h2 (by omega))
  | succ n ih =>
    intro T S A B s j hn hs ha hj hw hT h0 hb h1 h2
    cases T with
    | nil => simp at hn
    | cons t T =>
      cases S with
      | nil => simp at hs
      | cons w S =>
        simp at hn hs
        have ht := hT t (by simp)
        have hw2 := hW w (by rw [← hw]; simp)
        have hlen : A.length + S.length + 1 = W.length := by rw [← hw]; simp; omega
        have f1 := far_bounds [t] [w] (by simpa using ht) (by simpa using hw2)
        simp [far] at f1
        simp only [List.length_cons] at hb
        refine Ev.step (fun k => by rw [lsf_Search.l1]) ?_
        refine evPos (by simp; omega) (evPos (by omega) (evPos (by simp; omega) (evPos (by omega) ?_)))
        have er : rd W j = w := by rw [← hw]; exact rd_mid A w S j (by omega)
        rw [rd_mid B t T j hj, er, w64 (x := j + 1) (by omega) (by omega), w64 (x := t - w) (by omega) (by omega), w64 (x := (t - w) * (t - w)) (by omega) (by omega), w64 (x := s + _) (by omega) (by omega)]
        have h := ih T S (A ++ [w]) (B ++ [t]) (s + (t - w) * (t - w)) (j + 1) (by omega) (by omega) (by simp; omega) (by simp; omega) (by rw [← hw]; simp) (fun x hx => hT x (by simp [hx])) (by omega) (by omega)
        simp only [far, ← Int.add_assoc] at h1 h2
        have h3 := h h1 h2
        simpa using h3
theorem search_l0 (o : Int) (ho : o = 10 ∨ o = 16) (W : List Int) (hW : ∀ x ∈ W, 0 ≤ x ∧ x ≤ 32768) (hWl : (W.length : Int) = o) (n : Nat) : ∀ (i least one : Int), 0 ≤ i → i + n = 16 → 0 ≤ one → one < 16 →
    Ev (fun k => lsf_Search.l0 k o W (unit o) least i one) ((looks o W n i (one, least)).1, twos (unit o) W (lsfL o (looks o W n i (one, least)).1), 0) := by
  have hu : unit o = 400 ∨ unit o = 250 := by rcases ho with rfl | rfl <;> simp [unit]
  induction n with
  | zero =>
    intro i least one h0 hi h1 h2
    refine Ev.step (fun k => by rw [lsf_Search.l0]) ?_
    refine evNeg (by omega) (Ev.bind (tabs_lsf ho h1 h2) ?_)
    have hl := lsfL_length o one
    have h := search_l2 (unit o) hu one (lsfL o one).length W (lsfL o one) [] [] [] 0 rfl (by omega) rfl rfl (by simp; omega) rfl hW (lsf_bounds ho h1 h2)
    simpa [looks] using h
  | succ n ih =>
    intro i least one h0 hi h1 h2
    refine Ev.step (fun k => by rw [lsf_Search.l0]) ?_
    refine evPos (by omega) (Ev.bind (tabs_lsf ho h0 (by omega)) ?_)
    have hl := lsfL_length o i
    have key := search_l1 o (unit o) least i one W hW (by omega) (r := ((looks o W (n + 1) i (one, least)).1, twos (unit o) W (lsfL o (looks o W (n + 1) i (one, least)).1), 0)) ⟨h0, by omega⟩ (lsfL o i).length (lsfL o i) W [] [] 0 0 rfl (by omega) rfl rfl rfl (lsf_bounds ho h0 (by omega)) (by omega) (by omega) (by
        intro h
        simp only [Int.zero_add] at h ⊢
        have e : looks o W (n + 1) i (one, least) = looks o W n (i + 1) (i, far (lsfL o i) W) := by
          show looks o W n (i + 1) (look o W i (one, least)) = _
          unfold look
          rw [if_pos h]
        rw [e]
        exact ih (i + 1) _ i (by omega) (by omega) (by omega) (by omega)) (by
        intro h
        simp only [Int.zero_add] at h
        have e : looks o W (n + 1) i (one, least) = looks o W n (i + 1) (one, least) := by
          show looks o W n (i + 1) (look o W i (one, least)) = _
          unfold look
          rw [if_neg h]
        rw [e]
        exact ih (i + 1) least one (by omega) (by omega) h1 h2)
    simpa using key
theorem lsf_search_ok (o : Int) (ho : o = 10 ∨ o = 16) (w : List Int) (hw : (w.length : Int) = o) : Ev (fun k => lsf_Search.f k o w) (found o (clampL w), twos (unit o) (clampL w) (lsfL o (found o (clampL w))), 0) := by
  have hu : unit o ≠ 0 := by rcases ho with rfl | rfl <;> simp [unit]
  refine Ev.congr (fun k => by rw [lsf_Search.f, lsf_unit']) (Ev.bind (Ev.now _) ?_)
  refine evNeg hu ?_
  refine Ev.step (fun k => by rw [lsf_Search.j0]) ?_
  refine evNeg (by simp; omega) (Ev.bind (lsf_clamped' w (by omega)) ?_)
  exact search_l0 o ho (clampL w) clampL_bounds (by rw [clampL_length]; exact hw) 16 0 (-1) 0 (by omega) (by omega) (by omega) (by omega)
theorem lsf_search_not (o : Int) (w : List Int) (h : ¬ (o = 10 ∨ o = 16) ∨ (w.length : Int) ≠ o) : Ev (fun k => lsf_Search.f k o w) (0, [], 1) := by
  have hj : ∀ x y z, Ev (fun k => lsf_Search.j0 k x y z true) (0, [], 1) := by
    intro x y z
    refine Ev.step (fun k => by rw [lsf_Search.j0]) ?_
    exact evPos rfl (Ev.now _)
  refine Ev.congr (fun k => by rw [lsf_Search.f, lsf_unit']) (Ev.bind (Ev.now _) ?_)
  refine evIte (fun _ => hj _ _ _) (fun h2 => ?_)
  have ho : o = 10 ∨ o = 16 := by
    unfold unit at h2
    by_cases g1 : o = 10
    · exact .inl g1
    · by_cases g2 : o = 16
      · exact .inr g2
      · simp [g1, g2] at h2
  have e : ((w.length : Int) != o) = true := by
    rcases h with h | h
    · exact absurd ho h
    · simpa using h
  rw [e]
  exact hj _ _ _
end Go.Proofs.Ytdchabinakboeaa.Q
namespace Go.Proofs.Ytdchabinakboeaa.Q
open Go.RowKit Go.Proofs.Ytdchabinakboeaa.P Go.Proofs.YtdchabinakboeaaW.PrintWords Go.Proofs.YtdchabinakboeaaW.PrintLast Go.Proofs.YtdchabinakboeaaW.PrintMore
open Go.Proofs.Ytdchabinakboeaa.M
set_option linter.unusedVariables false

theorem ref_clamp (a lo hi : Int) : Ev (fun k => madrigalref1_Clamp.f k a lo hi) (clamp a lo hi) := by
  have hj : ∀ b, Ev (fun k => madrigalref1_Clamp.j0 k a lo hi b) (if b = true then lo else if a > hi then hi else a) := by
    intro b
    refine Ev.step (fun k => by rw [madrigalref1_Clamp.j0]) ?_
    refine evConst ?_
    cases b <;> simp <;> split <;> rfl
  refine Ev.congr (fun k => by rw [madrigalref1_Clamp.f]) ?_
  refine evIte (fun h => ?_) (fun h => ?_)
  · exact evEq (hj true) (by unfold clamp; simp [h])
  · exact evEq (hj _) (by unfold clamp; simp [h])
end Go.Proofs.Ytdchabinakboeaa.Q
namespace Go.Proofs.Ytdchabinakboeaa.Q
open Go.RowKit Go.Proofs.Ytdchabinakboeaa.P Go.Proofs.YtdchabinakboeaaW.PrintWords Go.Proofs.YtdchabinakboeaaW.PrintLast Go.Proofs.YtdchabinakboeaaW.PrintMore
open Go.Proofs.Ytdchabinakboeaa.M
set_option linter.unusedVariables false

theorem rlsf10 : ∀ i : Fin 16, madrigalref1_Lsf.f 40 10 ((i.val : Nat) : Int) = some (lsfL 10 ((i.val : Nat) : Int)) := by decide +kernel
theorem rlsf16 : ∀ i : Fin 16, madrigalref1_Lsf.f 40 16 ((i.val : Nat) : Int) = some (lsfL 16 ((i.val : Nat) : Int)) := by decide +kernel
theorem ref_lsf {o i : Int} (ho : o = 10 ∨ o = 16) (h0 : 0 ≤ i) (h1 : i < 16) : Ev (fun k => madrigalref1_Lsf.f k o i) (lsfL o i) := by
  have e : ((i.toNat : Nat) : Int) = i := Int.toNat_of_nonneg h0
  rcases ho with rfl | rfl
  · have h := rlsf10 ⟨i.toNat, by omega⟩
    simp only [e] at h
    exact Ev.of (madrigalref1_Lsf.mono _ _) h
  · have h := rlsf16 ⟨i.toNat, by omega⟩
    simp only [e] at h
    exact Ev.of (madrigalref1_Lsf.mono _ _) h
theorem ref_clamped_l0 (lo hi : Int) (n : Nat) : ∀ (S A R : List Int) (i : Int), S.length = n → i = A.length → R.length = A.length → A.length + S.length ≤ 1000000 →
    Ev (fun k => madrigalref6_clamped.l0 k (A ++ S) lo hi R i) (R ++ S.map fun v => clamp v lo hi) := by
  induction n with
  | zero =>
    intro S A R i hn hi hr hb
    have e1 : S = [] := List.eq_nil_of_length_eq_zero hn
    subst e1
    refine Ev.step (fun k => by rw [madrigalref6_clamped.l0]) ?_
    refine evNeg (by simp; omega) ?_
    simpa using Ev.now R
  | succ n ih =>
    intro S A R i hn hii hr hb
    cases S with
    | nil => simp at hn
    | cons s S =>
      simp at hn hb
      refine Ev.step (fun k => by rw [madrigalref6_clamped.l0]) ?_
      refine evPos (by simp; omega) (evPos (by omega) ?_)
      rw [rd_mid A s S i hii]
      refine Ev.bind (ref_clamp s lo hi) (evPos (by omega) ?_)
      rw [w64 (x := i + 1) (by omega) (by omega)]
      have h := ih S (A ++ [s]) (R ++ [clamp s lo hi]) (i + 1) (by omega) (by simp; omega) (by simp; omega) (by simp; omega)
      simpa using h
theorem ref_clamped (l : List Int) (lo hi : Int) (h : l.length ≤ 1000000) : Ev (fun k => madrigalref6_clamped.f k l lo hi) (l.map fun v => clamp v lo hi) := by
  refine Ev.congr (fun k => by rw [madrigalref6_clamped.f]) ?_
  have := ref_clamped_l0 lo hi l.length l [] [] 0 rfl rfl rfl (by simpa using h)
  simpa using this
theorem ref_steady_l1 : ∀ (R Q : List Int) (a : Int), a = Q.headD 32768 → R.length ≤ 64 → (∀ x ∈ R, -1000 ≤ x ∧ x ≤ 1000000) → -100000 ≤ a - 250 * R.length → a ≤ 1000000 →
    Ev (fun k => madrigalref6_Steady.l1 k (R.reverse ++ Q) a ((R.length : Int) - 1)) (R.reverse.foldr dn Q)
  | [], Q, a, ha, hR, hx, h0, h1 => by
    refine Ev.step (fun k => by rw [madrigalref6_Steady.l1]) ?_
    refine evNeg (by simp) ?_
    simpa using Ev.now Q
  | v :: R, Q, a, ha, hR, hx, h0, h1 => by
    have hv := hx v (by simp)
    simp only [List.length_cons] at hR h0
    refine Ev.step (fun k => by rw [madrigalref6_Steady.l1]) ?_
    have e : (v :: R).reverse ++ Q = R.reverse ++ v :: Q := by simp
    rw [e]
    have ei : (((v :: R).length : Nat) : Int) - 1 = (R.reverse.length : Nat) := by simp
    rw [ei]
    refine evPos (by omega) (evPos (by omega) (evPos (by simp; omega) ?_))
    have g := lo_le v (a - 250)
    have ih := ref_steady_l1 R (lesser v (a - 250) :: Q) (lesser v (a - 250)) rfl (by omega) (fun x h => hx x (by simp [h])) (by omega) (by omega)
    have eq : (v :: R).reverse.foldr dn Q = R.reverse.foldr dn (lesser v (a - 250) :: Q) := by
      rw [List.reverse_cons, List.foldr_append]
      show R.reverse.foldr dn (dn v Q) = _
      unfold dn
      rw [← ha]
    rw [rd_mid _ _ _ _ rfl, set_mid _ _ _ _ _ rfl, w64 (x := a - 250) (by omega) (by omega), w64 (x := _ - 1) (by simp; omega) (by simp; omega), eq]
    rw [List.length_reverse]
    refine evIte (fun h => ?_) (fun h => ?_)
    · have e2 : lesser v (a - 250) = a - 250 := by unfold lesser; rw [if_pos (by omega)]
      rw [e2] at ih ⊢
      refine Ev.bind (Ev.now _) ?_
      rw [rd_mid _ _ _ _ (by simp)]
      exact ih
    · have e2 : lesser v (a - 250) = v := by unfold lesser; rw [if_neg (by omega)]
      rw [e2] at ih ⊢
      exact ih
theorem ref_steady_l0 : ∀ (B A : List Int) (a i : Int), i = A.length → A.length + B.length ≤ 64 → (∀ x ∈ A, -1000 ≤ x ∧ x ≤ 1000000) → (∀ x ∈ B, -1000 ≤ x ∧ x ≤ 100000) → -1000 ≤ a → a + 250 * B.length ≤ 200000 →
    Ev (fun k => madrigalref6_Steady.l0 k (A ++ B) a i) ((A ++ lift a B).foldr dn [])
  | [], A, a, i, hi, hl, hA, hB, h0, h1 => by
    refine Ev.step (fun k => by rw [madrigalref6_Steady.l0]) ?_
    refine evNeg (by simp; omega) ?_
    simp only [lift, List.append_nil]
    simp only [List.length_nil, Nat.add_zero] at hl
    rw [w64 (x := (A.length : Int) - 1) (by omega) (by omega)]
    have h := ref_steady_l1 A.reverse [] 32768 rfl (by simpa using hl) (fun x hx => hA x (by simpa using hx)) (by simp; omega) (by omega)
    simpa using h
  | v :: B, A, a, i, hi, hl, hA, hB, h0, h1 => by
    have hv := hB v (by simp)
    simp only [List.length_cons] at hl h1
    refine Ev.step (fun k => by rw [madrigalref6_Steady.l0]) ?_
    refine evPos (by simp; omega) (evPos (by omega) ?_)
    have g := hi_ge v (a + 250)
    have ih := ref_steady_l0 B (A ++ [greater v (a + 250)]) (greater v (a + 250)) (i + 1) (by simp; omega) (by simp; omega) (by
      intro x hx
      rcases List.mem_append.1 hx with hx | hx
      · exact hA x hx
      · simp at hx; omega) (fun x h => hB x (by simp [h])) (by omega) (by omega)
    have e0 : (A ++ lift a (v :: B)) = (A ++ [greater v (a + 250)]) ++ lift (greater v (a + 250)) B := by simp [lift]
    rw [rd_mid _ _ _ _ hi, set_mid _ _ _ _ _ hi, w64 (x := a + 250) (by omega) (by omega), w64 (x := i + 1) (by omega) (by omega), e0]
    refine evIte (fun h => ?_) (fun h => ?_)
    · have e2 : greater v (a + 250) = a + 250 := by unfold greater; rw [if_pos (by omega)]
      rw [e2] at ih ⊢
      refine Ev.bind (Ev.now _) ?_
      rw [rd_mid _ _ _ _ hi]
      simpa using ih
    · have e2 : greater v (a + 250) = v := by unfold greater; rw [if_neg (by omega)]
      rw [e2] at ih ⊢
      simpa using ih
theorem ref_steady (l : List Int) : Ev (fun k => madrigalref6_Steady.f k l) (steady l) := by
  refine Ev.congr (fun k => by rw [madrigalref6_Steady.f]) ?_
  unfold steady
  refine evIte (fun h => ?_) (fun h => ?_)
  · rw [if_pos (by omega)]; exact Ev.now _
  · rw [if_neg (by omega)]
    refine Ev.bind (ref_clamped l 0 32768 (by omega)) ?_
    have hb := clampL_bounds (l := l)
    have hl := clampL_length l
    exact ref_steady_l0 (clampL l) [] 0 0 rfl (by simp; omega) (by simp) (fun x hx => by have := hb x hx; omega) (by omega) (by omega)
theorem ref_good_l0 (n : Nat) : ∀ (S A : List Int) (i : Int), S.length = n → i = A.length → A.length + S.length ≤ 1000000 →
    Ev (fun k => madrigalref6_GoodIndex.l0 k (A ++ S) i) (decide (Small S)) := by
  induction n with
  | zero =>
    intro S A i hn hi hb
    have e1 : S = [] := List.eq_nil_of_length_eq_zero hn
    subst e1
    refine Ev.step (fun k => by rw [madrigalref6_GoodIndex.l0]) ?_
    refine evNeg (by simp; omega) (evConst ?_)
    simp [Small]
  | succ n ih =>
    intro S A i hn hi hb
    cases S with
    | nil => simp at hn
    | cons s S =>
      simp at hn hb
      refine Ev.step (fun k => by rw [madrigalref6_GoodIndex.l0]) ?_
      refine evPos (by simp; omega) (evPos (by omega) ?_)
      rw [rd_mid _ _ _ _ hi, w64 (x := i + 1) (by omega) (by omega)]
      refine evIte (fun h => evConst ?_) (fun h => ?_)
      · congr 1; symm; simp [Small]; omega
      refine evIte (fun h2 => evConst ?_) (fun h2 => ?_)
      · congr 1; symm; simp [Small]; omega
      have h3 := ih S (A ++ [s]) (i + 1) (by omega) (by simp; omega) (by simp; omega)
      have e : decide (Small (s :: S)) = decide (Small S) := by
        apply decide_eq_decide.2
        simp only [Small, List.forall_mem_cons]
        exact ⟨fun h => h.2, fun h => ⟨by omega, h⟩⟩
      rw [e]
      simpa using h3
theorem ref_good (o one : Int) (two : List Int) : Ev (fun k => madrigalref6_GoodIndex.f k o one two) (goodB o one two) := by
  refine Ev.congr (fun k => by rw [madrigalref6_GoodIndex.f]) ?_
  have hf : ∀ y, goodB o one two = false → Ev (fun k => madrigalref6_GoodIndex.j0 k y true) (goodB o one two) := by
    intro y h
    rw [h]
    refine Ev.step (fun k => by rw [madrigalref6_GoodIndex.j0]) ?_
    exact evPos rfl (Ev.now _)
  have hg : (o = 10 ∨ o = 16) → Ev (fun k => if one < 0 then madrigalref6_GoodIndex.j0 k two true else if one > 15 then madrigalref6_GoodIndex.j0 k two true else madrigalref6_GoodIndex.j0 k two ((two.length : Int) != o)) (goodB o one two) := by
    intro ho
    refine evIte (fun h1 => hf _ ?_) (fun h1 => ?_)
    · unfold goodB; apply decide_eq_false; rintro ⟨_, h2, _⟩; omega
    refine evIte (fun h2 => hf _ ?_) (fun h2 => ?_)
    · unfold goodB; apply decide_eq_false; rintro ⟨_, _, h3, _⟩; omega
    refine Ev.step (fun k => by rw [madrigalref6_GoodIndex.j0]) ?_
    refine evIte (fun h3 => evConst ?_) (fun h3 => ?_)
    · congr 1; symm; unfold goodB; apply decide_eq_false; rintro ⟨_, _, _, h4, _⟩; simp at h3; omega
    have h4 : (two.length : Int) = o := by simpa using h3
    have h5 := ref_good_l0 two.length two [] 0 rfl rfl (by simp; omega)
    have e : goodB o one two = decide (Small two) := by
      unfold goodB
      apply decide_eq_decide.2
      exact ⟨fun h => h.2.2.2.2, fun h => ⟨ho, by omega, by omega, h4, h⟩⟩
    rw [e]
    simpa using h5
  refine evIte (fun h => hg (.inl h)) (fun h => ?_)
  refine evIte (fun h => hg (.inr h)) (fun h2 => hf _ ?_)
  unfold goodB; apply decide_eq_false; rintro ⟨h1 | h1, _⟩
  · exact h h1
  · exact h2 h1
theorem ref_step {o : Int} (ho : o = 10 ∨ o = 16) : madrigalref6_Step.f o = some (unit o) := by
  rcases ho with rfl | rfl <;> rfl
theorem ref_decode_l0 (o : Int) (ho : o = 10 ∨ o = 16) (n : Nat) : ∀ (B A T T0 : List Int) (i : Int), B.length = n → T.length = B.length → T0.length = A.length → i = A.length → ((A.length + B.length : Nat) : Int) = o → (∀ x ∈ B, 0 ≤ x ∧ x ≤ 32768) → Small T →
    Ev (fun k => madrigalref6_Decode.l0 k o (T0 ++ T) (A ++ B) i) (steady (A ++ changed o B T)) := by
  induction n with
  | zero =>
    intro B A T T0 i hn ht ht0 hi hb hB hT
    have e1 : B = [] := List.eq_nil_of_length_eq_zero hn
    subst e1
    refine Ev.step (fun k => by rw [madrigalref6_Decode.l0]) ?_
    refine evNeg (by simp at hb; omega) ?_
    simp only [changed, List.zipWith_nil_left, List.append_nil]
    exact Ev.bind (ref_steady A) (Ev.now _)
  | succ n ih =>
    intro B A T T0 i hn ht ht0 hi hb hB hT
    cases B with
    | nil => simp at hn
    | cons b B =>
      cases T with
      | nil => simp at ht
      | cons t T =>
        simp only [List.length_cons] at hn ht hb
        have hb2 := hB b (by simp)
        have ht2 := hT t (by simp)
        have hu := unit_bounds o
        refine Ev.step (fun k => by rw [madrigalref6_Decode.l0, ref_step ho]) ?_
        refine evPos (by omega) (evPos (by omega) (evPos (by simp; omega) ?_))
        refine Ev.bind (Ev.now _) ?_
        refine evPos (by simp; omega) ?_
        have hm : -1600 ≤ unit o * t ∧ unit o * t ≤ 1600 := by
          have h1 : unit o * t ≤ unit o * 4 := Int.mul_le_mul_of_nonneg_left ht2.2 hu.1
          have h2 : unit o * (-4) ≤ unit o * t := Int.mul_le_mul_of_nonneg_left ht2.1 hu.1
          omega
        rw [rd_mid _ _ _ _ hi, rd_mid T0 t T i (by omega), set_mid _ _ _ _ _ hi, w64 (x := i + 1) (by omega) (by omega), w64 (x := unit o * t) (by omega) (by omega), w64 (by omega) (by omega)]
        have h := ih B (A ++ [b + unit o * t]) T (T0 ++ [t]) (i + 1) (by omega) (by omega) (by simp; omega) (by simp; omega) (by simp; omega) (fun x hx => hB x (by simp [hx])) (fun x hx => hT x (by simp [hx]))
        simpa [changed] using h
theorem goodB_iff {o one : Int} {two : List Int} : goodB o one two = true ↔ (o = 10 ∨ o = 16) ∧ 0 ≤ one ∧ one < 16 ∧ (two.length : Int) = o ∧ Small two := by simp [goodB]
theorem ref_decode (o one : Int) (two : List Int) (hg : goodB o one two = true) : Ev (fun k => madrigalref6_Decode.f k o one two) (steady (changed o (lsfL o one) two)) := by
  obtain ⟨ho, h0, h1, h2, h3⟩ := goodB_iff.1 hg
  refine Ev.congr (fun k => by rw [madrigalref6_Decode.f]) (Ev.bind (ref_lsf ho h0 h1) ?_)
  have hl := lsfL_length o one
  have h := ref_decode_l0 o ho (lsfL o one).length (lsfL o one) [] two [] 0 rfl (by omega) rfl rfl (by simp; omega) (lsf_bounds ho h0 h1) h3
  simpa using h
end Go.Proofs.Ytdchabinakboeaa.Q
namespace Go.Proofs.Ytdchabinakboeaa.Q
open Go.RowKit Go.Proofs.Ytdchabinakboeaa.P Go.Proofs.YtdchabinakboeaaW.PrintWords Go.Proofs.YtdchabinakboeaaW.PrintLast Go.Proofs.YtdchabinakboeaaW.PrintMore
set_option linter.unusedVariables false

theorem ref_down {a d : Int} (hd : 1 ≤ d) (h0 : -9223372036854775807 ≤ a) (h1 : a ≤ 9223372036854775807) : madrigalref1_Down.f a d = some (a / d) := by
  unfold madrigalref1_Down.f
  rw [if_neg (by omega)]
  have hmod := Int.emod_nonneg a (show d ≠ 0 by omega)
  have hlt := Int.emod_lt_of_pos a (show 0 < d by omega)
  have he := Int.mul_ediv_add_emod a d
  have hbs : d.sign = 1 := Int.sign_eq_one_of_pos (by omega)
  have hm : Int.tmod a d = a - d * Int.tdiv a d := by have := Int.mul_tdiv_add_tmod a d; omega
  have hq2 : a / d ≤ 9223372036854775807 := by
    by_cases h : 0 ≤ a
    · have := Int.ediv_le_self d h; omega
    · have : a / d < 0 := Int.ediv_neg_of_neg_of_pos (by omega) (by omega)
      omega
  have hq1 : -9223372036854775807 ≤ a / d := by
    rw [Int.le_ediv_iff_mul_le (by omega)]
    have : (-9223372036854775807 : Int) * d ≤ -9223372036854775807 * 1 := Int.mul_le_mul_of_nonpos_left (by omega) (by omega)
    omega
  have ht : Int.tdiv a d = if 0 ≤ a ∨ a % d = 0 then a / d else a / d + 1 := by
    rw [Int.tdiv_eq_ediv, hbs]
    by_cases h : 0 ≤ a
    · rw [if_pos (.inl h), if_pos (.inl h)]; omega
    · by_cases h2 : a % d = 0
      · rw [if_pos (.inr (Int.dvd_of_emod_eq_zero h2)), if_pos (.inr h2)]; omega
      · rw [if_neg, if_neg]
        · rintro (h3 | h3)
          · exact h h3
          · exact h2 h3
        · rintro (h3 | h3)
          · exact h h3
          · exact h2 (Int.emod_eq_zero_of_dvd h3)
  by_cases h : 0 ≤ a ∨ a % d = 0
  · rw [if_pos h] at ht
    rw [hm, ht, if_neg (by omega), w64 (by omega) (by omega)]
  · rw [if_neg h] at ht
    have hmul : d * (a / d + 1) = d * (a / d) + d := by rw [Int.mul_add]; omega
    have hneg : a / d < 0 := Int.ediv_neg_of_neg_of_pos (by omega) (by omega)
    rw [hm, ht, if_pos (by omega), w64 (x := a / d + 1) (by omega) (by omega), w64 (by omega) (by omega)]
    congr 1
    omega
end Go.Proofs.Ytdchabinakboeaa.Q
namespace Go.Proofs.Ytdchabinakboeaa.Q
open Go.RowKit Go.Proofs.Ytdchabinakboeaa.P Go.Proofs.YtdchabinakboeaaW.PrintWords Go.Proofs.YtdchabinakboeaaW.PrintLast Go.Proofs.YtdchabinakboeaaW.PrintMore
open Go.Proofs.Ytdchabinakboeaa.M
set_option linter.unusedVariables false

theorem ref_between_l0 (w : Int) (hw0 : 0 ≤ w) (hw1 : w ≤ 4) (n : Nat) : ∀ (S T A B : List Int) (i : Int), S.length = n → T.length = S.length → B.length = A.length → i = A.length → A.length + S.length ≤ 1000 → (∀ x ∈ S, 0 ≤ x ∧ x ≤ 32768) → (∀ x ∈ T, 0 ≤ x ∧ x ≤ 32768) →
    Ev (fun k => madrigalref6_Between.l0 k (A ++ S) (B ++ T) w i) (A ++ List.zipWith (mid w) S T) := by
  induction n with
  | zero =>
    intro S T A B i hn ht hb hi hl hS hT
    have e1 : S = [] := List.eq_nil_of_length_eq_zero hn
    subst e1
    refine Ev.step (fun k => by rw [madrigalref6_Between.l0]) ?_
    refine evNeg (by simp; omega) ?_
    simpa using Ev.now A
  | succ n ih =>
    intro S T A B i hn ht hb hi hl hS hT
    cases S with
    | nil => simp at hn
    | cons s S =>
      cases T with
      | nil => simp at ht
      | cons t T =>
        simp at hn ht hl
        have hs := hS s (by simp)
        have ht2 := hT t (by simp)
        have hm := mid_w hw0 hw1 hs ht2
        refine Ev.step (fun k => by rw [madrigalref6_Between.l0]) ?_
        refine evPos (by simp; omega) (evPos (by omega) (evPos (by simp; omega) ?_))
        rw [rd_mid _ _ _ _ hi, rd_mid B t T i (by omega), w64 (x := i + 1) (by omega) (by omega), w64 (x := t - s) (by omega) (by omega), w64 (x := (t - s) * w) (by omega) (by omega), ref_down (by omega) (by omega) (by omega)]
        refine Ev.bind (Ev.now _) ?_
        rw [set_mid _ _ _ _ _ hi, w64 (x := s + _) (by omega) (by omega)]
        have h := ih S T (A ++ [mid w s t]) (B ++ [t]) (i + 1) (by omega) (by omega) (by simp; omega) (by simp; omega) (by simp; omega) (fun x hx => hS x (by simp [hx])) (fun x hx => hT x (by simp [hx]))
        simpa [mid] using h
theorem ref_between (a b : List Int) (w : Int) (hl : a.length = b.length) (h64 : a.length ≤ 64) (hw0 : 0 ≤ w) (hw1 : w ≤ 4) : Ev (fun k => madrigalref6_Between.f k a b w) (List.zipWith (mid w) (clampL a) (clampL b)) := by
  refine Ev.congr (fun k => by rw [madrigalref6_Between.f]) ?_
  refine Ev.bind (ref_clamped a 0 32768 (by omega)) (Ev.bind (ref_clamped b 0 32768 (by omega)) ?_)
  have h := ref_between_l0 w hw0 hw1 (clampL a).length (clampL a) (clampL b) [] [] 0 rfl (by simp [clampL_length]; omega) rfl rfl (by simp [clampL_length]; omega) clampL_bounds clampL_bounds
  simp only [List.nil_append] at h
  exact h
theorem ref_search_l2 (o f : Int) (hf : f = 400 ∨ f = 250) (one : Int) (n : Nat) : ∀ (S T A B R : List Int) (i : Int), T.length = n → S.length = T.length → A.length = B.length → i = B.length → ((B.length + T.length : Nat) : Int) = o → o ≤ 1000 → R.length = B.length → (∀ x ∈ S, 0 ≤ x ∧ x ≤ 32768) → (∀ x ∈ T, 0 ≤ x ∧ x ≤ 32768) →
    Ev (fun k => madrigalref6_Search.l2 k o (A ++ S) one (B ++ T) R f i) (one, R ++ twos f S T) := by
  induction n with
  | zero =>
    intro S T A B R i hn ht hb hi hl ho hR hS hT
    have e1 : T = [] := List.eq_nil_of_length_eq_zero hn
    subst e1
    refine Ev.step (fun k => by rw [madrigalref6_Search.l2]) ?_
    refine evNeg (by simp at hl; omega) ?_
    simpa [twos] using Ev.now (one, R)
  | succ n ih =>
    intro S T A B R i hn ht hb hi hl ho hR hS hT
    cases T with
    | nil => simp at hn
    | cons t T =>
      cases S with
      | nil => simp at ht
      | cons s S =>
        simp only [List.length_cons] at hn ht hl
        have hs := hS s (by simp)
        have ht2 := hT t (by simp)
        refine Ev.step (fun k => by rw [madrigalref6_Search.l2]) ?_
        refine evPos (by omega) (evPos (by omega) (evPos (by simp; omega) (evPos (by simp; omega) ?_)))
        have hf2 : Int.tdiv f 2 = f / 2 := Int.tdiv_eq_ediv_of_nonneg (by omega)
        rw [rd_mid B t T i hi, rd_mid A s S i (by omega), hf2, w64 (x := i + 1) (by omega) (by omega), w64 (x := s - t) (by omega) (by omega), w64 (x := f / 2) (by omega) (by omega), w64 (x := s - t + f / 2) (by omega) (by omega), ref_down (by omega) (by omega) (by omega)]
        refine Ev.bind (Ev.now _) (Ev.bind (ref_clamp _ _ _) ?_)
        refine evPos (by omega) ?_
        have h := ih S T (A ++ [s]) (B ++ [t]) (R ++ [twoAt f s t]) (i + 1) (by omega) (by omega) (by simp; omega) (by simp; omega) (by simp; omega) ho (by simp; omega) (fun x hx => hS x (by simp [hx])) (fun x hx => hT x (by simp [hx]))
        simpa [twos, twoAt] using h
theorem ref_search_l1 (o least i one : Int) (ho : o ≤ 16) (W : List Int) (hW : ∀ x ∈ W, 0 ≤ x ∧ x ≤ 32768) (hWl : (W.length : Int) = o) {r : Int × List Int} (hi : 0 ≤ i ∧ i < 16) (n : Nat) :
    ∀ (T S A B : List Int) (s j : Int), T.length = n → S.length = T.length → A.length = B.length → j = B.length → A ++ S = W → (∀ x ∈ T, 0 ≤ x ∧ x ≤ 32768) → 0 ≤ s → s + 1073741824 * T.length ≤ 1073741824 * 20 →
    (least < 0 ∨ s + far T S < least → Ev (fun k => madrigalref6_Search.l0 k o W i (s + far T S) (i + 1)) r) → (¬ (least < 0 ∨ s + far T S < least) → Ev (fun k => madrigalref6_Search.l0 k o W one least (i + 1)) r) →
    Ev (fun k => madrigalref6_Search.l1 k o W one least i (B ++ T) s j) r := by
  induction n with
  | zero =>
    intro T S A B s j hn hs ha hj hw hT h0 hb h1 h2
    have e1 : T = [] := List.eq_nil_of_length_eq_zero hn
    subst e1
    have e2 : S = [] := List.eq_nil_of_length_eq_zero (by simpa using hs)
    have hlen : A.length + S.length = W.length := by rw [← hw]; simp
    simp only [far, Int.add_zero] at h1 h2
    refine Ev.step (fun k => by rw [madrigalref6_Search.l1]) ?_
    rw [w64 (x := i + 1) (by omega) (by omega)]
    refine evNeg (by rw [e2] at hlen; simp at hlen; omega) ?_
    refine evIte (fun h => h1 (.inl h)) (fun h => ?_)
    refine evIte (fun g => h1 (.inr g)) (fun g => h2 (by omega))
  | succ n ih =>
    intro T S A B s j hn hs ha hj hw hT h0 hb h1 h2
    cases T with
    | nil => simp at hn
    | cons t T =>
      cases S with
      | nil => simp at hs
      | cons w S =>
        simp at hn hs
        have ht := hT t (by simp)
        have hw2 := hW w (by rw [← hw]; simp)
        have hlen : A.length + S.length + 1 = W.length := by rw [← hw]; simp; omega
        have f1 := far_bounds [t] [w] (by simpa using ht) (by simpa using hw2)
        simp [far] at f1
        simp only [List.length_cons] at hb
        refine Ev.step (fun k => by rw [madrigalref6_Search.l1]) ?_
        refine evPos (by omega) (evPos (by omega) (evPos (by simp; omega) (evPos (by omega) ?_)))
        have er : rd W j = w := by rw [← hw]; exact rd_mid A w S j (by omega)
        rw [rd_mid B t T j hj, er, w64 (x := j + 1) (by omega) (by omega), w64 (x := t - w) (by omega) (by omega), w64 (x := (t - w) * (t - w)) (by omega) (by omega), w64 (x := s + _) (by omega) (by omega)]
        have h := ih T S (A ++ [w]) (B ++ [t]) (s + (t - w) * (t - w)) (j + 1) (by omega) (by omega) (by simp; omega) (by simp; omega) (by rw [← hw]; simp) (fun x hx => hT x (by simp [hx])) (by omega) (by omega)
        simp only [far, ← Int.add_assoc] at h1 h2
        have h3 := h h1 h2
        simpa using h3
theorem ref_search_l0 (o : Int) (ho : o = 10 ∨ o = 16) (W : List Int) (hW : ∀ x ∈ W, 0 ≤ x ∧ x ≤ 32768) (hWl : (W.length : Int) = o) (n : Nat) : ∀ (i least one : Int), 0 ≤ i → i + n = 16 → 0 ≤ one → one < 16 →
    Ev (fun k => madrigalref6_Search.l0 k o W one least i) ((looks o W n i (one, least)).1, twos (unit o) W (lsfL o (looks o W n i (one, least)).1)) := by
  have hu : unit o = 400 ∨ unit o = 250 := by rcases ho with rfl | rfl <;> simp [unit]
  induction n with
  | zero =>
    intro i least one h0 hi h1 h2
    refine Ev.step (fun k => by rw [madrigalref6_Search.l0, ref_step ho]) ?_
    refine evNeg (by omega) (Ev.bind (ref_lsf ho h1 h2) (Ev.bind (Ev.now _) ?_))
    have hl := lsfL_length o one
    have h := ref_search_l2 o (unit o) hu one (lsfL o one).length W (lsfL o one) [] [] [] 0 rfl (by omega) rfl rfl (by simp; omega) (by omega) rfl hW (lsf_bounds ho h1 h2)
    simpa [looks] using h
  | succ n ih =>
    intro i least one h0 hi h1 h2
    refine Ev.step (fun k => by rw [madrigalref6_Search.l0]) ?_
    refine evPos (by omega) (Ev.bind (ref_lsf ho h0 (by omega)) ?_)
    have hl := lsfL_length o i
    have key := ref_search_l1 o least i one (by omega) W hW hWl (r := ((looks o W (n + 1) i (one, least)).1, twos (unit o) W (lsfL o (looks o W (n + 1) i (one, least)).1))) ⟨h0, by omega⟩ (lsfL o i).length (lsfL o i) W [] [] 0 0 rfl (by omega) rfl rfl rfl (lsf_bounds ho h0 (by omega)) (by omega) (by omega) (by
        intro h
        simp only [Int.zero_add] at h ⊢
        have e : looks o W (n + 1) i (one, least) = looks o W n (i + 1) (i, far (lsfL o i) W) := by
          show looks o W n (i + 1) (look o W i (one, least)) = _
          unfold look
          rw [if_pos h]
        rw [e]
        exact ih (i + 1) _ i (by omega) (by omega) (by omega) (by omega)) (by
        intro h
        simp only [Int.zero_add] at h
        have e : looks o W (n + 1) i (one, least) = looks o W n (i + 1) (one, least) := by
          show looks o W n (i + 1) (look o W i (one, least)) = _
          unfold look
          rw [if_neg h]
        rw [e]
        exact ih (i + 1) least one (by omega) (by omega) h1 h2)
    simpa using key
theorem ref_search (o : Int) (ho : o = 10 ∨ o = 16) (w : List Int) (hw : (w.length : Int) = o) : Ev (fun k => madrigalref6_Search.f k o w) (found o (clampL w), twos (unit o) (clampL w) (lsfL o (found o (clampL w)))) := by
  refine Ev.congr (fun k => by rw [madrigalref6_Search.f]) (Ev.bind (ref_clamped w 0 32768 (by omega)) ?_)
  exact ref_search_l0 o ho (clampL w) clampL_bounds (by rw [clampL_length]; exact hw) 16 0 (-1) 0 (by omega) (by omega) (by omega) (by omega)
end Go.Proofs.Ytdchabinakboeaa.Q
namespace Go.Proofs.Ytdchabinakboeaa.Pure
open Go.RowKit Go.Proofs.Ytdchabinakboeaa.P Go.Proofs.YtdchabinakboeaaW.PrintWords Go.Proofs.YtdchabinakboeaaW.PrintLast Go.Proofs.YtdchabinakboeaaW.PrintMore
open Go.Proofs.Ytdchabinakboeaa.M Go.Proofs.Ytdchabinakboeaa.Q
set_option linter.unusedVariables false

theorem says_l0 (l : List Int) (hl : l.length ≤ 1000) (one : Int) (d : Nat) : ∀ (i : Int), 0 ≤ i → i + d = l.length → Ev (fun k => madrigallaw6_LsfSays.l0 k l i one l) true := by
  induction d with
  | zero =>
    intro i h0 hi
    refine Ev.step (fun k => by rw [madrigallaw6_LsfSays.l0]) ?_
    exact evNeg (by omega) (Ev.now _)
  | succ d ih =>
    intro i h0 hi
    refine Ev.step (fun k => by rw [madrigallaw6_LsfSays.l0]) ?_
    rw [w64 (x := i + 1) (by omega) (by omega)]
    exact evPos (by omega) (evPos h0 (evPos (by omega) (evPos rfl (ih (i + 1) (by omega) (by omega)))))
theorem says_j3 (o : Int) (a : List Int) : Ev (fun k => madrigallaw6_LsfSays.j3 k o a) true := by
  refine Ev.step (fun k => by rw [madrigallaw6_LsfSays.j3]) ?_
  by_cases h : (o = 10 ∨ o = 16) ∧ (a.length : Int) = o
  · obtain ⟨ho, hl⟩ := h
    refine Ev.bind (lsf_search_ok o ho a hl) ?_
    have hb : ((a.length : Int) != o) = false := by simpa using hl
    have hj : Ev (fun k => madrigallaw6_LsfSays.j4 k o a 0 false (found o (clampL a)) (twos (unit o) (clampL a) (lsfL o (found o (clampL a))))) true := by
      refine Ev.step (fun k => by rw [madrigallaw6_LsfSays.j4]) ?_
      refine evNeg (by simp) (Ev.bind (ref_search o ho a hl) ?_)
      dsimp only
      simp only [if_true, eq_self]
      refine Ev.step (fun k => by rw [madrigallaw6_LsfSays.j5]) ?_
      have hlen : (twos (unit o) (clampL a) (lsfL o (found o (clampL a)))).length ≤ 1000 := by simp [twos, clampL_length]; omega
      exact evNeg (by simp) (says_l0 _ hlen _ (twos (unit o) (clampL a) (lsfL o (found o (clampL a)))).length 0 (by omega) (by omega))
    dsimp only
    rw [hb]
    refine evIte (fun _ => hj) (fun h1 => ?_)
    exact evPos (by omega) hj
  · have hn : ¬ (o = 10 ∨ o = 16) ∨ (a.length : Int) ≠ o := by
      by_cases h1 : o = 10 ∨ o = 16
      · exact .inr fun h2 => h ⟨h1, h2⟩
      · exact .inl h1
    refine Ev.bind (lsf_search_not o a hn) ?_
    have hj : Ev (fun k => madrigallaw6_LsfSays.j4 k o a 1 true 0 []) true := by
      refine Ev.step (fun k => by rw [madrigallaw6_LsfSays.j4]) ?_
      exact evPos rfl (evPos rfl (evPos rfl (Ev.now _)))
    dsimp only
    have e : (o = 10 ∨ o = 16) → ((a.length : Int) != o) = true := fun ho => by
      rcases hn with h1 | h1
      · exact absurd ho h1
      · simpa using h1
    refine evIte (fun h1 => ?_) (fun h1 => ?_)
    · rw [e (.inl h1)]; exact hj
    · refine evIte (fun h2 => ?_) (fun _ => hj)
      rw [e (.inr h2)]; exact hj
theorem says_j1 (o : Int) (a b : List Int) (w : Int) (ha : a.length ≤ 100) (hb : b.length ≤ 100) : Ev (fun k => madrigallaw6_LsfSays.j1 k o a b w false) true := by
  refine Ev.step (fun k => by rw [madrigallaw6_LsfSays.j1]) ?_
  refine evNeg (by simp) (Ev.bind (Ev.now _) (evPos (by simp; omega) ?_))
  have e0 : ([] : List Int) ++ a = a := rfl
  rw [e0]
  refine Ev.bind (lsf_steady a) (Ev.bind (ref_steady a) (Ev.bind (same6 _ _ ?_) (evPos (by simp) ?_)))
  · unfold steady
    split
    · simp
    · rw [dn_length, lift_length, clampL_length]; simp; omega
  have hnot : (a.length ≠ b.length ∨ 64 < a.length ∨ w < 0 ∨ 4 < w) → Ev (fun k => (lsf_Between.f k a b w).bind fun bt => madrigallaw6_LsfSays.j2 k o a b w bt.1 bt.2 true) true := by
    intro h
    refine Ev.bind (between_not a b w h) ?_
    refine Ev.step (fun k => by rw [madrigallaw6_LsfSays.j2]) ?_
    exact evPos rfl (evPos rfl (evPos rfl (says_j3 o a)))
  by_cases h1 : a.length = b.length
  · by_cases h2 : 64 < a.length
    · refine Ev.congr (fun k => by simp only [if_pos (show (a.length : Int) = b.length by omega), if_pos (show (a.length : Int) > 64 by omega)]) (hnot (.inr (.inl h2)))
    · by_cases h3 : w < 0
      · refine Ev.congr (fun k => by simp only [if_pos (show (a.length : Int) = b.length by omega), if_neg (show ¬ (a.length : Int) > 64 by omega), if_pos h3]) (hnot (.inr (.inr (.inl h3))))
      · by_cases h4 : 4 < w
        · refine Ev.congr (fun k => by simp only [if_pos (show (a.length : Int) = b.length by omega), if_neg (show ¬ (a.length : Int) > 64 by omega), if_neg h3, decide_eq_true (show w > 4 from h4)]) (hnot (.inr (.inr (.inr h4))))
        · refine Ev.bind (between_ok a b w h1 (by omega) (by omega) (by omega)) ?_
          refine evPos (by omega) (evNeg (by omega) (evNeg h3 ?_))
          rw [decide_eq_false (show ¬ w > 4 by omega)]
          refine Ev.step (fun k => by rw [madrigallaw6_LsfSays.j2]) ?_
          refine evNeg (by simp) (evPos rfl (Ev.bind (ref_between a b w h1 (by omega) (by omega) (by omega)) (Ev.bind (same6 _ _ ?_) (evPos (by simp) (says_j3 o a)))))
          simp [clampL_length]; omega
  · refine Ev.congr (fun k => by simp only [if_neg (show ¬ (a.length : Int) = b.length by omega)]) (hnot (.inl h1))
theorem says_j0 (o one : Int) (two a b : List Int) (w : Int) (c : Bool) (h : c = false → a.length ≤ 100 ∧ b.length ≤ 100 ∧ two.length ≤ 100) : Ev (fun k => madrigallaw6_LsfSays.j0 k o a b w c one two) true := by
  refine Ev.step (fun k => by rw [madrigallaw6_LsfSays.j0]) ?_
  refine evIte (fun _ => Ev.now _) (fun hc => ?_)
  obtain ⟨ha, hb, ht⟩ := h (by simpa using hc)
  refine Ev.bind (ref_good o one two) (Ev.bind (Ev.now _) (evPos (by simp; omega) ?_))
  have e0 : ([] : List Int) ++ two = two := rfl
  rw [e0]
  refine Ev.bind (lsf_decode o one two) (Ev.bind (lsf_good o one two) (evNeg (by simp) ?_))
  by_cases hg : goodB o one two = true
  · rw [hg]
    refine evNeg (by simp) (evPos rfl (Ev.bind (ref_decode o one two hg) (Ev.bind (same6 _ _ ?_) ?_)))
    · obtain ⟨ho, h0, h1, h2, h3⟩ := goodB_iff.1 hg
      have hcl : (changed o (lsfL o one) two).length ≤ 64 := by simp [changed, lsfL_length]; omega
      have := steady_length hcl
      show (steady _).length ≤ _
      omega
    · rw [if_pos rfl]
      simp only [decide_true, Bool.not_true]
      exact says_j1 o a b w ha hb
  · have hg2 : goodB o one two = false := by simpa using hg
    rw [hg2]
    refine evNeg (by simp) (evNeg (by simp) (evPos rfl (evPos rfl ?_)))
    exact says_j1 o a b w ha hb
theorem LsfSays : madrigallaw6_LsfSays.Pure := by
  intro o one two a b w _ _ _ _ _ _ _ _ _ _ _
  refine Ev.rounds (Ev.congr (fun k => by rw [madrigallaw6_LsfSays.f]) (Ev.bind awake6 (evPos rfl ?_)))
  refine evIte (fun _ => says_j0 _ _ _ _ _ _ _ (by simp)) (fun h1 => ?_)
  refine evIte (fun _ => says_j0 _ _ _ _ _ _ _ (by simp)) (fun h2 => ?_)
  refine says_j0 _ _ _ _ _ _ _ (fun h => ?_)
  simp at h
  omega
end Go.Proofs.Ytdchabinakboeaa.Pure
