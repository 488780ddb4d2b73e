/- Powers of two, of 256ths, as the program and as the document's own answer tell them: each of the 7936 looked at. -/
import Derived.Test.YtlhdoopmlpnhlaaQClamp
import Derived.Test.YtlhdoopmlpnhlaaPx11
import Derived.KernelRfl
import Derived.Test.YtlhdoopmlpnhlaaQRef1
import Derived.Test.YtlhdoopmlpnhlaaPx22
namespace Go.Proofs.Ytlhdoopmlpnhlaa.Q
open Go.RowKit Go.Proofs.Ytlhdoopmlpnhlaa.P Go.Proofs.YtlhdoopmlpnhlaaW.PrintWords Go.Proofs.YtlhdoopmlpnhlaaW.PrintLast Go.Proofs.YtlhdoopmlpnhlaaW.PrintMore
open Go.Proofs.Ytlhdoopmlpnhlaa.M
set_option linter.unusedVariables false

def expS (f i c r : Nat) : Nat := cond (Nat.beq (f / 2 ^ (7 - i) % 2) 1) ((r * c + 536870912) / 1073741824) r
def expF (f : Nat) : Nat := expS f 7 1076653033 (expS f 6 1079572136 (expS f 5 1085434106 (expS f 4 1097253708 (expS f 3 1121280436 (expS f 2 1170923762 (expS f 1 1276901417 (expS f 0 1518500250 1073741824)))))))
def expN (q : Nat) : Nat := cond (Nat.beq (q / 256) 30) (expF (q % 256)) ((expF (q % 256) + 2 ^ (29 - q / 256)) / 2 ^ (30 - q / 256))
/-- Does it hold of all below? -/
def upto (p : Nat → Bool) : Nat → Bool
  | 0 => true
  | n + 1 => cond (p n) (upto p n) false
theorem upto_at {p : Nat → Bool} : ∀ {n : Nat}, upto p n = true → ∀ i, i < n → p i = true
  | 0, _, i, hi => by omega
  | n + 1, h, i, hi => by
    unfold upto at h
    cases hp : p n with
    | false => rw [hp] at h; simp at h
    | true =>
      rw [hp] at h
      by_cases e : i = n
      · rw [e]; exact hp
      · exact upto_at (by simpa using h) i (by omega)
theorem exp_all : upto (fun n => fix_Exp2.f 30 (n : Int) == some (expN n : Int)) 7936 = true := by kernel_rfl
theorem exp_rises : upto (fun n => Nat.ble (expN n) (expN (n + 1))) 7935 = true := by kernel_rfl
/-- A power of two. -/
def exp2 (q : Int) : Int := (expN (clamp q 0 7935).toNat : Int)
theorem ev_unbind {α β : Type} {a : Nat → Option α} {g : Nat → α → Option β} {x : α} {r : β} (h : Ev (fun k => (a k).bind (g k)) r) (ha : Ev a x) : Ev (fun k => g k x) r := by
  obtain ⟨K, h⟩ := h
  obtain ⟨L, ha⟩ := ha
  refine ⟨K + L, fun k hk => ?_⟩
  have h1 : (a k).bind (g k) = some r := h k (by omega)
  rw [ha k (by omega)] at h1
  exact h1
theorem fix_exp2 (q : Int) : Ev (fun k => fix_Exp2.f k q) (exp2 q) := by
  have hc := clamp_bounds (a := q) (lo := 0) (hi := 7935) (by omega)
  have h := upto_at exp_all (clamp q 0 7935).toNat (by omega)
  have e : (((clamp q 0 7935).toNat : Nat) : Int) = clamp q 0 7935 := Int.toNat_of_nonneg hc.1
  rw [e] at h
  have h2 : Ev (fun k => fix_Exp2.f k (clamp q 0 7935)) (exp2 q) := Ev.of (fix_Exp2.mono _) (eq_of_beq h)
  have h3 := ev_unbind (Ev.congr (fun k => by rw [fix_Exp2.f]) h2 : Ev (fun k => (fix_Clamp.f k (clamp q 0 7935) 0 7935).bind fun t133 => (fix_Exp2.l0 k (t133 / 256) (Go.bits .and .i64 t133 255) 1073741824 0)) (exp2 q)) (evEq (fix_clamp _ _ _) (clamp_id hc.1 hc.2))
  exact Ev.congr (fun k => by rw [fix_Exp2.f]) (Ev.bind (fix_clamp q 0 7935) h3)
theorem expN_mono {a : Nat} : ∀ {b : Nat}, a ≤ b → b ≤ 7935 → expN a ≤ expN b
  | 0, h, _ => by have e : a = 0 := by omega
                  rw [e]; exact Nat.le_refl _
  | b + 1, h, hb => by
    by_cases e : a = b + 1
    · rw [e]; exact Nat.le_refl _
    · exact Nat.le_trans (expN_mono (by omega) (by omega)) (Nat.le_of_ble_eq_true (upto_at exp_rises b (by omega)))
theorem exp2_mono {a b : Int} (h : a ≤ b) : exp2 a ≤ exp2 b := by
  have ha := clamp_bounds (a := a) (lo := 0) (hi := 7935) (by omega)
  have hb := clamp_bounds (a := b) (lo := 0) (hi := 7935) (by omega)
  have hm : clamp a 0 7935 ≤ clamp b 0 7935 := by
    unfold clamp; repeat' split
    all_goals omega
  have := expN_mono (a := (clamp a 0 7935).toNat) (b := (clamp b 0 7935).toNat) (by omega) (by omega)
  unfold exp2
  omega
end Go.Proofs.Ytlhdoopmlpnhlaa.Q
namespace Go.Proofs.Ytlhdoopmlpnhlaa.Q
open Go.RowKit Go.Proofs.Ytlhdoopmlpnhlaa.P Go.Proofs.YtlhdoopmlpnhlaaW.PrintWords Go.Proofs.YtlhdoopmlpnhlaaW.PrintLast Go.Proofs.YtlhdoopmlpnhlaaW.PrintMore
open Go.Proofs.Ytlhdoopmlpnhlaa.M
set_option linter.unusedVariables false

theorem refexp_a : upto (fun n => madrigalref1_Exp2.f 30 (n : Int) == some (expN n : Int)) 2000 = true := by kernel_rfl
theorem refexp_b : upto (fun n => madrigalref1_Exp2.f 30 ((2000 + n : Nat) : Int) == some (expN (2000 + n) : Int)) 2000 = true := by kernel_rfl
theorem refexp_c : upto (fun n => madrigalref1_Exp2.f 30 ((4000 + n : Nat) : Int) == some (expN (4000 + n) : Int)) 2000 = true := by kernel_rfl
theorem refexp_d : upto (fun n => madrigalref1_Exp2.f 30 ((6000 + n : Nat) : Int) == some (expN (6000 + n) : Int)) 1936 = true := by kernel_rfl
theorem refexp_all (n : Nat) (h : n < 7936) : madrigalref1_Exp2.f 30 (n : Int) = some (expN n : Int) := by
  by_cases h1 : n < 2000
  · exact eq_of_beq (upto_at refexp_a n h1)
  · by_cases h2 : n < 4000
    · have h := eq_of_beq (upto_at refexp_b (n - 2000) (by omega))
      rw [show 2000 + (n - 2000) = n by omega] at h; exact h
    · by_cases h3 : n < 6000
      · have h := eq_of_beq (upto_at refexp_c (n - 4000) (by omega))
        rw [show 4000 + (n - 4000) = n by omega] at h; exact h
      · have h := eq_of_beq (upto_at refexp_d (n - 6000) (by omega))
        rw [show 6000 + (n - 6000) = n by omega] at h; exact h
theorem ref_exp2 (q : Int) : Ev (fun k => madrigalref1_Exp2.f k q) (exp2 q) := by
  have hc := clamp_bounds (a := q) (lo := 0) (hi := 7935) (by omega)
  have h := refexp_all (clamp q 0 7935).toNat (by omega)
  have e : (((clamp q 0 7935).toNat : Nat) : Int) = clamp q 0 7935 := Int.toNat_of_nonneg hc.1
  rw [e] at h
  have h2 : Ev (fun k => madrigalref1_Exp2.f k (clamp q 0 7935)) (exp2 q) := Ev.of (madrigalref1_Exp2.mono _) h
  have h3 := ev_unbind (Ev.congr (fun k => by rw [madrigalref1_Exp2.f]) h2 : Ev (fun k => (madrigalref1_Clamp.f k (clamp q 0 7935) 0 7935).bind fun t177 => (madrigalref1_Exp2.l0 k t177 (([1518500250, 1276901417, 1170923762, 1121280436, 1097253708, 1085434106, 1079572136, 1076653033] : List Int)) 1073741824 0)) (exp2 q)) (evEq (ref_clamp _ _ _) (clamp_id hc.1 hc.2))
  exact Ev.congr (fun k => by rw [madrigalref1_Exp2.f]) (Ev.bind (ref_clamp q 0 7935) h3)
end Go.Proofs.Ytlhdoopmlpnhlaa.Q
