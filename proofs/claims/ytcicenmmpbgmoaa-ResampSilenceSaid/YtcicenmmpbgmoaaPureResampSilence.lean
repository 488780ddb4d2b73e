/- Silence stays silence; a sound with its signs turned comes out with its signs turned, within 1: for all rates and sounds that the statement speaks of. -/
import Derived.Test.YtcicenmmpbgmoaaPx30
import Derived.Test.YtcicenmmpbgmoaaQAwake22
import Derived.Test.YtcicenmmpbgmoaaQSame22
import Derived.Test.YtcicenmmpbgmoaaQRun22
namespace Go.Proofs.Ytcicenmmpbgmoaa.Pure
open Go.RowKit Go.Proofs.Ytcicenmmpbgmoaa.P Go.Proofs.YtcicenmmpbgmoaaW.PrintWords Go.Proofs.YtcicenmmpbgmoaaW.PrintLast Go.Proofs.YtcicenmmpbgmoaaW.PrintMore Go.Proofs.Ytcicenmmpbgmoaa.Q Go.Proofs.Ytcicenmmpbgmoaa.M
set_option linter.unusedVariables false

theorem part22_neg {f z z' : List Int} {b : Nat} : ∀ n : Nat, (∀ i, z'.getD i 0 = -z.getD i 0) → part22 f z' b n - 16384 = -(part22 f z b n - 16384)
  | 0, _ => by simp [part22]
  | n + 1, h => by
    have ih := part22_neg (f := f) (b := b) n h
    simp only [part22]
    rw [h, Int.mul_neg]
    omega
theorem part22_zero {f : List Int} {N b : Nat} : ∀ n : Nat, part22 f (List.replicate N 0) b n = 16384
  | 0 => rfl
  | n + 1 => by
    simp only [part22]
    rw [part22_zero n]
    have e : (List.replicate N (0 : Int)).getD (b + 1 + n) 0 = 0 := by
      rw [List.getD_eq_getElem?_getD, List.getElem?_replicate]
      split <;> rfl
    rw [e]
    omega
theorem sil_l1 (u v : List Int) (hu : u.length ≤ 1000000) (hv : v.length = u.length) (h : ∀ i, -32768 ≤ u.getD i 0 ∧ u.getD i 0 ≤ 32767 ∧ -32768 ≤ v.getD i 0 ∧ v.getD i 0 ≤ 32767 ∧ ((-1 ≤ u.getD i 0 + v.getD i 0 ∧ u.getD i 0 + v.getD i 0 ≤ 1) ∨ 32767 ≤ u.getD i 0 ∨ 32767 ≤ v.getD i 0)) :
    ∀ n i : Nat, i + n = u.length → Ev (fun k => madrigallaw22_ResampSilence.l1 k u v (i : Int)) true := by
  intro n
  induction n with
  | zero =>
    intro i hi
    exact Ev.step (fun k => by rw [madrigallaw22_ResampSilence.l1]) (evNeg (by omega) (evConst rfl))
  | succ n ih =>
    intro i hi
    refine Ev.step (fun k => by rw [madrigallaw22_ResampSilence.l1]) (evPos (by omega) (evPos (by omega) (evPos (by omega) ?_)))
    have hn := ih (i + 1) (by omega)
    have hn : Ev (fun k => madrigallaw22_ResampSilence.l1 k u v ((i : Int) + 1)) true := by simpa using hn
    rw [rd_nat, rd_nat, w64 (x := (i : Int) + 1) (by omega) (by omega)]
    obtain ⟨h1, h2, h3, h4, h5⟩ := h i
    generalize u.getD i 0 = p at *
    generalize v.getD i 0 = q at *
    rw [w64 (x := p + q) (by omega) (by omega)]
    refine evIte (fun hc => ?_) fun hc => evIte (fun hc2 => ?_) fun _ => hn
    · by_cases hp : p < 32767
      · exact evPos hp (evNeg (by omega) hn)
      · exact evNeg hp hn
    · by_cases hp : p < 32767
      · exact evPos hp (evNeg (by omega) hn)
      · exact evNeg hp hn
def neg22 (x : List Int) : List Int := x.map fun v => -v
theorem sil_l0 (a b : Int) (x : List Int) (hx : x.length ≤ 1000000) (H : (∀ v ∈ x, -30000 ≤ v ∧ v ≤ 30000) → Ev (fun k => madrigallaw22_ResampSilence.l0 k a b x (neg22 x) (x.length : Int)) true) :
    ∀ (n : Nat) (S A : List Int), S.length = n → x = A ++ S → (∀ v ∈ A, -30000 ≤ v ∧ v ≤ 30000) → Ev (fun k => madrigallaw22_ResampSilence.l0 k a b x (neg22 A) (A.length : Int)) true := by
  intro n
  induction n with
  | zero =>
    intro S A hn he hA
    have e1 : S = [] := List.eq_nil_of_length_eq_zero hn
    subst e1
    obtain rfl : x = A := by simpa using he
    exact H hA
  | succ n ih =>
    intro S A hn he hA
    cases S with
    | nil => simp at hn
    | cons s S =>
      simp at hn
      have hlx : x.length = A.length + S.length + 1 := by rw [he]; simp; omega
      refine Ev.step (fun k => by rw [madrigallaw22_ResampSilence.l0]) (evPos (by omega) (evPos (by omega) ?_))
      have e3 : rd x (A.length : Int) = s := by rw [he]; exact rd_mid _ _ _ _ rfl
      rw [e3]
      refine evIte (fun _ => evConst rfl) fun h1 => evIte (fun _ => evConst rfl) fun h2 => evPos (by simp [neg22]; omega) ?_
      rw [w64 (x := -s) (by omega) (by omega), w64 (x := (A.length : Int) + 1) (by omega) (by omega)]
      have := ih S (A ++ [s]) (by omega) (by simpa using he) (by
        intro v hv
        rcases List.mem_append.mp hv with h | h
        · exact hA v h
        · obtain rfl : v = s := by simpa using h
          omega)
      have e4 : neg22 (A ++ [s]) = neg22 A ++ [-s] := by simp [neg22]
      rw [e4] at this
      simpa using this
theorem sats22_id {x : List Int} (h : ∀ v ∈ x, -30000 ≤ v ∧ v ≤ 30000) : sats22 x = x := by
  unfold sats22
  have : x.map (fun v => clamp v (-32768) 32767) = x.map id := List.map_congr_left fun v hv => clamp_id (by have := h v hv; omega) (by have := h v hv; omega)
  rw [this, List.map_id]
theorem res22_getD {l m : Nat} {flt : Nat → List Int} {z : List Int} {n i : Nat} : (res22 l m flt z n).getD i 0 = if i < n then clamp (part22 (flt (i * m % l)) z (i * m / l) 16 / 32768) (-32768) 32767 else 0 := by
  rw [List.getD_eq_getElem?_getD]
  unfold res22
  rw [List.getElem?_map]
  by_cases h : i < n
  · rw [List.getElem?_range h, if_pos h]
    rfl
  · rw [List.getElem?_eq_none (by simpa using h), if_neg h]
    rfl
theorem ResampSilence : madrigallaw22_ResampSilence.Pure := by
  intro a b x0 _ _ _ _ _
  have hyes : Ev (fun k => madrigallaw22_ResampSilence.j0 k a b x0 true) true := Ev.step (fun k => by rw [madrigallaw22_ResampSilence.j0]) (evPos rfl (evConst rfl))
  refine Ev.rounds (Ev.congr (fun k => by rw [madrigallaw22_ResampSilence.f]) (Ev.bind awakeEv22 (evPos rfl (Ev.bind (evConst (known22 a)) ?_))))
  refine evIte (fun ha => ?_) (fun _ => hyes)
  have ha : a ∈ rates22 := of_decide_eq_true ha
  refine Ev.bind (evConst (known22 b)) (evIte (fun hb => ?_) (fun _ => hyes))
  have hb : b ∈ rates22 := of_decide_eq_true hb
  by_cases hx0 : (x0.length : Int) > 300
  · rw [decide_eq_true hx0]; exact hyes
  rw [decide_eq_false hx0]
  obtain ⟨l, m, flt, R⟩ := rates22_ex ha hb
  have hl := R.l1
  have hl6 := R.l6
  have hm := R.m1
  refine Ev.step (fun k => by rw [madrigallaw22_ResampSilence.j0]) (evNeg (by simp) (Ev.bind R.refparts ?_))
  refine evNeg (show ¬ (m : Int) = 0 by omega) ?_
  obtain ⟨c, hc⟩ : ∃ c, c = x0.length / m := ⟨_, rfl⟩
  have hcx : c * m ≤ x0.length := by rw [hc]; exact Nat.div_mul_le_self _ _
  have hc6 : c ≤ 300 := by
    have : c ≤ c * m := Nat.le_mul_of_pos_right c hm
    omega
  have e1 : wrap64 (wrap64 ((x0.length : Int) / (m : Int)) * (m : Int)) = ((c * m : Nat) : Int) := by
    have e : (x0.length : Int) / (m : Int) = (c : Int) := by rw [hc]; simp
    rw [e, w64 (x := (c : Int)) (by omega) (by omega)]
    have e3 : (c : Int) * (m : Int) = ((c * m : Nat) : Int) := by simp
    rw [e3, w64 (by omega) (by omega)]
  simp only [e1, Int.toNat_natCast]
  refine evPos (by omega) (evPos (by omega) ?_)
  obtain ⟨x, hx⟩ : ∃ x, x = x0.take (c * m) := ⟨_, rfl⟩
  have hxl : x.length = c * m := by rw [hx]; simp; omega
  rw [← hx]
  have hcl : c * l ≤ 1800 := Nat.le_trans (Nat.mul_le_mul hc6 hl6) (by decide)
  refine sil_l0 a b x (by omega) ?_ x.length x [] rfl (by simp) (by simp)
  intro hr
  refine Ev.step (fun k => by rw [madrigallaw22_ResampSilence.l0]) (evNeg (by omega) ?_)
  refine evPos (by rw [good22]; simp [ha, hb]) ?_
  simp only [new22 ha hb, Option.bind_some]
  have hnl : (neg22 x).length = x.length := by simp [neg22]
  have hnr : ∀ v ∈ neg22 x, -30000 ≤ v ∧ v ≤ 30000 := by
    intro v hv
    obtain ⟨u, hu, rfl⟩ := List.mem_map.mp hv
    have := hr u hu
    omega
  have n0 : x.length / m = c := by rw [hxl, Nat.mul_div_cancel _ hm]
  have hxm : x.length % m = 0 := by rw [hxl]; exact Nat.mul_mod_left _ _
  have r0 := run22 R (x := x) (kept := List.replicate 16 0) (by omega) hxm (by simp) (in16_zeros 16)
  rw [n0, sats22_id hr] at r0
  refine Ev.bind r0 ?_
  have r1 := run22 R (x := neg22 x) (kept := List.replicate 16 0) (by omega) (by rw [hnl]; exact hxm) (by simp) (in16_zeros 16)
  rw [hnl, n0, sats22_id hnr] at r1
  refine Ev.bind r1 ?_
  refine evPos (by omega) (evPos (by rw [Int.toNat_natCast]; omega) ?_)
  have r2 := run22 R (x := List.replicate x.length 0) (kept := List.replicate 16 0) (by simp; omega) (by simpa using hxm) (by simp) (in16_zeros 16)
  rw [Int.toNat_natCast]
  refine Ev.bind r2 ?_
  rw [List.length_replicate, n0]
  have hlen : ∀ z, (res22 l m flt z (c * l)).length = c * l := fun z => by simp [res22]
  refine evPos (by simp only [hlen]) (evPos (by omega) (evPos (by rw [Int.toNat_natCast, hlen]; omega) ?_))
  simp only [hlen, Int.toNat_natCast]
  have hz : res22 l m flt (List.replicate 16 0 ++ sats22 (List.replicate x.length 0)) (c * l) = List.replicate (c * l) 0 := by
    have e : List.replicate 16 0 ++ sats22 (List.replicate x.length 0) = List.replicate (16 + x.length) (0 : Int) := by
      unfold sats22
      rw [List.map_replicate, clamp_id (by omega) (by omega), List.replicate_append_replicate]
    rw [e, List.eq_replicate_iff]
    refine ⟨hlen _, fun v hv => ?_⟩
    unfold res22 at hv
    obtain ⟨j, _, rfl⟩ := List.mem_map.mp hv
    rw [part22_zero]
    decide
  rw [hz]
  refine Ev.bind (same22 _ _ (by simp; omega)) ?_
  refine Ev.step (fun k => by rw [madrigallaw22_ResampSilence.j2]) (evNeg (by simp) ?_)
  refine sil_l1 _ _ (by rw [hlen]; omega) (by rw [hlen, hlen]) ?_ _ 0 (Nat.zero_add _)
  intro i
  rw [res22_getD, res22_getD]
  by_cases hi : i < c * l
  · rw [if_pos hi, if_pos hi]
    have hneg : ∀ i, (List.replicate 16 0 ++ neg22 x).getD i 0 = -(List.replicate 16 0 ++ x).getD i 0 := by
      intro i
      rw [List.getD_eq_getElem?_getD, List.getD_eq_getElem?_getD]
      by_cases h : i < 16
      · rw [List.getElem?_append_left (by simpa using h), List.getElem?_append_left (by simpa using h), List.getElem?_replicate, if_pos h]
        rfl
      · rw [List.getElem?_append_right (by simpa using h), List.getElem?_append_right (by simpa using h), List.length_replicate]
        unfold neg22
        rw [List.getElem?_map]
        cases x[i - 16]? <;> rfl
    have hp := part22_neg (f := flt (i * m % l)) (b := i * m / l) 16 hneg
    have b1 := clamp_bounds (a := part22 (flt (i * m % l)) (List.replicate 16 0 ++ x) (i * m / l) 16 / 32768) (show (-32768 : Int) ≤ 32767 by omega)
    have b2 := clamp_bounds (a := part22 (flt (i * m % l)) (List.replicate 16 0 ++ neg22 x) (i * m / l) 16 / 32768) (show (-32768 : Int) ≤ 32767 by omega)
    refine ⟨b1.1, b1.2, b2.1, b2.2, ?_⟩
    clear b1 b2
    generalize part22 (flt (i * m % l)) (List.replicate 16 0 ++ x) (i * m / l) 16 = p at *
    generalize part22 (flt (i * m % l)) (List.replicate 16 0 ++ neg22 x) (i * m / l) 16 = q at *
    unfold clamp
    repeat' split
    all_goals omega
  · rw [if_neg hi, if_neg hi]
    omega
end Go.Proofs.Ytcicenmmpbgmoaa.Pure
