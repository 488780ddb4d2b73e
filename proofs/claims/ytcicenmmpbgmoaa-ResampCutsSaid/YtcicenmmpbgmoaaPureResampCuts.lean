/- A sound that is cut in two, at a multiple of M, comes to the same; there are L samples for each M: for all rates, sounds and places that the statement speaks of. -/
import Derived.Test.YtcicenmmpbgmoaaPx28
import Derived.Test.YtcicenmmpbgmoaaQAwake22
import Derived.Test.YtcicenmmpbgmoaaQSame22
import Derived.Test.YtcicenmmpbgmoaaQRun22
namespace Go.Proofs.Ytcicenmmpbgmoaa.Pure
open Go.RowKit Go.Proofs.Ytcicenmmpbgmoaa.P Go.Proofs.YtcicenmmpbgmoaaW.PrintWords Go.Proofs.YtcicenmmpbgmoaaW.PrintLast Go.Proofs.YtcicenmmpbgmoaaW.PrintMore Go.Proofs.Ytcicenmmpbgmoaa.Q Go.Proofs.Ytcicenmmpbgmoaa.M
set_option linter.unusedVariables false

theorem part22_congr {f z z' : List Int} {b b' : Nat} : ∀ n : Nat, (∀ t, t < n → z.getD (b + 1 + t) 0 = z'.getD (b' + 1 + t) 0) → part22 f z b n = part22 f z' b' n
  | 0, _ => rfl
  | n + 1, h => by
    simp only [part22]
    rw [part22_congr n fun t ht => h t (by omega), h n (by omega)]
theorem res22_cut {a b : Int} {l m : Nat} {flt : Nat → List Int} (R : Rates22 a b l m flt) (K x1 x2 : List Int) (q c : Nat) (hK : K.length = 16) (h1 : x1.length = q * m) :
    res22 l m flt (K ++ sats22 (x1 ++ x2)) ((q + c) * l) = res22 l m flt (K ++ sats22 x1) (q * l) ++ res22 l m flt ((K ++ sats22 x1).drop x1.length ++ sats22 x2) (c * l) := by
  have hl := R.l1
  have hm := R.m1
  have es : sats22 (x1 ++ x2) = sats22 x1 ++ sats22 x2 := by simp [sats22]
  have el : (sats22 x1).length = x1.length := by simp [sats22]
  rw [es, ← List.append_assoc]
  unfold res22
  rw [Nat.add_mul, List.range_add, List.map_append, List.map_map]
  congr 1
  · refine List.map_congr_left fun j hj => ?_
    have hj : j < q * l := List.mem_range.mp hj
    have hd : j * m / l < x1.length := by
      rw [h1, Nat.div_lt_iff_lt_mul hl]
      calc j * m < q * l * m := Nat.mul_lt_mul_of_pos_right hj hm
        _ = q * m * l := by rw [Nat.mul_assoc, Nat.mul_comm (l), ← Nat.mul_assoc]
    congr 2
    refine part22_congr 16 fun t ht => ?_
    rw [List.getD_eq_getElem?_getD, List.getD_eq_getElem?_getD, List.getElem?_append_left (by simp only [List.length_append]; omega)]
  · refine List.map_congr_left fun j hj => ?_
    have e0 : (q * l + j) * m = j * m + l * (q * m) := by
      rw [Nat.add_mul, Nat.add_comm, Nat.mul_comm q, Nat.mul_assoc]
    have e1 : (q * l + j) * m % l = j * m % l := by rw [e0, Nat.add_mul_mod_self_left]
    have e2 : (q * l + j) * m / l = j * m / l + x1.length := by rw [e0, Nat.add_mul_div_left _ _ hl, h1]
    show clamp (part22 (flt ((q * l + j) * m % l)) _ ((q * l + j) * m / l) 16 / 32768) (-32768) 32767 = _
    rw [e1, e2]
    congr 2
    refine part22_congr 16 fun t ht => ?_
    have e3 : (K ++ sats22 x1).drop x1.length ++ sats22 x2 = (K ++ sats22 x1 ++ sats22 x2).drop x1.length := by
      exact (List.drop_append_of_le_length (by simp only [List.length_append]; omega)).symm
    rw [e3, List.getD_eq_getElem?_getD, List.getD_eq_getElem?_getD, List.getElem?_drop]
    congr 2
    omega
theorem ResampCuts : madrigallaw22_ResampCuts.Pure := by
  intro a b x cut _ _ _ _ _ hcut
  have hyes : Ev (fun k => madrigallaw22_ResampCuts.j0 k a b x cut true) true := Ev.step (fun k => by rw [madrigallaw22_ResampCuts.j0]) (evPos rfl (evConst rfl))
  refine Ev.rounds (Ev.congr (fun k => by rw [madrigallaw22_ResampCuts.f]) (Ev.bind awakeEv22 (evPos rfl (Ev.bind (evConst (known22 a)) ?_))))
  refine evIte (fun ha => ?_) (fun _ => hyes)
  have ha : a ∈ rates22 := of_decide_eq_true ha
  refine Ev.bind (evConst (known22 b)) ?_
  refine evIte (fun hb => ?_) (fun _ => hyes)
  have hb : b ∈ rates22 := of_decide_eq_true hb
  by_cases hx : (x.length : Int) > 600
  · rw [decide_eq_true hx]; exact hyes
  rw [decide_eq_false hx]
  obtain ⟨l, m, flt, R⟩ := rates22_ex ha hb
  have hl := R.l1
  have hl6 := R.l6
  have hm := R.m1
  refine Ev.step (fun k => by rw [madrigallaw22_ResampCuts.j0]) (evNeg (by simp) (Ev.bind R.refparts ?_))
  refine evNeg (show ¬ ((m : Nat) : Int) = 0 by omega) ?_
  obtain ⟨c, hc⟩ : ∃ c, c = x.length / m := ⟨_, rfl⟩
  have hcx : c * m ≤ x.length := by rw [hc]; exact Nat.div_mul_le_self _ _
  have hc6 : c ≤ 600 := by
    have : c ≤ c * m := Nat.le_mul_of_pos_right c hm
    omega
  have e1 : wrap64 (wrap64 ((x.length : Int) / ((m : Nat) : Int)) * ((m : Nat) : Int)) = ((c * m : Nat) : Int) := by
    have e : (x.length : Int) / ((m : Nat) : Int) = (c : Int) := by rw [hc]; simp
    rw [e, w64 (x := (c : Int)) (by omega) (by omega)]
    have e3 : (c : Int) * ((m : Nat) : Int) = ((c * m : Nat) : Int) := by simp
    rw [e3, w64 (by omega) (by omega)]
  simp only [e1, Int.toNat_natCast]
  refine evPos (by omega) (evPos (by omega) ?_)
  simp only [Option.bind_some]
  obtain ⟨y, hy⟩ : ∃ y, y = x.take (c * m) := ⟨_, rfl⟩
  have hyl : y.length = c * m := by rw [hy]; simp; omega
  rw [← hy]
  have hyes1 : Ev (fun k => madrigallaw22_ResampCuts.j1 k a b y cut ((l : Nat) : Int) ((m : Nat) : Int) true) true := Ev.step (fun k => by rw [madrigallaw22_ResampCuts.j1]) (evPos rfl (evConst rfl))
  refine evIte (fun _ => hyes1) (fun h0 => ?_)
  have e2 : wrap64 ((y.length : Int) / ((m : Nat) : Int)) = (c : Int) := by
    have e : (y.length : Int) / ((m : Nat) : Int) = ((y.length / m : Nat) : Int) := by simp
    rw [e, hyl, Nat.mul_div_cancel _ hm, w64 (by omega) (by omega)]
  rw [e2]
  by_cases hq : cut > (c : Int)
  · rw [decide_eq_true hq]; exact hyes1
  rw [decide_eq_false hq]
  obtain ⟨q, rfl⟩ : ∃ q : Nat, cut = q := ⟨cut.toNat, by omega⟩
  obtain ⟨d, rfl⟩ : ∃ d, c = q + d := ⟨c - q, by omega⟩
  have e3 : wrap64 ((q : Int) * ((m : Nat) : Int)) = ((q * m : Nat) : Int) := by
    have e : (q : Int) * ((m : Nat) : Int) = ((q * m : Nat) : Int) := by simp
    have : q * m ≤ (q + d) * m := Nat.mul_le_mul_right _ (by omega)
    rw [e, w64 (by omega) (by omega)]
  have hqm : q * m ≤ y.length := by rw [hyl]; exact Nat.mul_le_mul_right _ (by omega)
  obtain ⟨x1, hx1⟩ : ∃ x1, x1 = y.take (q * m) := ⟨_, rfl⟩
  obtain ⟨x2, hx2⟩ : ∃ x2, x2 = y.drop (q * m) := ⟨_, rfl⟩
  have hy12 : y = x1 ++ x2 := by rw [hx1, hx2, List.take_append_drop]
  have hl1 : x1.length = q * m := by rw [hx1]; simp; omega
  have hxy2 : x2.length ≤ y.length := by rw [hx2]; simp
  have hl2 : x2.length = d * m := by rw [hx2, List.length_drop, hyl, Nat.add_mul]; omega
  refine Ev.step (fun k => by rw [madrigallaw22_ResampCuts.j1]) (evNeg (by simp) (evPos (by rw [good22]; simp [ha, hb]) ?_))
  simp only [new22 ha hb, Option.bind_some]
  have hq6 : q * l ≤ 3600 := Nat.le_trans (Nat.mul_le_mul (Nat.le_trans (Nat.le_add_right q d) hc6) hl6) (by decide)
  have hd6 : d * l ≤ 3600 := Nat.le_trans (Nat.mul_le_mul (Nat.le_trans (Nat.le_add_left d q) hc6) hl6) (by decide)
  have r0 := run22 R (x := y) (kept := List.replicate 16 0) (by omega) (by rw [hyl]; exact Nat.mul_mod_left _ _) (by simp) (in16_zeros 16)
  refine Ev.bind r0 ?_
  simp only [e3, Int.toNat_natCast]
  refine evPos (by omega) (evPos (by omega) ?_)
  rw [← hx1, ← hx2]
  have r1 := run22 R (x := x1) (kept := List.replicate 16 0) (by omega) (by rw [hl1]; exact Nat.mul_mod_left _ _) (by simp) (in16_zeros 16)
  refine Ev.bind r1 ?_
  have r2 := run22 R (x := x2) (kept := (List.replicate 16 0 ++ sats22 x1).drop x1.length) (by omega) (by rw [hl2]; exact Nat.mul_mod_left _ _) (by rw [List.length_drop, List.length_append, List.length_replicate]; simp only [sats22, List.length_map]; omega) (in16_drop (in16_app (in16_zeros 16) (in16_sats x1)) _)
  refine Ev.bind r2 ?_
  have n0 : y.length / m = q + d := by rw [hyl, Nat.mul_div_cancel _ hm]
  have n1 : x1.length / m = q := by rw [hl1, Nat.mul_div_cancel _ hm]
  have n2 : x2.length / m = d := by rw [hl2, Nat.mul_div_cancel _ hm]
  rw [n0, n1, n2]
  have hcutres := res22_cut R (List.replicate 16 0) x1 x2 q d (by simp) hl1
  have g1 : (res22 l m flt (List.replicate 16 0 ++ sats22 x1) (q * l)).length = q * l := by simp [res22]
  have g2 : (res22 l m flt ((List.replicate 16 0 ++ sats22 x1).drop x1.length ++ sats22 x2) (d * l)).length = d * l := by simp [res22]
  refine evPos (by rw [g1, g2]; omega) ?_
  rw [hy12, hcutres]
  refine Ev.bind (same22 _ _ (by rw [List.length_append, g1, g2]; omega)) (evPos (by simp) ?_)
  have hk : (List.replicate 16 0 ++ sats22 (x1 ++ x2)).drop (x1 ++ x2).length = ((List.replicate 16 0 ++ sats22 x1).drop x1.length ++ sats22 x2).drop x2.length := by
    have es : sats22 (x1 ++ x2) = sats22 x1 ++ sats22 x2 := by simp [sats22]
    rw [es, ← List.append_assoc, List.length_append, ← List.drop_drop, List.drop_append_of_le_length (i := x1.length) (by rw [List.length_append, List.length_replicate]; simp only [sats22, List.length_map]; omega)]
  rw [hk]
  simp only [resamp_Sampler_Same.f, Option.bind_some, decide_true, Bool.and_self, if_true]
  refine evNeg (show ¬ ((m : Nat) : Int) = 0 by omega) (evConst ?_)
  rw [← hy12, e2, List.length_append, g1, g2]
  have e4 : (((q + d : Nat) : Int) * ((l : Nat) : Int)) = ((q * l + d * l : Nat) : Int) := by
    push_cast
    rw [Int.add_mul]
  rw [e4, w64 (by omega) (by omega)]
  simp
end Go.Proofs.Ytcicenmmpbgmoaa.Pure
