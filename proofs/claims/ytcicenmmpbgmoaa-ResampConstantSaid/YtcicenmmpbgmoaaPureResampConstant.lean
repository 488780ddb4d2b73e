/- A constant stays one behind sixteen samples, within 1: for all rates, numbers and lengths that the statement speaks of. -/
import Derived.Test.YtcicenmmpbgmoaaPx29
import Derived.Test.YtcicenmmpbgmoaaQAwake22
import Derived.Test.YtcicenmmpbgmoaaQRun22
import Derived.Test.YtcicenmmpbgmoaaPx27
namespace Go.Proofs.Ytcicenmmpbgmoaa.Pure
open Go.RowKit Go.Proofs.Ytcicenmmpbgmoaa.P Go.Proofs.YtcicenmmpbgmoaaW.PrintWords Go.Proofs.YtcicenmmpbgmoaaW.PrintLast Go.Proofs.YtcicenmmpbgmoaaW.PrintMore Go.Proofs.Ytcicenmmpbgmoaa.Q Go.Proofs.Ytcicenmmpbgmoaa.M
set_option linter.unusedVariables false

theorem ref_sat22 (v : Int) : Ev (fun k => madrigalref1_Sat16.f k v) (clamp v (-32768) 32767) := by
  have h1 : Ev (fun k => madrigalref1_Clamp.f k v (-32768) 32767) (clamp v (-32768) 32767) := by
    refine Ev.congr (fun k => by rw [madrigalref1_Clamp.f]) ?_
    have hj : ∀ c, Ev (fun k => madrigalref1_Clamp.j0 k v (-32768) 32767 c) (if c = true then -32768 else if v > 32767 then 32767 else v) := by
      intro c
      refine Ev.step (fun k => by rw [madrigalref1_Clamp.j0]) (evConst ?_)
      cases c <;> simp <;> split <;> rfl
    refine evIte (fun h => ?_) (fun h => ?_)
    · refine evEq (hj true) ?_
      unfold clamp
      simp [h]
    · refine evEq (hj _) ?_
      unfold clamp
      simp [h]
  refine Ev.congr (fun k => by rw [madrigalref1_Sat16.f]) ?_
  exact Ev.bind h1 (evConst rfl)
def fsum22 (f : List Int) : Nat → Int
  | 0 => 0
  | t + 1 => fsum22 f t + f.getD t 0
theorem fsum22_fold {f : List Int} (h : f.length = 16) : fsum22 f 16 = f.foldl (· + ·) 0 := by
  obtain ⟨a0, a1, a2, a3, a4, a5, a6, a7, a8, a9, a10, a11, a12, a13, a14, a15, rfl⟩ := len16 f h
  simp [fsum22]
theorem part22_const {f z : List Int} {b : Nat} {S : Int} : ∀ n : Nat, (∀ t, t < n → z.getD (b + 1 + t) 0 = S) → part22 f z b n = 16384 + fsum22 f n * S
  | 0, _ => by simp [part22, fsum22]
  | n + 1, h => by
    simp only [part22, fsum22]
    rw [part22_const n fun t ht => h t (by omega), h n (by omega), Int.add_mul, Int.add_assoc]
theorem const_l1 (a b : Int) (l m : Nat) (y : List Int) (S : Int) (hl : 1 ≤ l) (hb : 8000 ≤ b) (ha : 0 ≤ a) (ha2 : a ≤ 48000) (hcr : (l : Int) * a = (m : Int) * b) (hy : y.length ≤ 28800) (hS1 : -32768 ≤ S) (hS2 : S ≤ 32767)
    (hv : ∀ j, j < y.length → 17 ≤ j * m / l → y.getD j 0 = S) : ∀ n i : Nat, i + n = y.length → Ev (fun k => madrigallaw22_ResampConstant.l1 k a b y S (i : Int)) true := by
  intro n
  induction n with
  | zero =>
    intro i hi
    refine Ev.step (fun k => by rw [madrigallaw22_ResampConstant.l1]) (evNeg (by omega) (evConst rfl))
  | succ n ih =>
    intro i hi
    refine Ev.step (fun k => by rw [madrigallaw22_ResampConstant.l1]) (evPos (by omega) (evNeg (by omega) ?_))
    have h0 : 0 ≤ (i : Int) * a := Int.mul_nonneg (by omega) ha
    have h1 : (i : Int) * a ≤ 28800 * 48000 := Int.mul_le_mul (by omega) ha2 ha (by omega)
    have e : Int.tdiv ((i : Int) * a) b = ((i * m / l : Nat) : Int) := by
      rw [Int.tdiv_eq_ediv_of_nonneg h0]
      have e1 : (i : Int) * a / b = ((l : Int) * ((i : Int) * a)) / ((l : Int) * b) := (Int.mul_ediv_mul_of_pos _ _ (by omega)).symm
      have e2 : (l : Int) * ((i : Int) * a) = b * ((i : Int) * (m : Int)) := by
        calc (l : Int) * ((i : Int) * a) = (i : Int) * ((l : Int) * a) := by rw [← Int.mul_assoc, Int.mul_comm (l : Int), Int.mul_assoc]
          _ = (i : Int) * ((m : Int) * b) := by rw [hcr]
          _ = b * ((i : Int) * (m : Int)) := by rw [← Int.mul_assoc, Int.mul_comm]
      rw [e1, e2, Int.mul_comm (l : Int) b, Int.mul_ediv_mul_of_pos _ _ (by omega)]
      simp
    have hd : i * m / l ≤ 1382400000 := by
      have h2 : ((i * m / l : Nat) : Int) ≤ (i : Int) * a := by
        rw [← e, Int.tdiv_eq_ediv_of_nonneg h0]
        exact Int.ediv_le_self _ h0
      omega
    generalize hD : i * m / l = D at *
    rw [w64 (x := (i : Int) * a) (by omega) (by omega), e, w64 (x := (D : Int)) (by omega) (by omega), w64 (x := (i : Int) + 1) (by omega) (by omega)]
    have hn := ih (i + 1) (by omega)
    have hn : Ev (fun k => madrigallaw22_ResampConstant.l1 k a b y S ((i : Int) + 1)) true := by simpa using hn
    refine evIte (fun h => ?_) (fun h => hn)
    have := hv i (by omega) (by omega)
    rw [rd_nat, this]
    refine evPos (by omega) (evNeg ?_ (evNeg ?_ hn))
    · rw [Int.sub_self, w64 (by omega) (by omega)]
      omega
    · rw [Int.sub_self, w64 (by omega) (by omega)]
      omega
theorem const_l0 (a b v n : Int) (m : Nat) (c : Nat) (hc : (c : Int) = wrap64 (n * m)) (hc2 : c ≤ 1000000) (s : Int × Int × List Int)
    (h : Ev (fun k => madrigallaw22_ResampConstant.l0 k a b v n m (List.replicate c v) (c : Int) s.1 s.2.1 s.2.2) true) : ∀ r i : Nat, i + r = c → Ev (fun k => madrigallaw22_ResampConstant.l0 k a b v n m (List.replicate i v) (i : Int) s.1 s.2.1 s.2.2) true := by
  intro r
  induction r with
  | zero =>
    intro i hi
    obtain rfl : i = c := by omega
    exact h
  | succ r ih =>
    intro i hi
    refine Ev.step (fun k => by rw [madrigallaw22_ResampConstant.l0]) (evPos (by omega) (evPos (by simp; omega) ?_))
    rw [w64 (x := (i : Int) + 1) (by omega) (by omega), ← List.replicate_succ']
    have := ih (i + 1) (by omega)
    simpa using this
theorem rates_bounds {a : Int} (h : a ∈ rates22) : 8000 ≤ a ∧ a ≤ 48000 := by
  simp only [rates22, List.mem_cons, List.not_mem_nil, or_false] at h
  omega
theorem ResampConstant : madrigallaw22_ResampConstant.Pure := by
  intro a b v n _ _ _ _
  have hyes : Ev (fun k => madrigallaw22_ResampConstant.j0 k a b v n true) true := Ev.step (fun k => by rw [madrigallaw22_ResampConstant.j0]) (evPos rfl (evConst rfl))
  refine Ev.rounds (Ev.congr (fun k => by rw [madrigallaw22_ResampConstant.f]) (Ev.bind awakeEv22 (evPos rfl (Ev.bind (evConst (known22 a)) ?_))))
  refine evIte (fun ha => ?_) (fun _ => hyes)
  have ha : a ∈ rates22 := of_decide_eq_true ha
  refine Ev.bind (evConst (known22 b)) (evIte (fun hb => ?_) (fun _ => hyes))
  have hb : b ∈ rates22 := of_decide_eq_true hb
  refine evIte (fun _ => hyes) fun h24 => ?_
  by_cases h400 : n > 400
  · rw [decide_eq_true h400]; exact hyes
  rw [decide_eq_false h400]
  obtain ⟨l, m, flt, R⟩ := rates22_ex ha hb
  have hl := R.l1
  have hl6 := R.l6
  have hm := R.m1
  have hm6 := R.m6
  obtain ⟨q, rfl⟩ : ∃ q : Nat, n = q := ⟨n.toNat, by omega⟩
  have hc : q * m ≤ 2400 := Nat.le_trans (Nat.mul_le_mul (show q ≤ 400 by omega) hm6) (by omega)
  refine Ev.step (fun k => by rw [madrigallaw22_ResampConstant.j0]) (evNeg (by simp) (Ev.bind R.refparts ?_))
  refine evPos (by rw [good22]; simp [ha, hb]) ?_
  simp only [new22 ha hb, Option.bind_some]
  have hw : ((q * m : Nat) : Int) = wrap64 ((q : Int) * (m : Int)) := by
    have e : (q : Int) * (m : Int) = ((q * m : Nat) : Int) := by simp
    rw [e, w64 (by omega) (by omega)]
  refine const_l0 a b v q m (q * m) hw (by omega) (a, b, List.replicate 16 0) ?_ (q * m) 0 (by omega)
  refine Ev.step (fun k => by rw [madrigallaw22_ResampConstant.l0]) (evNeg (by omega) (evNeg (by simp; omega) ?_))
  have hrun := run22 R (x := List.replicate (q * m) v) (kept := List.replicate 16 0) (by simp; omega) (by simp) (by simp) (in16_zeros 16)
  refine Ev.bind hrun (evPos rfl (Ev.bind (ref_sat22 v) ?_))
  have hsb := clamp_bounds (a := v) (show (-32768 : Int) ≤ 32767 by omega)
  have hra := rates_bounds ha
  have hrb := rates_bounds hb
  obtain ⟨y, hy⟩ : ∃ y, y = res22 l m flt (List.replicate 16 0 ++ sats22 (List.replicate (q * m) v)) ((List.replicate (q * m) v).length / m * l) := ⟨_, rfl⟩
  rw [← hy]
  have e1 : (List.replicate (q * m) v).length / m = q := by rw [List.length_replicate, Nat.mul_div_cancel _ hm]
  rw [e1] at hy
  have hyl : y.length = q * l := by rw [hy]; simp [res22]
  have hql : q * l ≤ 2400 := Nat.le_trans (Nat.mul_le_mul (show q ≤ 400 by omega) hl6) (by omega)
  refine const_l1 a b l m y _ hl hrb.1 (by omega) hra.2 R.cross (by omega) hsb.1 hsb.2 ?_ y.length 0 (by omega)
  intro j hj h17
  rw [hyl] at hj
  rw [hy, List.getD_eq_getElem?_getD]
  unfold res22
  rw [List.getElem?_map, List.getElem?_range hj]
  simp only [Option.map_some, Option.getD_some]
  have hjl : j * m % l < l := Nat.mod_lt _ hl
  have hd : j * m / l < q * m := by
    rw [Nat.div_lt_iff_lt_mul hl]
    calc j * m < q * l * m := Nat.mul_lt_mul_of_pos_right hj hm
      _ = q * m * l := by rw [Nat.mul_assoc, Nat.mul_comm l, ← Nat.mul_assoc]
  rw [part22_const (S := clamp v (-32768) 32767) 16, fsum22_fold (R.len _ hjl), R.one _ hjl]
  · have e : (16384 + 32768 * clamp v (-32768) 32767) / 32768 = clamp v (-32768) 32767 := by omega
    rw [e]
    exact clamp_id hsb.1 hsb.2
  · intro t ht
    rw [List.getD_eq_getElem?_getD, List.getElem?_append_right (by rw [List.length_replicate]; omega), List.length_replicate]
    unfold sats22
    rw [List.map_replicate, List.getElem?_replicate, if_pos (by omega)]
    rfl
end Go.Proofs.Ytcicenmmpbgmoaa.Pure
