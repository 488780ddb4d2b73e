/- What a sampler's Run answers: samples of another rate, sums of sixteen products. -/
import Derived.Test.YtcicenmmpbgmoaaPx11
import Derived.Test.YtcicenmmpbgmoaaQAwake22
import Derived.Test.YtcicenmmpbgmoaaQ0
import Derived.Test.YtcicenmmpbgmoaaQRates22
import Derived.Test.YtcicenmmpbgmoaaQClamp
namespace Go.Proofs.Ytcicenmmpbgmoaa.Q
open Go.RowKit Go.Proofs.YtcicenmmpbgmoaaW.PrintWords Go.Proofs.YtcicenmmpbgmoaaW.PrintLast Go.Proofs.YtcicenmmpbgmoaaW.PrintMore Go.Proofs.Ytcicenmmpbgmoaa.P Go.Proofs.Ytcicenmmpbgmoaa.M
set_option linter.unusedVariables false

def sat22 (v : Int) : Int := if v < -32768 then -32768 else if v > 32767 then 32767 else v
/-- one sum: 16384 and the products of a filter with the samples from place b + 1 on. -/
def sum22 (f z : List Int) (b : Nat) : Int := (List.range 16).foldl (fun s t => s + f.getD t 0 * z.getD (b + 1 + t) 0) 16384
def out22 (fs : List (List Int)) (z : List Int) (l m n : Nat) : List Int := (List.range n).map fun j => sat22 (sum22 (fs.getD (j * m % l) []) z (j * m / l) / 32768)
theorem sat_ev (v : Int) : Ev (fun k => fix_Sat16.f k v) (clamp v (-32768) 32767) := by
  refine Ev.congr (fun k => by rw [fix_Sat16.f]) ?_
  exact Ev.bind (fix_clamp v (-32768) 32767) (evConst rfl)
theorem run_l0 (x : List Int) (l m a b : Int) (kept : List Int) {R : List Int × Int × Int × Int × List Int} (hx : x.length ≤ 4800) (hl : 0 ≤ l) (hl2 : l ≤ 6) (z : List Int) (hz : z.length + x.length ≤ 10000)
    (h : Ev (fun k => resamp_Sampler_Run.l1 k x l m (z ++ x.map fun v => clamp v (-32768) 32767) (List.replicate l.toNat []) ((List.replicate l.toNat ([] : List Int)).length : Int) 0 a b kept) R) :
    Ev (fun k => resamp_Sampler_Run.l0 k x l m z x (x.length : Int) 0 a b kept) R := by
  suffices H : ∀ (n : Nat) (S A : List Int) (i : Int), S.length = n → x = A ++ S → i = A.length → Ev (fun k => resamp_Sampler_Run.l0 k x l m (z ++ A.map fun v => clamp v (-32768) 32767) x (x.length : Int) i a b kept) R by
    have := H x.length x [] 0 rfl rfl rfl
    simpa using this
  intro n
  induction n with
  | zero =>
    intro S A i hn he hi
    have e1 : S = [] := List.eq_nil_of_length_eq_zero hn
    subst e1
    have e2 : A = x := by simpa using he.symm
    subst e2
    refine Ev.step (fun k => by rw [resamp_Sampler_Run.l0]) ?_
    refine evNeg (by omega) (evPos hl (evPos (by omega) ?_))
    refine Ev.congr (fun k => by rw [Option.bind_some]) ?_
    exact h
  | succ n ih =>
    intro S A i hn he hi
    cases S with
    | nil => simp at hn
    | cons s S =>
      simp at hn
      have hlx : x.length = A.length + S.length + 1 := by rw [he]; simp; omega
      refine Ev.step (fun k => by rw [resamp_Sampler_Run.l0]) ?_
      refine evPos (by omega) (evPos (by omega) (evPos (by omega) ?_))
      have e3 : rd x i = s := by rw [he]; exact rd_mid _ _ _ _ hi
      rw [e3]
      refine Ev.bind (sat_ev s) (evPos (by simp; omega) ?_)
      rw [w64 (x := i + 1) (by omega) (by omega)]
      have := ih S (A ++ [s]) (i + 1) (by omega) (by simpa using he) (by simp; omega)
      simpa using this
theorem run_l1 (x z : List Int) (l : Nat) (m a b : Int) (kept : List Int) (flt : Nat → List Int) {R : List Int × Int × Int × Int × List Int} (hx : x.length ≤ 4800) (hl2 : l ≤ 6) (hm : 1 ≤ m)
    (hf : ∀ p : Nat, p < l → Ev (fun k => resamp_Filter.f k a b (p : Int)) (flt p))
    (h : Ev (fun k => resamp_Sampler_Run.l2 k (l : Int) m z ((List.range l).map flt) (List.replicate (Int.toNat (Int.tdiv ((l : Int) * x.length) m)) 0) ((List.replicate (Int.toNat (Int.tdiv ((l : Int) * x.length) m)) (0 : Int)).length : Int) 0 a b kept) R) :
    Ev (fun k => resamp_Sampler_Run.l1 k x (l : Int) m z (List.replicate l []) ((List.replicate l ([] : List Int)).length : Int) 0 a b kept) R := by
  have h0 : 0 ≤ (l : Int) * x.length := Int.mul_nonneg (by omega) (by omega)
  have h1 : (l : Int) * x.length ≤ 28800 := by
    have := Nat.mul_le_mul hl2 hx
    have e : ((l * x.length : Nat) : Int) = (l : Int) * x.length := by simp
    omega
  have h2 : 0 ≤ Int.tdiv ((l : Int) * x.length) m := Int.tdiv_nonneg h0 (by omega)
  have h3 : Int.tdiv ((l : Int) * x.length) m ≤ 28800 := by
    rw [Int.tdiv_eq_ediv_of_nonneg h0]
    have := Int.ediv_le_self m h0
    omega
  suffices H : ∀ (n q : Nat), q + n = l → Ev (fun k => resamp_Sampler_Run.l1 k x (l : Int) m z ((List.range q).map flt ++ List.replicate n []) (l : Int) (q : Int) a b kept) R by
    have := H l 0 (by omega)
    simpa using this
  intro n
  induction n with
  | zero =>
    intro q hq
    obtain rfl : q = l := by omega
    refine Ev.step (fun k => by rw [resamp_Sampler_Run.l1]) ?_
    rw [w64 (x := (q : Int) * x.length) (by omega) (by omega), w64 (x := Int.tdiv ((q : Int) * x.length) m) (by omega) (by omega)]
    refine evNeg (by omega) (evNeg (by omega) (evPos h2 (evPos (by omega) ?_)))
    refine Ev.congr (fun k => by rw [Option.bind_some]) ?_
    simpa using h
  | succ n ih =>
    intro q hq
    refine Ev.step (fun k => by rw [resamp_Sampler_Run.l1]) ?_
    refine evPos (by omega) (Ev.bind (hf q (by omega)) (evPos (by omega) (evPos (by simp; omega) ?_)))
    rw [w64 (x := (q : Int) + 1) (by omega) (by omega)]
    have e : (((List.range q).map flt ++ List.replicate (n + 1) []).set (q : Int).toNat (flt q)) = (List.range (q + 1)).map flt ++ List.replicate n [] := by
      rw [Int.toNat_natCast, List.set_append_right _ _ (by simp)]
      simp [List.range_succ, List.replicate_succ]
    rw [e]
    have := ih (q + 1) (by omega)
    simpa using this
def part22 (f z : List Int) (b : Nat) : Nat → Int
  | 0 => 16384
  | t + 1 => part22 f z b t + f.getD t 0 * z.getD (b + 1 + t) 0
theorem part22_le {f z : List Int} (b : Nat) (hf : ∀ i, -65536 ≤ f.getD i 0 ∧ f.getD i 0 ≤ 65536) (hz : ∀ i, -32768 ≤ z.getD i 0 ∧ z.getD i 0 ≤ 32768) : ∀ t : Nat, -(2147483648 * (t : Int)) ≤ part22 f z b t - 16384 ∧ part22 f z b t - 16384 ≤ 2147483648 * (t : Int)
  | 0 => by simp [part22]
  | t + 1 => by
    have ih := part22_le b hf hz t
    have h1 := hf t
    have h2 := hz (b + 1 + t)
    have h3 : -2147483648 ≤ f.getD t 0 * z.getD (b + 1 + t) 0 ∧ f.getD t 0 * z.getD (b + 1 + t) 0 ≤ 2147483648 := by
      generalize f.getD t 0 = u at *
      generalize z.getD (b + 1 + t) 0 = v at *
      constructor
      · rcases Int.le_total 0 u with hu | hu
        · have := Int.mul_le_mul_of_nonneg_left h2.1 hu
          omega
        · have := Int.mul_le_mul_of_nonpos_left hu h2.2
          omega
      · rcases Int.le_total 0 u with hu | hu
        · have := Int.mul_le_mul_of_nonneg_left h2.2 hu
          omega
        · have := Int.mul_le_mul_of_nonpos_left hu h2.1
          omega
    simp only [part22]
    push_cast
    omega
theorem run_l3 (l m : Int) (z : List Int) (fs : List (List Int)) (out : List Int) (j : Nat) (b : Nat) (N : Int) (f : List Int) (x0 x1 : Int) (kept : List Int) {R : List Int × Int × Int × Int × List Int}
    (hl : f.length = 16) (hf : ∀ i, -65536 ≤ f.getD i 0 ∧ f.getD i 0 ≤ 65536) (hz : ∀ i, -32768 ≤ z.getD i 0 ∧ z.getD i 0 ≤ 32768) (hb : b + 17 ≤ z.length) (hzl : z.length ≤ 10000) (hj : j < out.length) (hj2 : j ≤ 100000)
    (h : Ev (fun k => resamp_Sampler_Run.l2 k l m z fs (out.set j (clamp (part22 f z b 16 / 32768) (-32768) 32767)) N ((j : Int) + 1) x0 x1 kept) R) :
    Ev (fun k => resamp_Sampler_Run.l3 k l m z fs out (j : Int) (b : Int) 16384 N (j : Int) f (f.length : Int) 0 x0 x1 kept) R := by
  suffices H : ∀ (n q : Nat), q + n = 16 → Ev (fun k => resamp_Sampler_Run.l3 k l m z fs out (j : Int) (b : Int) (part22 f z b q) N (j : Int) f (f.length : Int) (q : Int) x0 x1 kept) R by
    exact H 16 0 rfl
  intro n
  induction n with
  | zero =>
    intro q hq
    obtain rfl : q = 16 := by omega
    refine Ev.step (fun k => by rw [resamp_Sampler_Run.l3]) ?_
    refine evNeg (by omega) (Ev.bind (sat_ev _) (evPos (by omega) (evPos (by omega) ?_)))
    rw [w64 (x := (j : Int) + 1) (by omega) (by omega), Int.toNat_natCast]
    exact h
  | succ n ih =>
    intro q hq
    have hp := part22_le b hf hz q
    have hp2 := part22_le b hf hz (q + 1)
    refine Ev.step (fun k => by rw [resamp_Sampler_Run.l3]) ?_
    have e1 : wrap64 ((wrap64 ((wrap64 ((b : Int) + 8)) + (q : Int))) - 7) = ((b + 1 + q : Nat) : Int) := by
      rw [w64 (x := (b : Int) + 8) (by omega) (by omega), w64 (x := (b : Int) + 8 + q) (by omega) (by omega), w64 (by omega) (by omega)]
      omega
    rw [e1]
    refine evPos (by omega) (evPos (by omega) (evPos (by omega) (evPos (by omega) (evPos (by omega) ?_))))
    rw [rd_nat, rd_nat, w64 (x := (q : Int) + 1) (by omega) (by omega)]
    have e2 : part22 f z b (q + 1) = part22 f z b q + f.getD q 0 * z.getD (b + 1 + q) 0 := rfl
    rw [w64 (x := f.getD q 0 * z.getD (b + 1 + q) 0) (by omega) (by omega), w64 (x := part22 f z b q + f.getD q 0 * z.getD (b + 1 + q) 0) (by omega) (by omega), ← e2]
    have := ih (q + 1) (by omega)
    simpa using this
theorem rdL_nat (fs : List (List Int)) (n : Nat) : rd_L1 fs (n : Int) = fs.getD n [] := by
  simp [rd_L1]
theorem run_l2 (l m : Nat) (z : List Int) (flt : Nat → List Int) (n : Nat) (a b : Int) (kept : List Int) (hl : 1 ≤ l) (hl2 : l ≤ 6) (hm : 1 ≤ m) (hm2 : m ≤ 6) (hn : n ≤ 28800)
    (hlen : ∀ p, p < l → (flt p).length = 16) (hf : ∀ p, p < l → ∀ i, -65536 ≤ (flt p).getD i 0 ∧ (flt p).getD i 0 ≤ 65536) (hz : ∀ i, -32768 ≤ z.getD i 0 ∧ z.getD i 0 ≤ 32768) (hzl : z.length ≤ 10000) (hz16 : 16 ≤ z.length)
    (hb : ∀ j, j < n → j * m / l + 17 ≤ z.length) :
    Ev (fun k => resamp_Sampler_Run.l2 k (l : Int) (m : Int) z ((List.range l).map flt) (List.replicate n 0) ((List.replicate n (0 : Int)).length : Int) 0 a b kept)
      ((List.range n).map fun j => clamp (part22 (flt (j * m % l)) z (j * m / l) 16 / 32768) (-32768) 32767, 0, a, b, List.take 16 (z.drop (z.length - 16)) ++ List.drop (z.drop (z.length - 16)).length kept) := by
  suffices H : ∀ (r q : Nat), q + r = n → Ev (fun k => resamp_Sampler_Run.l2 k (l : Int) (m : Int) z ((List.range l).map flt) (((List.range q).map fun j => clamp (part22 (flt (j * m % l)) z (j * m / l) 16 / 32768) (-32768) 32767) ++ List.replicate r 0) (n : Int) (q : Int) a b kept)
      ((List.range n).map fun j => clamp (part22 (flt (j * m % l)) z (j * m / l) 16 / 32768) (-32768) 32767, 0, a, b, List.take 16 (z.drop (z.length - 16)) ++ List.drop (z.drop (z.length - 16)).length kept) by
    have := H n 0 (by omega)
    simpa using this
  intro r
  induction r with
  | zero =>
    intro q hq
    obtain rfl : q = n := by omega
    refine Ev.step (fun k => by rw [resamp_Sampler_Run.l2]) ?_
    rw [w64 (x := (z.length : Int) - 16) (by omega) (by omega)]
    refine evNeg (by omega) (evPos (by omega) (evPos (by omega) (evConst ?_)))
    have e : ((z.length : Int) - 16).toNat = z.length - 16 := by omega
    simp [e]
  | succ r ih =>
    intro q hq
    have hqm : q * m ≤ 172800 := Nat.le_trans (Nat.mul_le_mul (show q ≤ 28800 by omega) hm2) (by omega)
    have e0 : ((q : Int) * (m : Int)) = ((q * m : Nat) : Int) := by simp
    have e1 : Int.tmod ((q * m : Nat) : Int) (l : Int) = ((q * m % l : Nat) : Int) := by rw [Int.tmod_eq_emod_of_nonneg (Int.natCast_nonneg _)]; rfl
    have e2 : Int.tdiv ((q * m : Nat) : Int) (l : Int) = ((q * m / l : Nat) : Int) := by rw [Int.tdiv_eq_ediv_of_nonneg (Int.natCast_nonneg _)]; rfl
    have hp : q * m % l < l := Nat.mod_lt _ (by omega)
    have hd : q * m / l ≤ q * m := Nat.div_le_self _ _
    refine Ev.step (fun k => by rw [resamp_Sampler_Run.l2]) ?_
    obtain ⟨pp, hpp⟩ : ∃ pp, pp = q * m % l := ⟨_, rfl⟩
    obtain ⟨dd, hdd⟩ : ∃ dd, dd = q * m / l := ⟨_, rfl⟩
    obtain ⟨qm, hqm'⟩ : ∃ qm, qm = q * m := ⟨_, rfl⟩
    have hb' := hb q (by omega)
    rw [← hqm'] at e0 e1 e2 hqm hp hd hpp hdd hb'
    rw [← hpp] at e1 hp
    rw [← hdd] at e2 hd hb'
    rw [e0, w64 (x := ((qm : Nat) : Int)) (by omega) (by omega), e1, e2, w64 (x := (dd : Int)) (by omega) (by omega), rdL_nat]
    refine evPos (by omega) (evNeg (by omega) (evPos (by omega) (evPos (by simp; omega) ?_)))
    have e3 : ((List.range l).map flt).getD pp [] = flt pp := by
      rw [List.getD_eq_getElem?_getD]
      simp [hp]
    rw [e3]
    refine run_l3 _ _ _ _ _ q dd _ _ _ _ _ (hlen _ hp) (hf _ hp) hz hb' hzl (by first | (simp; done) | (simp; omega)) (by omega) ?_
    subst hpp hdd hqm'
    have := ih (q + 1) (by omega)
    have e4 : ((((List.range q).map fun j => clamp (part22 (flt (j * m % l)) z (j * m / l) 16 / 32768) (-32768) 32767) ++ List.replicate (r + 1) 0).set q (clamp (part22 (flt (q * m % l)) z (q * m / l) 16 / 32768) (-32768) 32767)) = ((List.range (q + 1)).map fun j => clamp (part22 (flt (j * m % l)) z (j * m / l) 16 / 32768) (-32768) 32767) ++ List.replicate r 0 := by
      rw [List.set_append_right _ _ (by simp)]
      simp [List.range_succ, List.replicate_succ]
    rw [e4]
    simpa using this
def sats22 (x : List Int) : List Int := x.map fun v => clamp v (-32768) 32767
def res22 (l m : Nat) (flt : Nat → List Int) (z : List Int) (n : Nat) : List Int := (List.range n).map fun j => clamp (part22 (flt (j * m % l)) z (j * m / l) 16 / 32768) (-32768) 32767
def In16 (z : List Int) : Prop := ∀ i, -32768 ≤ z.getD i 0 ∧ z.getD i 0 ≤ 32768
theorem in16_of {z : List Int} (h : ∀ v ∈ z, -32768 ≤ v ∧ v ≤ 32768) : In16 z := by
  intro i
  rw [List.getD_eq_getElem?_getD]
  by_cases hi : i < z.length
  · rw [List.getElem?_eq_getElem hi]
    exact h _ (List.getElem_mem hi)
  · rw [List.getElem?_eq_none (by omega)]
    simp
theorem in16_mem {z : List Int} (h : In16 z) : ∀ v ∈ z, -32768 ≤ v ∧ v ≤ 32768 := by
  intro v hv
  obtain ⟨i, hi, rfl⟩ := List.getElem_of_mem hv
  have := h i
  rwa [List.getD_eq_getElem?_getD, List.getElem?_eq_getElem hi] at this
theorem in16_app {u v : List Int} (hu : In16 u) (hv : In16 v) : In16 (u ++ v) := in16_of fun w hw => by
  rcases List.mem_append.mp hw with h | h
  · exact in16_mem hu w h
  · exact in16_mem hv w h
theorem in16_sats (x : List Int) : In16 (sats22 x) := in16_of fun w hw => by
  obtain ⟨v, _, rfl⟩ := List.mem_map.mp hw
  have := clamp_bounds (a := v) (show (-32768 : Int) ≤ 32767 by omega)
  omega
theorem in16_drop {z : List Int} (h : In16 z) (n : Nat) : In16 (z.drop n) := in16_of fun w hw => in16_mem h w (List.mem_of_mem_drop hw)
theorem in16_zeros (n : Nat) : In16 (List.replicate n 0) := in16_of fun w hw => by
  obtain rfl := List.eq_of_mem_replicate hw
  omega
/-- What Run answers of good lists. -/
theorem run22 {a b : Int} {l m : Nat} {flt : Nat → List Int} (R : Rates22 a b l m flt) {x kept : List Int} (hx : x.length ≤ 4800) (hm : x.length % m = 0) (hk : kept.length = 16) (hz : In16 kept) :
    Ev (fun k => resamp_Sampler_Run.f k a b kept x) (res22 l m flt (kept ++ sats22 x) (x.length / m * l), 0, a, b, (kept ++ sats22 x).drop x.length) := by
  obtain ⟨c, hc⟩ : ∃ c, x.length = m * c := ⟨x.length / m, by have := Nat.div_add_mod x.length (m); omega⟩
  have hcl : x.length / m = c := by rw [hc, Nat.mul_div_cancel_left _ R.m1]
  rw [hcl]
  have h1 := R.l1
  have h6 := R.l6
  have h2 := R.m1
  have h7 := R.m6
  have hsl : (sats22 x).length = x.length := by simp [sats22]
  have hcx : c ≤ x.length := by rw [hc]; exact Nat.le_mul_of_pos_left c h2
  have hlx : ((l : Nat) : Int) * (x.length : Int) = ((c * l * m : Nat) : Int) := by
    rw [hc]; push_cast; rw [Int.mul_comm (c : Int), Int.mul_assoc, Int.mul_comm (c : Int), ]
  have hn : Int.toNat (Int.tdiv ((l : Nat) * (x.length : Int)) (m : Nat)) = c * l := by
    rw [hlx, Int.tdiv_eq_ediv_of_nonneg (Int.natCast_nonneg _)]
    rw [← Int.natCast_ediv, Nat.mul_div_cancel _ h2]
    exact Int.toNat_natCast _
  have hcl2 : c * l ≤ 28800 := Nat.le_trans (Nat.mul_le_mul (show c ≤ 4800 by omega) h6) (by omega)
  refine Ev.congr (fun k => by rw [resamp_Sampler_Run.f]) (Ev.bind R.parts ?_)
  refine evNeg (show ¬ (x.length : Int) > 4800 by omega) (evNeg (show ¬ ((m : Nat) : Int) = 0 by omega) ?_)
  have e0 : ((x.length : Int) % ((m : Nat) : Int) != 0) = false := by
    have : (x.length : Int) % ((m : Nat) : Int) = ((x.length % m : Nat) : Int) := by simp
    rw [this, hm]
    rfl
  rw [e0]
  refine Ev.step (fun k => by rw [resamp_Sampler_Run.j0]) (evNeg (by simp) ?_)
  refine Ev.congr (fun k => by rw [Option.bind_some, List.nil_append]) (evPos (by simp; omega) ?_)
  refine run_l0 x _ _ _ _ _ hx (by omega) (by omega) kept (by omega) ?_
  rw [Int.toNat_natCast]
  refine run_l1 x _ _ _ _ _ _ (flt) hx h6 (by omega) R.flts ?_
  rw [hn]
  have H := run_l2 l (m) (kept ++ sats22 x) (flt) (c * l) a b kept h1 h6 h2 h7 hcl2 R.len R.bound (in16_app hz (in16_sats x)) (by simp; omega) (by simp; omega) (by
    intro j hj
    have e1 : j * m / l < x.length := by
      rw [Nat.div_lt_iff_lt_mul h1, hc]
      calc j * m < c * l * m := Nat.mul_lt_mul_of_pos_right hj h2
        _ = m * c * l := by rw [Nat.mul_comm, Nat.mul_assoc]
    simp
    omega)
  have e1 : (kept ++ sats22 x).length - 16 = x.length := by simp; omega
  rw [e1] at H
  have e2 : List.take 16 ((kept ++ sats22 x).drop x.length) ++ List.drop ((kept ++ sats22 x).drop x.length).length kept = (kept ++ sats22 x).drop x.length := by
    have e3 : ((kept ++ sats22 x).drop x.length).length = 16 := by simp; omega
    rw [e3, List.take_of_length_le (Nat.le_of_eq e3), List.drop_eq_nil_of_le (Nat.le_of_eq hk), List.append_nil]
  rw [e2] at H
  exact H
/-- Lists that may not be change nothing. -/
theorem run22_bad {a b : Int} {l m : Nat} {flt : Nat → List Int} (R : Rates22 a b l m flt) {x kept : List Int} (hm : 4800 < x.length ∨ x.length % m ≠ 0) : Ev (fun k => resamp_Sampler_Run.f k a b kept x) ([], 1, a, b, kept) := by
  have h2 := R.m1
  have hj : Ev (fun k => resamp_Sampler_Run.j0 k x (l : Int) (m : Int) true a b kept) ([], 1, a, b, kept) := Ev.step (fun k => by rw [resamp_Sampler_Run.j0]) (evPos rfl (evConst rfl))
  refine Ev.congr (fun k => by rw [resamp_Sampler_Run.f]) (Ev.bind R.parts ?_)
  by_cases h : (x.length : Int) > 4800
  · exact evPos h hj
  · refine evNeg h (evNeg (show ¬ ((m : Nat) : Int) = 0 by omega) ?_)
    have e0 : ((x.length : Int) % ((m : Nat) : Int) != 0) = true := by
      have : (x.length : Int) % ((m : Nat) : Int) = ((x.length % m : Nat) : Int) := by simp
      rw [this]
      simp
      omega
    rw [e0]
    exact hj
theorem run22_any {a b : Int} {l m : Nat} {flt : Nat → List Int} (R : Rates22 a b l m flt) (x kept : List Int) (hk : kept.length = 16) (hz : In16 kept) : ∃ out e kept', kept'.length = 16 ∧ In16 kept' ∧ out.length ≤ 28800 ∧ Ev (fun k => resamp_Sampler_Run.f k a b kept x) (out, e, a, b, kept') := by
  by_cases h : x.length ≤ 4800 ∧ x.length % m = 0
  · refine ⟨_, _, _, ?_, ?_, ?_, run22 R h.1 h.2 hk hz⟩
    · simp [sats22]; omega
    · exact in16_drop (in16_app hz (in16_sats x)) _
    · have h1 := R.l6
      have h3 := Nat.div_le_self x.length (m)
      have := Nat.mul_le_mul (show x.length / m ≤ 4800 by omega) h1
      simpa [res22] using this
  · exact ⟨_, _, _, hk, hz, by simp, run22_bad R (by omega)⟩
end Go.Proofs.Ytcicenmmpbgmoaa.Q
