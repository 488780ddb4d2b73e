/- A sound of which each sample is a part of the one ahead is foretold by about that part: for every part and length, without conditions. -/
import Derived.Test.YtllglpcpjeggcaaPx51
import Derived.Test.YtllglpcpjeggcaaQLevin3
import Derived.Test.YtllglpcpjeggcaaQOne12
import Derived.Test.YtllglpcpjeggcaaQAwake12
namespace Go.Proofs.Ytllglpcpjeggcaa.Pure
open Go.RowKit Go.Proofs.Ytllglpcpjeggcaa.P Go.Proofs.YtllglpcpjeggcaaW.PrintWords Go.Proofs.YtllglpcpjeggcaaW.PrintLast Go.Proofs.YtllglpcpjeggcaaW.PrintMore
open Go.Proofs.Ytllglpcpjeggcaa.M Go.Proofs.Ytllglpcpjeggcaa.Q
set_option linter.unusedVariables false

/-- The next sample. -/
def nx (p v : Int) : Int := Int.tdiv (v * p) 4096
def seqV (p : Int) : Nat → Int → List Int
  | 0, _ => []
  | n + 1, v => v :: seqV p n (nx p v)
/-- The last sample. -/
def lastV (p : Int) : Nat → Int → Int
  | 0, v => v
  | n + 1, v => lastV p n (nx p v)
theorem seqV_length (p : Int) : ∀ (n : Nat) (v : Int), (seqV p n v).length = n
  | 0, _ => rfl
  | n + 1, v => by simp [seqV, seqV_length p n]
def ab (v : Int) : Int := (v.natAbs : Int)
theorem part_le {v p : Int} (hp : -3686 ≤ p ∧ p ≤ 3686) : -(3686 * ab v) ≤ v * p ∧ v * p ≤ 3686 * ab v := by
  have h := prod_le (x := v) (y := p) (a := v.natAbs) (b := 3686) (by omega) (by omega)
  unfold ab
  have e : ((v.natAbs * 3686 : Nat) : Int) = 3686 * (v.natAbs : Int) := by rw [Int.natCast_mul, Int.mul_comm]; rfl
  omega
theorem nx_facts {v p : Int} (hp : -3686 ≤ p ∧ p ≤ 3686) : 4096 * ab (nx p v) ≤ 3686 * ab v ∧ ∃ d : Int, 4096 * nx p v = v * p - d ∧ -4095 ≤ d ∧ d ≤ 4095 := by
  have hb := part_le (v := v) hp
  unfold nx
  generalize v * p = x at hb ⊢
  have h1 := Int.mul_tdiv_add_tmod x 4096
  have h2 : (Int.tdiv x 4096).natAbs = x.natAbs / 4096 := by rw [Int.natAbs_tdiv]; rfl
  have h3 : (Int.tmod x 4096).natAbs < 4096 := by rw [Int.natAbs_tmod]; exact Nat.mod_lt _ (by omega)
  unfold ab at hb ⊢
  refine ⟨by omega, Int.tmod x 4096, by omega, by omega, by omega⟩
theorem ab_mul (d v : Int) (h : -4095 ≤ d ∧ d ≤ 4095) : -(4095 * ab v) ≤ v * d ∧ v * d ≤ 4095 * ab v := by
  have g := prod_le (x := v) (y := d) (a := v.natAbs) (b := 4095) (by omega) (by omega)
  unfold ab
  have e : ((v.natAbs * 4095 : Nat) : Int) = 4095 * (v.natAbs : Int) := by rw [Int.natCast_mul, Int.mul_comm]; rfl
  omega
/-- What the sums are like. -/
theorem near (p : Int) (hp : -3686 ≤ p ∧ p ≤ 3686) : ∀ (n : Nat) (v : Int), -(41000 * ab v) - 3686 * (lastV p n v * lastV p n v) ≤ 4096 * dot (seqV p n (nx p v)) (seqV p (n + 1) v) - p * dot (seqV p (n + 1) v) (seqV p (n + 1) v) ∧
    4096 * dot (seqV p n (nx p v)) (seqV p (n + 1) v) - p * dot (seqV p (n + 1) v) (seqV p (n + 1) v) ≤ 41000 * ab v + 3686 * (lastV p n v * lastV p n v)
  | 0, v => by
    have e1 : dot (seqV p 0 (nx p v)) (seqV p 1 v) = 0 := dot_nil _
    have e2 : dot (seqV p 1 v) (seqV p 1 v) = v * v := by simp [seqV, dot]
    rw [e1, e2]
    have hv := sq_nonneg v
    have h1 : p * (v * v) ≤ 3686 * (v * v) := Int.mul_le_mul_of_nonneg_right hp.2 hv
    have h2 : -3686 * (v * v) ≤ p * (v * v) := Int.mul_le_mul_of_nonneg_right hp.1 hv
    simp only [lastV]
    unfold ab
    omega
  | n + 1, v => by
    have ih := near p hp n (nx p v)
    obtain ⟨g1, d, g2, g3, g4⟩ := nx_facts (v := v) hp
    have g5 := ab_mul d v ⟨g3, g4⟩
    have e1 : dot (seqV p (n + 1) (nx p v)) (seqV p (n + 2) v) = nx p v * v + dot (seqV p n (nx p (nx p v))) (seqV p (n + 1) (nx p v)) := rfl
    have e2 : dot (seqV p (n + 2) v) (seqV p (n + 2) v) = v * v + dot (seqV p (n + 1) (nx p v)) (seqV p (n + 1) (nx p v)) := rfl
    have e3 : lastV p (n + 1) v = lastV p n (nx p v) := rfl
    rw [e1, e2, e3, Int.mul_add, Int.mul_add]
    have e4 : 4096 * (nx p v * v) = p * (v * v) - v * d := by
      have : 4096 * (nx p v * v) = (4096 * nx p v) * v := by rw [Int.mul_assoc]
      rw [this, g2, Int.sub_mul, Int.mul_comm v p, Int.mul_assoc, Int.mul_comm d v]
    generalize p * (v * v) = X at e4 ⊢
    generalize p * dot (seqV p (n + 1) (nx p v)) (seqV p (n + 1) (nx p v)) = Y at ih ⊢
    generalize dot (seqV p n (nx p (nx p v))) (seqV p (n + 1) (nx p v)) = Z at ih ⊢
    generalize lastV p n (nx p v) * lastV p n (nx p v) = L at ih ⊢
    generalize v * d = V at g5 e4
    omega
theorem ab_sq (v : Int) : ab v * ab v = v * v := by unfold ab; exact Int.natAbs_mul_self' v
theorem sq_scale (c a : Int) : c * a * (c * a) = c * c * (a * a) := by rw [Int.mul_assoc, Int.mul_left_comm a c a, ← Int.mul_assoc]
theorem ab_nonneg (v : Int) : 0 ≤ ab v := by unfold ab; omega
theorem most_sum (p : Int) (hp : -3686 ≤ p ∧ p ≤ 3686) : ∀ (n : Nat) (v : Int), dot (seqV p n v) (seqV p n v) ≤ 6 * (v * v)
  | 0, v => by rw [show seqV p 0 v = [] from rfl, dot_nil]; have := sq_nonneg v; omega
  | n + 1, v => by
    have ih := most_sum p hp n (nx p v)
    have g1 := (nx_facts (v := v) hp).1
    have e2 : dot (seqV p (n + 1) v) (seqV p (n + 1) v) = v * v + dot (seqV p n (nx p v)) (seqV p n (nx p v)) := rfl
    rw [e2]
    have h1 : 4096 * ab (nx p v) * (4096 * ab (nx p v)) ≤ 3686 * ab v * (3686 * ab v) :=
      Int.mul_le_mul g1 g1 (by have := ab_nonneg (nx p v); omega) (by have := ab_nonneg v; omega)
    have e3 : 4096 * ab (nx p v) * (4096 * ab (nx p v)) = 16777216 * (nx p v * nx p v) := by
      rw [← ab_sq (nx p v), sq_scale]; rfl
    have e4 : 3686 * ab v * (3686 * ab v) = 13586596 * (v * v) := by
      rw [← ab_sq v, sq_scale]; rfl
    have := sq_nonneg v
    omega
def g1 (m : Nat) : Nat := 3686 * m / 4096
def gN : Nat → Nat → Nat
  | 0, m => m
  | n + 1, m => gN n (g1 m)
theorem gN_mono : ∀ (n : Nat) {a b : Nat}, a ≤ b → gN n a ≤ gN n b
  | 0, a, b, h => h
  | n + 1, a, b, h => gN_mono n (by unfold g1; omega)
theorem last_le (p : Int) (hp : -3686 ≤ p ∧ p ≤ 3686) : ∀ (n : Nat) (v : Int), (lastV p n v).natAbs ≤ gN n v.natAbs
  | 0, v => Nat.le_refl _
  | n + 1, v => by
    have g := (nx_facts (v := v) hp).1
    have h : (nx p v).natAbs ≤ g1 v.natAbs := by unfold ab at g; unfold g1; omega
    exact Nat.le_trans (last_le p hp n (nx p v)) (gN_mono n h)
theorem gN_add : ∀ (a b m : Nat), gN (a + b) m = gN b (gN a m)
  | 0, b, m => by rw [Nat.zero_add]; rfl
  | a + 1, b, m => by
    rw [Nat.add_right_comm]
    exact gN_add a b (g1 m)
theorem gN_nought : ∀ n : Nat, gN n 0 = 0
  | 0 => rfl
  | n + 1 => gN_nought n
theorem gN_end (n : Nat) (h : 150 ≤ n) : gN n 30000 = 0 := by
  obtain ⟨b, rfl⟩ : ∃ b, n = 150 + b := ⟨n - 150, by omega⟩
  rw [gN_add, show gN 150 30000 = 0 by decide +kernel, gN_nought]
theorem seq_within (p : Int) (hp : -3686 ≤ p ∧ p ≤ 3686) : ∀ (n : Nat) (v : Int), -30000 ≤ v ∧ v ≤ 30000 → ∀ x ∈ seqV p n v, -30000 ≤ x ∧ x ≤ 30000
  | 0, v, h, x, hx => by simp [seqV] at hx
  | n + 1, v, h, x, hx => by
    have g := (nx_facts (v := v) hp).1
    rcases List.mem_cons.1 hx with e | hx
    · rw [e]; exact h
    · exact seq_within p hp n (nx p v) (by unfold ab at g; omega) x hx

/-- Halved, and halved again. -/
theorem halves : ∀ (n : Nat) (a b : Int), ∃ P A B r s : Int, dnN n [a, b] = [A, B] ∧ 1 ≤ P ∧ a = P * A + r ∧ 0 ≤ r ∧ r < P ∧ b = P * B + s ∧ 0 ≤ s ∧ s < P
  | 0, a, b => ⟨1, a, b, 0, 0, rfl, by omega, by omega, by omega, by omega, by omega, by omega, by omega⟩
  | n + 1, a, b => by
    unfold dnN
    split
    · obtain ⟨P, A, B, r, s, e, h1, h2, h3, h4, h5, h6, h7⟩ := halves n (a / 2) (b / 2)
      refine ⟨2 * P, A, B, 2 * r + a % 2, 2 * s + b % 2, e, by omega, ?_, by omega, by omega, ?_, by omega, by omega⟩
      · rw [Int.mul_assoc]; omega
      · rw [Int.mul_assoc]; omega
    · exact ⟨1, a, b, 0, 0, rfl, by omega, by omega, by omega, by omega, by omega, by omega, by omega⟩
/-- The filter of one number that is found lies near the part. -/
theorem found (p r0 r1 : Int) (hp : -3686 ≤ p ∧ p ≤ 3686) (h0 : 900000000 ≤ r0) (h1 : r0 ≤ 5400000000) (hn1 : -1230000000 ≤ 4096 * r1 - p * r0) (hn2 : 4096 * r1 - p * r0 ≤ 1230000000) :
    ∃ c : Int, solved [r0, r1] = [c] ∧ -40 ≤ c - p ∧ c - p ≤ 40 := by
  have hpr1 : p * r0 ≤ 3686 * r0 := Int.mul_le_mul_of_nonneg_right hp.2 (by omega)
  have hpr2 : -3686 * r0 ≤ p * r0 := Int.mul_le_mul_of_nonneg_right hp.1 (by omega)
  have e1 : [r0, r1].map partC = [r0, r1] := by
    simp only [List.map_cons, List.map_nil, partC]
    rw [clamp_id (by omega) (by omega), clamp_id (by omega) (by omega)]
  have e2 : upN 29 [r0, r1] = [r0, r1] := by
    have er : rd [r0, r1] 0 = r0 := rfl
    unfold upN
    rw [er, if_neg (by omega)]
  have hb := base_first [r0, r1] (by simp) (by show 1 ≤ r0; omega)
  obtain ⟨P, A, B, ρ, σ, e3, hP, ha, hr0, hr1, hbb, hs0, hs1⟩ := halves 12 r0 r1
  have e4 : base [r0, r1] = [A, B] := by unfold base; rw [e1, e2, e3]
  rw [e4] at hb
  have hA : 536870912 ≤ A ∧ A < 1073741824 := hb
  have hP2 : P ≤ 15 := by
    rcases Int.lt_or_le 15 P with h | h
    · have := Int.mul_le_mul (show (16 : Int) ≤ P by omega) hA.1 (by omega) (by omega)
      omega
    · exact h
  -- P |4096 B - p A| <= 2 P A
  have k1 : p * r0 = P * (p * A) + p * ρ := by rw [ha, Int.mul_add, Int.mul_left_comm]
  have k2 : p * ρ ≤ 3686 * ρ := Int.mul_le_mul_of_nonneg_right hp.2 hr0
  have k3 : -3686 * ρ ≤ p * ρ := Int.mul_le_mul_of_nonneg_right hp.1 hr0
  have k4 : P * (4096 * B - p * A) = 4096 * (P * B) - P * (p * A) := by rw [Int.mul_sub, Int.mul_left_comm]
  have k5 : P * (2 * A) = 2 * (P * A) := by rw [Int.mul_left_comm]
  have k6 : P * (4096 * B - p * A) ≤ P * (2 * A) := by
    rw [k4, k5]
    generalize P * (p * A) = X at k1 ⊢
    generalize P * A = Y at ha ⊢
    generalize P * B = Z at hbb ⊢
    omega
  have k7 : P * (-(2 * A)) ≤ P * (4096 * B - p * A) := by
    rw [Int.mul_neg, k4, k5]
    generalize P * (p * A) = X at k1 ⊢
    generalize P * A = Y at ha ⊢
    generalize P * B = Z at hbb ⊢
    omega
  have m1 := Int.le_of_mul_le_mul_left k6 (by omega)
  have m2 := Int.le_of_mul_le_mul_left k7 (by omega)
  have pA1 : p * A ≤ 3686 * A := Int.mul_le_mul_of_nonneg_right hp.2 (by omega)
  have pA2 : -3686 * A ≤ p * A := Int.mul_le_mul_of_nonneg_right hp.1 (by omega)
  -- the quotient
  obtain ⟨δ, hδ⟩ : ∃ δ, δ = A / 1024 + 1 := ⟨_, rfl⟩
  obtain ⟨e, he⟩ : ∃ e, e = A + A / 1024 + 1 := ⟨_, rfl⟩
  have eR : raise1 (base [r0, r1]) = [e, B] := by rw [e4, he]; rfl
  obtain ⟨k, hk⟩ : ∃ k, k = B * 16777216 / e := ⟨_, rfl⟩
  have q1 : k * e ≤ B * 16777216 := by rw [hk]; exact Int.ediv_mul_le _ (by omega)
  have q2 : B * 16777216 < (k + 1) * e := by rw [hk]; exact Int.lt_ediv_add_one_mul_self _ (by omega)
  have pd1 : p * δ ≤ 3686 * δ := Int.mul_le_mul_of_nonneg_right hp.2 (by omega)
  have pd2 : -3686 * δ ≤ p * δ := Int.mul_le_mul_of_nonneg_right hp.1 (by omega)
  have pe : p * e = p * A + p * δ := by rw [← Int.mul_add]; congr 1; omega
  have d1 : (k - 4096 * p) * e ≤ 22967 * e := by
    rw [Int.sub_mul, Int.mul_assoc, pe]
    generalize k * e = K at q1 ⊢
    generalize p * A = X at m1 m2 pA1 pA2 ⊢
    generalize p * δ = Y at pd1 pd2 ⊢
    omega
  have d2 : (-22967) * e ≤ (k + 1 - 4096 * p) * e := by
    rw [Int.sub_mul, Int.mul_assoc, pe]
    generalize (k + 1) * e = K at q2 ⊢
    generalize p * A = X at m1 m2 pA1 pA2 ⊢
    generalize p * δ = Y at pd1 pd2 ⊢
    omega
  have c1 := Int.le_of_mul_le_mul_right d1 (by omega)
  have c2 := Int.le_of_mul_le_mul_right d2 (by omega)
  have hB : -1073741824 ≤ B ∧ B ≤ 1073741824 := by
    generalize p * A = X at m1 m2 pA1 pA2
    omega
  have ed : divI B e 24 = k := by
    unfold divI
    rw [fac_id (a := e) (by omega) (by omega), fac_id (a := B) (by omega) (by omega), if_neg (by omega), if_neg (by omega), if_neg (by omega), if_neg (by omega), hk]
    rfl
  have em : mir [e, B] [] 0 e = k := by
    have et : tN [e, B] [] 0 0 = B := rfl
    unfold mir
    rw [et, ed, clamp_id (by omega) (by omega)]
  have es : solveN [e, B] 1 0 [] e = [k] := by
    show nextA [] 0 (mir [e, B] [] 0 e) = [k]
    rw [em]; rfl
  refine ⟨mul k 1 12, ?_, ?_⟩
  · have hm : mul k 1 12 = (k + 2048) / 4096 := by
      have e9 : mul k 1 12 = (fac k * fac 1 + 2048) / 4096 := by unfold mul; rw [if_neg (by omega), if_neg (by omega), if_neg (by omega)]; rfl
      rw [e9, fac_id (a := k) (by omega) (by omega), fac_id (a := 1) (by omega) (by omega), Int.mul_one]
    have efit := fit_small (mul k 1 12) (by rw [hm]; omega)
    unfold solved
    rw [eR]
    have er : rd [e, B] 0 = e := rfl
    rw [er]
    show fit ((solveN [e, B] 1 0 [] e).map fun v => mul v 1 12) = _
    rw [es]
    exact efit
  · have hm : mul k 1 12 = (k + 2048) / 4096 := by
      have e9 : mul k 1 12 = (fac k * fac 1 + 2048) / 4096 := by unfold mul; rw [if_neg (by omega), if_neg (by omega), if_neg (by omega)]; rfl
      rw [e9, fac_id (a := k) (by omega) (by omega), fac_id (a := 1) (by omega) (by omega), Int.mul_one]
    rw [hm]; omega
theorem first_l0 (p : Int) (m : Nat) (hp : -3686 ≤ p ∧ p ≤ 3686) (hm1 : 200 ≤ m) (hm2 : m ≤ 400) (d : Nat) : ∀ (A : List Int) (v i : Int), A ++ seqV p d v = seqV p m 30000 → i = A.length → A.length + d = m → -30000 ≤ v ∧ v ≤ 30000 →
    Ev (fun k => madrigallaw12_LevinFirst.l0 k p m v A i) true := by
  induction d with
  | zero =>
    intro A v i hA hi hl hv
    refine Ev.step (fun k => by rw [madrigallaw12_LevinFirst.l0]) ?_
    refine evNeg (by omega) ?_
    simp only [seqV, List.append_nil] at hA
    subst hA
    have hw := seq_within p hp m 30000 (by omega)
    have es : (seqV p m 30000).map sat = seqV p m 30000 := sat_kept fun x hx => by have := hw x hx; omega
    have a1 := levin_auto (seqV p m 30000) 1 (by rw [seqV_length]; omega) (by omega) (by omega)
    rw [es] at a1
    have ea : autoL (seqV p m 30000) ((1 : Int).toNat + 1) = [dot (seqV p m 30000) (seqV p m 30000), dot ((seqV p m 30000).drop 1) (seqV p m 30000)] := rfl
    rw [ea] at a1
    obtain ⟨m', rfl⟩ : ∃ m', m = m' + 1 := ⟨m - 1, by omega⟩
    have ed : (seqV p (m' + 1) 30000).drop 1 = seqV p m' (nx p 30000) := rfl
    rw [ed] at a1
    have hn := near p hp m' 30000
    have hl0 : lastV p m' 30000 = 0 := by
      have := last_le p hp m' 30000
      rw [show (30000 : Int).natAbs = 30000 from rfl, gN_end m' (by omega)] at this
      omega
    rw [hl0, show ab 30000 = 30000 from rfl] at hn
    have hs := most_sum p hp (m' + 1) 30000
    have hs2 : 900000000 ≤ dot (seqV p (m' + 1) 30000) (seqV p (m' + 1) 30000) := by
      have e2 : dot (seqV p (m' + 1) 30000) (seqV p (m' + 1) 30000) = 30000 * 30000 + dot (seqV p m' (nx p 30000)) (seqV p m' (nx p 30000)) := rfl
      have := dot_self_nonneg (seqV p m' (nx p 30000))
      omega
    obtain ⟨c, hc, c1, c2⟩ := found p (dot (seqV p (m' + 1) 30000) (seqV p (m' + 1) 30000)) (dot (seqV p m' (nx p 30000)) (seqV p (m' + 1) 30000)) hp hs2 (by omega) (by omega) (by omega)
    refine Ev.bind a1 ?_
    have a2 := levin_solve [dot (seqV p (m' + 1) 30000) (seqV p (m' + 1) 30000), dot (seqV p m' (nx p 30000)) (seqV p (m' + 1) 30000)] (by simp) (by simp)
    have er : rd [dot (seqV p (m' + 1) 30000) (seqV p (m' + 1) 30000), dot (seqV p m' (nx p 30000)) (seqV p (m' + 1) 30000)] 0 = dot (seqV p (m' + 1) 30000) (seqV p (m' + 1) 30000) := rfl
    rw [er, if_neg (by omega), hc] at a2
    refine Ev.bind a2 ?_
    refine evPos rfl (evPos rfl (evPos (by simp) (evPos (by simp) ?_)))
    have ec : rd [c] 0 = c := rfl
    simp only [ec]
    rw [w64 (x := c - p) (by omega) (by omega)]
    exact evPos (by omega) (evConst (by simp; omega))
  | succ d ih =>
    intro A v i hA hi hl hv
    refine Ev.step (fun k => by rw [madrigallaw12_LevinFirst.l0]) ?_
    have hb := part_le (v := v) hp
    have hx := (nx_facts (v := v) hp).1
    unfold ab at hb hx
    refine evPos (by omega) (evPos (by omega) ?_)
    rw [w64 (x := v * p) (by omega) (by omega)]
    have en : Int.tdiv (v * p) 4096 = nx p v := rfl
    rw [en, w64 (x := nx p v) (by omega) (by omega), w64 (x := i + 1) (by omega) (by omega)]
    exact ih (A ++ [v]) (nx p v) (i + 1) (by rw [List.append_assoc]; exact hA) (by simp; omega) (by simp; omega) (by omega)
theorem LevinFirst : madrigallaw12_LevinFirst.Pure := by
  intro p n _ _
  have hj : ∀ b, (b = false → -3686 ≤ p ∧ p ≤ 3686 ∧ 200 ≤ n ∧ n ≤ 400) → Ev (fun k => madrigallaw12_LevinFirst.j0 k p n b) true := by
    intro b h
    refine Ev.step (fun k => by rw [madrigallaw12_LevinFirst.j0]) ?_
    refine evIte (fun _ => Ev.now _) (fun hb => ?_)
    obtain ⟨g1, g2, g3, g4⟩ := h (by simpa using hb)
    obtain ⟨m, rfl⟩ : ∃ m : Nat, n = m := ⟨n.toNat, by omega⟩
    exact first_l0 p m ⟨g1, g2⟩ (by omega) (by omega) m [] 30000 0 rfl rfl (by simp) (by omega)
  refine Ev.rounds (Ev.congr (fun k => by rw [madrigallaw12_LevinFirst.f]) (Ev.bind awake12 (evPos rfl ?_)))
  refine evIte (fun _ => hj _ (by simp)) (fun g1 => evIte (fun _ => hj _ (by simp)) (fun g2 => evIte (fun _ => hj _ (by simp)) (fun g3 => ?_)))
  exact hj _ (fun h => by simp at h; omega)
end Go.Proofs.Ytllglpcpjeggcaa.Pure
