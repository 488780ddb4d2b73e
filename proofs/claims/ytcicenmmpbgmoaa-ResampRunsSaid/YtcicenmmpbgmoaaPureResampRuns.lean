/- Any samples, piece by piece, are made samples of another rate as the document says; pieces that may not be change nothing: for all rates and pieces that the statement speaks of, without conditions. -/
import Derived.Test.YtcicenmmpbgmoaaPx30
import Derived.Test.YtcicenmmpbgmoaaPx29
import Derived.Test.YtcicenmmpbgmoaaPx27
import Derived.Test.YtcicenmmpbgmoaaPx12
import Derived.Test.YtcicenmmpbgmoaaPx25
import Derived.Test.YtcicenmmpbgmoaaPx15
import Derived.KernelRfl
import Derived.Test.YtcicenmmpbgmoaaWMore
import Derived.Test.YtcicenmmpbgmoaaWLast
import Derived.Test.YtcicenmmpbgmoaaPx18
import Derived.Test.YtcicenmmpbgmoaaPx11
import Derived.Test.YtcicenmmpbgmoaaPx17
import Derived.Test.YtcicenmmpbgmoaaPx2
import Derived.Test.YtcicenmmpbgmoaaPx9
import Derived.Test.YtcicenmmpbgmoaaPx4
namespace Go.Proofs.Ytcicenmmpbgmoaa.Pure
open Go.RowKit Go.Proofs.Ytcicenmmpbgmoaa.P Go.Proofs.YtcicenmmpbgmoaaW.PrintWords Go.Proofs.YtcicenmmpbgmoaaW.PrintLast Go.Proofs.YtcicenmmpbgmoaaW.PrintMore
theorem awake22 : madrigallaw22_awake.f 400 = some true := by kernel_rfl
theorem awakeEv22 : Ev (fun k => madrigallaw22_awake.f k) true := Ev.of madrigallaw22_awake.mono awake22
end Go.Proofs.Ytcicenmmpbgmoaa.Pure
namespace Go.Proofs.Ytcicenmmpbgmoaa.Q
open Go.RowKit Go.Proofs.YtcicenmmpbgmoaaW.PrintWords Go.Proofs.YtcicenmmpbgmoaaW.PrintLast Go.Proofs.YtcicenmmpbgmoaaW.PrintMore
set_option linter.unusedVariables false
theorem evPos {α : Type} {c : Prop} [Decidable c] {A B : Nat → Option α} {r : α} (h : c) (hA : Ev A r) : Ev (fun k => if c then A k else B k) r := by
  obtain ⟨K, hA⟩ := hA
  exact ⟨K, fun k hk => by simp only [if_pos h]; exact hA k hk⟩
theorem evNeg {α : Type} {c : Prop} [Decidable c] {A B : Nat → Option α} {r : α} (h : ¬ c) (hB : Ev B r) : Ev (fun k => if c then A k else B k) r := by
  obtain ⟨K, hB⟩ := hB
  exact ⟨K, fun k hk => by simp only [if_neg h]; exact hB k hk⟩
theorem evIte {α : Type} {c : Prop} [Decidable c] {A B : Nat → Option α} {r : α} (hA : c → Ev A r) (hB : ¬ c → Ev B r) : Ev (fun k => if c then A k else B k) r := by
  by_cases h : c
  · exact evPos h (hA h)
  · exact evNeg h (hB h)
theorem evConst {α : Type} {r : α} {o : Option α} (h : o = some r) : Ev (fun _ => o) r := ⟨0, fun _ _ => h⟩
theorem evEq {α : Type} {g : Nat → Option α} {r r' : α} (h : Ev g r) (e : r = r') : Ev g r' := e ▸ h
theorem w64 {x : Int} (h1 : -9223372036854775808 ≤ x) (h2 : x ≤ 9223372036854775807) : wrap64 x = x := by
  unfold wrap64; omega
theorem rd_nat (l : List Int) (n : Nat) : rd l (n : Int) = l.getD n 0 := by
  unfold rd; simp
theorem rd_mid (A : List Int) (c : Int) (B : List Int) (i : Int) (h : i = A.length) : rd (A ++ c :: B) i = c := by
  subst h
  unfold rd
  rw [List.getD_eq_getElem?_getD, Int.toNat_natCast, List.getElem?_append_right (Nat.le_refl _)]
  simp
end Go.Proofs.Ytcicenmmpbgmoaa.Q
namespace Go.Proofs.Ytcicenmmpbgmoaa.Q
open Go.RowKit Go.Proofs.Ytcicenmmpbgmoaa.P Go.Proofs.YtcicenmmpbgmoaaW.PrintWords Go.Proofs.YtcicenmmpbgmoaaW.PrintLast Go.Proofs.YtcicenmmpbgmoaaW.PrintMore
set_option linter.unusedVariables false
theorem same22_l0 (n : Nat) : ∀ (S T A B : List Int) (i : Int), S.length = n → T.length = S.length → B.length = A.length → i = A.length → A.length + S.length ≤ 1000000000 →
    Ev (fun k => madrigallaw22_same.l0 k (A ++ S) (B ++ T) i) (decide (S = T)) := by
  induction n with
  | zero =>
    intro S T A B i hn ht hb hi hl
    have e1 : S = [] := List.eq_nil_of_length_eq_zero hn
    subst e1
    have e2 : T = [] := List.eq_nil_of_length_eq_zero (by simpa using ht)
    subst e2
    refine Ev.step (fun k => by rw [madrigallaw22_same.l0]) ?_
    exact evNeg (by simp; omega) (evConst (by simp))
  | succ n ih =>
    intro S T A B i hn ht hb hi hl
    cases S with
    | nil => simp at hn
    | cons s S =>
      cases T with
      | nil => simp at ht
      | cons t T =>
        simp at hn ht hl
        refine Ev.step (fun k => by rw [madrigallaw22_same.l0]) ?_
        refine evPos (by simp; omega) (evPos (by omega) (evPos (by simp; omega) ?_))
        rw [rd_mid _ _ _ _ hi, rd_mid B t T i (by omega), w64 (x := i + 1) (by omega) (by omega)]
        refine evIte (fun h => ?_) (fun h => evConst (by simp [h]))
        have h2 := ih S T (A ++ [s]) (B ++ [t]) (i + 1) (by omega) (by omega) (by simp; omega) (by simp; omega) (by simp; omega)
        have e : decide (s :: S = t :: T) = decide (S = T) := by apply decide_eq_decide.2; simp [h]
        rw [e]
        simpa using h2
theorem same22 (a b : List Int) (h : a.length ≤ 1000000000) : Ev (fun k => madrigallaw22_same.f k a b) (decide (a = b)) := by
  refine Ev.congr (fun k => by rw [madrigallaw22_same.f]) ?_
  refine evIte (fun h2 => ?_) (fun h2 => evConst ?_)
  · have := same22_l0 a.length a b [] [] 0 rfl (by omega) rfl rfl (by simpa using h)
    simpa using this
  · congr 1; symm; apply decide_eq_false; rintro rfl; exact h2 rfl
end Go.Proofs.Ytcicenmmpbgmoaa.Q
namespace Go.Proofs.Ytcicenmmpbgmoaa.Q
open Go.RowKit Go.Proofs.YtcicenmmpbgmoaaW.PrintWords Go.Proofs.YtcicenmmpbgmoaaW.PrintLast Go.Proofs.YtcicenmmpbgmoaaW.PrintMore Go.Proofs.Ytcicenmmpbgmoaa.P
set_option linter.unusedVariables false
def rates22 : List Int := [8000, 12000, 16000, 24000, 48000]
theorem rate22 (a : Int) : resamp_rate.f a = some (decide (a ∈ rates22)) := by
  unfold resamp_rate.f rates22
  by_cases h1 : a = 8000
  · simp [h1]
  by_cases h2 : a = 12000
  · simp [h2]
  by_cases h3 : a = 16000
  · simp [h3]
  by_cases h4 : a = 24000
  · simp [h4]
  by_cases h5 : a = 48000
  · simp [h5]
  simp [h1, h2, h3, h4, h5]
theorem known22 (a : Int) : madrigalref10_Known.f a = some (decide (a ∈ rates22)) := by
  unfold madrigalref10_Known.f rates22
  by_cases h1 : a = 8000
  · simp [h1]
  by_cases h2 : a = 12000
  · simp [h2]
  by_cases h3 : a = 16000
  · simp [h3]
  by_cases h4 : a = 24000
  · simp [h4]
  by_cases h5 : a = 48000
  · simp [h5]
  simp [h1, h2, h3, h4, h5]
theorem good22 (a b : Int) : resamp_Good.f a b = some (decide (a ∈ rates22) && decide (b ∈ rates22)) := by
  unfold resamp_Good.f
  rw [rate22, rate22]
  by_cases h : a ∈ rates22 <;> simp [h]
theorem new22 {a b : Int} (ha : a ∈ rates22) (hb : b ∈ rates22) : resamp_New1.f a b = some (a, b, List.replicate 16 0, 0) := by
  unfold resamp_New1.f
  rw [good22]
  simp [ha, hb]
def flt22 (a b : Int) (p : Nat) : List Int := (resamp_Filter.f 400 a b (p : Int)).getD []
def prt22 (a b : Int) : Int × Int := (resamp_parts.f 400 a b).getD (0, 0)
def l22 (a b : Int) : Nat := (prt22 a b).1.toNat
def m22 (a b : Int) : Nat := (prt22 a b).2.toNat
def fchk22 (a b : Int) (p : Nat) : Bool :=
  match resamp_Filter.f 400 a b (p : Int) with
  | none => false
  | some f => f.length == 16 && (f.all fun v => decide (-65536 ≤ v) && decide (v ≤ 65536)) && (List.foldl (· + ·) 0 f == 32768)
def chk22 (a b : Int) : Bool :=
  match resamp_parts.f 400 a b, madrigalref10_Parts.f 400 a b with
  | some (l, m), some (l2, m2) => l == l2 && m == m2 && decide (1 ≤ l) && decide (l ≤ 6) && decide (1 ≤ m) && decide (m ≤ 6) && (l * a == m * b) && (List.range l.toNat).all fun p => fchk22 a b p
  | _, _ => false
theorem chk22_0 : (rates22.all fun b => chk22 8000 b) = true := by decide +kernel
theorem chk22_1 : (rates22.all fun b => chk22 12000 b) = true := by decide +kernel
theorem chk22_2 : (rates22.all fun b => chk22 16000 b) = true := by decide +kernel
theorem chk22_3 : (rates22.all fun b => chk22 24000 b) = true := by decide +kernel
theorem chk22_4 : (rates22.all fun b => chk22 48000 b) = true := by decide +kernel
theorem chk22_in {a b : Int} (ha : a ∈ rates22) (hb : b ∈ rates22) : chk22 a b = true := by
  simp only [rates22, List.mem_cons, List.not_mem_nil, or_false] at ha
  rcases ha with rfl | rfl | rfl | rfl | rfl
  · exact List.all_eq_true.mp chk22_0 b hb
  · exact List.all_eq_true.mp chk22_1 b hb
  · exact List.all_eq_true.mp chk22_2 b hb
  · exact List.all_eq_true.mp chk22_3 b hb
  · exact List.all_eq_true.mp chk22_4 b hb
structure Rates22 (a b : Int) (l m : Nat) (flt : Nat → List Int) : Prop where
  rl : a ∈ rates22
  rr : b ∈ rates22
  parts : Ev (fun k => resamp_parts.f k a b) ((l : Int), (m : Int))
  refparts : Ev (fun k => madrigalref10_Parts.f k a b) ((l : Int), (m : Int))
  l1 : 1 ≤ l
  l6 : l ≤ 6
  m1 : 1 ≤ m
  m6 : m ≤ 6
  cross : (l : Int) * a = (m : Int) * b
  flts : ∀ p, p < l → Ev (fun k => resamp_Filter.f k a b (p : Int)) (flt p)
  len : ∀ p, p < l → (flt p).length = 16
  bound : ∀ p, p < l → ∀ i, -65536 ≤ (flt p).getD i 0 ∧ (flt p).getD i 0 ≤ 65536
  one : ∀ p, p < l → (flt p).foldl (· + ·) 0 = 32768
theorem rates22_all {a b : Int} (ha : a ∈ rates22) (hb : b ∈ rates22) : Rates22 a b (l22 a b) (m22 a b) (flt22 a b) := by
  have h := chk22_in ha hb
  unfold chk22 at h
  split at h
  · rename_i l m l2 m2 e1 e2
    simp only [Bool.and_eq_true, beq_iff_eq, decide_eq_true_eq, List.all_eq_true, List.mem_range] at h
    obtain ⟨⟨⟨⟨⟨⟨⟨hl, hm⟩, h1⟩, h2⟩, h3⟩, h4⟩, h5⟩, h6⟩ := h
    subst hl hm
    have el : (l22 a b : Int) = l := by unfold l22 prt22; rw [e1]; simp; omega
    have em : (m22 a b : Int) = m := by unfold m22 prt22; rw [e1]; simp; omega
    have hF : ∀ p, p < l22 a b → resamp_Filter.f 400 a b (p : Int) = some (flt22 a b p) ∧ (flt22 a b p).length = 16 ∧ (∀ v ∈ flt22 a b p, -65536 ≤ v ∧ v ≤ 65536) ∧ (flt22 a b p).foldl (· + ·) 0 = 32768 := by
      intro p hp
      have h := h6 p (by omega)
      unfold fchk22 at h
      unfold flt22
      cases hx : resamp_Filter.f 400 a b (p : Int) with
      | none => rw [hx] at h; simp at h
      | some f =>
        rw [hx] at h
        simp only [Bool.and_eq_true, beq_iff_eq, decide_eq_true_eq, List.all_eq_true] at h
        exact ⟨rfl, h.1.1, h.1.2, h.2⟩
    exact {
      rl := ha
      rr := hb
      parts := by rw [el, em]; exact Ev.of (resamp_parts.mono a b) e1
      refparts := by rw [el, em]; exact Ev.of (madrigalref10_Parts.mono a b) e2
      l1 := by omega
      l6 := by omega
      m1 := by omega
      m6 := by omega
      cross := by rw [el, em]; exact h5
      flts := fun p hp => Ev.of (resamp_Filter.mono a b p) (hF p hp).1
      len := fun p hp => (hF p hp).2.1
      bound := fun p hp i => by
        rw [List.getD_eq_getElem?_getD]
        by_cases hi : i < (flt22 a b p).length
        · rw [List.getElem?_eq_getElem hi]
          exact (hF p hp).2.2.1 _ (List.getElem_mem hi)
        · rw [List.getElem?_eq_none (by omega)]
          simp
      one := fun p hp => (hF p hp).2.2.2 }
  · simp at h
end Go.Proofs.Ytcicenmmpbgmoaa.Q
namespace Go.Proofs.Ytcicenmmpbgmoaa.M
set_option linter.unusedVariables false
def clamp (a lo hi : Int) : Int := if lo > hi ∨ a < lo then lo else if a > hi then hi else a
theorem clamp_bounds {a lo hi : Int} (h : lo ≤ hi) : lo ≤ clamp a lo hi ∧ clamp a lo hi ≤ hi := by
  unfold clamp; repeat' split
  all_goals omega
end Go.Proofs.Ytcicenmmpbgmoaa.M
namespace Go.Proofs.Ytcicenmmpbgmoaa.Q
open Go.RowKit Go.Proofs.Ytcicenmmpbgmoaa.P Go.Proofs.YtcicenmmpbgmoaaW.PrintWords Go.Proofs.YtcicenmmpbgmoaaW.PrintLast Go.Proofs.YtcicenmmpbgmoaaW.PrintMore
open Go.Proofs.Ytcicenmmpbgmoaa.M
set_option linter.unusedVariables false
theorem fix_clamp (a lo hi : Int) : Ev (fun k => fix_Clamp.f k a lo hi) (clamp a lo hi) := by
  have hj : ∀ b, Ev (fun k => fix_Clamp.j0 k a lo hi b) (if b = true then lo else if a > hi then hi else a) := by
    intro b
    refine Ev.step (fun k => by rw [fix_Clamp.j0]) ?_
    refine evConst ?_
    cases b <;> simp <;> split <;> rfl
  refine Ev.congr (fun k => by rw [fix_Clamp.f]) ?_
  refine evIte (fun h => ?_) (fun h => ?_)
  · exact evEq (hj true) (by unfold clamp; simp [h])
  · exact evEq (hj _) (by unfold clamp; simp [h])
end Go.Proofs.Ytcicenmmpbgmoaa.Q
namespace Go.Proofs.Ytcicenmmpbgmoaa.Q
open Go.RowKit Go.Proofs.YtcicenmmpbgmoaaW.PrintWords Go.Proofs.YtcicenmmpbgmoaaW.PrintLast Go.Proofs.YtcicenmmpbgmoaaW.PrintMore Go.Proofs.Ytcicenmmpbgmoaa.P Go.Proofs.Ytcicenmmpbgmoaa.M
set_option linter.unusedVariables false
theorem sat_ev (v : Int) : Ev (fun k => fix_Sat16.f k v) (clamp v (-32768) 32767) := by
  refine Ev.congr (fun k => by rw [fix_Sat16.f]) ?_
  exact Ev.bind (fix_clamp v (-32768) 32767) (evConst rfl)
theorem run_l0 (x : List Int) (l m a b : Int) (kept : List Int) {R : List Int × Int × Int × Int × List Int} (hx : x.length ≤ 4800) (hl : 0 ≤ l) (hl2 : l ≤ 6) (z : List Int) (hz : z.length + x.length ≤ 10000)
    (h : Ev (fun k => resamp_Sampler_Run.l1 k x l m (z ++ x.map fun v => clamp v (-32768) 32767) (List.replicate l.toNat []) ((List.replicate l.toNat ([] : List Int)).length : Int) 0 a b kept) R) :
    Ev (fun k => resamp_Sampler_Run.l0 k x l m z x (x.length : Int) 0 a b kept) R := by
  suffices H : ∀ (n : Nat) (S A : List Int) (i : Int), S.length = n → x = A ++ S → i = A.length → Ev (fun k => resamp_Sampler_Run.l0 k x l m (z ++ A.map fun v => clamp v (-32768) 32767) x (x.length : Int) i a b kept) R by
    have := H x.length x [] 0 rfl rfl rfl
    simpa using this
  intro n
  induction n with
  | zero =>
    intro S A i hn he hi
    have e1 : S = [] := List.eq_nil_of_length_eq_zero hn
    subst e1
    have e2 : A = x := by simpa using he.symm
    subst e2
    refine Ev.step (fun k => by rw [resamp_Sampler_Run.l0]) ?_
    refine evNeg (by omega) (evPos hl (evPos (by omega) ?_))
    refine Ev.congr (fun k => by rw [Option.bind_some]) ?_
    exact h
  | succ n ih =>
    intro S A i hn he hi
    cases S with
    | nil => simp at hn
    | cons s S =>
      simp at hn
      have hlx : x.length = A.length + S.length + 1 := by rw [he]; simp; omega
      refine Ev.step (fun k => by rw [resamp_Sampler_Run.l0]) ?_
      refine evPos (by omega) (evPos (by omega) (evPos (by omega) ?_))
      have e3 : rd x i = s := by rw [he]; exact rd_mid _ _ _ _ hi
      rw [e3]
      refine Ev.bind (sat_ev s) (evPos (by simp; omega) ?_)
      rw [w64 (x := i + 1) (by omega) (by omega)]
      have := ih S (A ++ [s]) (i + 1) (by omega) (by simpa using he) (by simp; omega)
      simpa using this
theorem run_l1 (x z : List Int) (l : Nat) (m a b : Int) (kept : List Int) (flt : Nat → List Int) {R : List Int × Int × Int × Int × List Int} (hx : x.length ≤ 4800) (hl2 : l ≤ 6) (hm : 1 ≤ m)
    (hf : ∀ p : Nat, p < l → Ev (fun k => resamp_Filter.f k a b (p : Int)) (flt p))
    (h : Ev (fun k => resamp_Sampler_Run.l2 k (l : Int) m z ((List.range l).map flt) (List.replicate (Int.toNat (Int.tdiv ((l : Int) * x.length) m)) 0) ((List.replicate (Int.toNat (Int.tdiv ((l : Int) * x.length) m)) (0 : Int)).length : Int) 0 a b kept) R) :
    Ev (fun k => resamp_Sampler_Run.l1 k x (l : Int) m z (List.replicate l []) ((List.replicate l ([] : List Int)).length : Int) 0 a b kept) R := by
  have h0 : 0 ≤ (l : Int) * x.length := Int.mul_nonneg (by omega) (by omega)
  have h1 : (l : Int) * x.length ≤ 28800 := by
    have := Nat.mul_le_mul hl2 hx
    have e : ((l * x.length : Nat) : Int) = (l : Int) * x.length := by simp
    omega
  have h2 : 0 ≤ Int.tdiv ((l : Int) * x.length) m := Int.tdiv_nonneg h0 (by omega)
  have h3 : Int.tdiv ((l : Int) * x.length) m ≤ 28800 := by
    rw [Int.tdiv_eq_ediv_of_nonneg h0]
    have := Int.ediv_le_self m h0
    omega
  suffices H : ∀ (n q : Nat), q + n = l → Ev (fun k => resamp_Sampler_Run.l1 k x (l : Int) m z ((List.range q).map flt ++ List.replicate n []) (l : Int) (q : Int) a b kept) R by
    have := H l 0 (by omega)
    simpa using this
  intro n
  induction n with
  | zero =>
    intro q hq
    obtain rfl : q = l := by omega
    refine Ev.step (fun k => by rw [resamp_Sampler_Run.l1]) ?_
    rw [w64 (x := (q : Int) * x.length) (by omega) (by omega), w64 (x := Int.tdiv ((q : Int) * x.length) m) (by omega) (by omega)]
    refine evNeg (by omega) (evNeg (by omega) (evPos h2 (evPos (by omega) ?_)))
    refine Ev.congr (fun k => by rw [Option.bind_some]) ?_
    simpa using h
  | succ n ih =>
    intro q hq
    refine Ev.step (fun k => by rw [resamp_Sampler_Run.l1]) ?_
    refine evPos (by omega) (Ev.bind (hf q (by omega)) (evPos (by omega) (evPos (by simp; omega) ?_)))
    rw [w64 (x := (q : Int) + 1) (by omega) (by omega)]
    have e : (((List.range q).map flt ++ List.replicate (n + 1) []).set (q : Int).toNat (flt q)) = (List.range (q + 1)).map flt ++ List.replicate n [] := by
      rw [Int.toNat_natCast, List.set_append_right _ _ (by simp)]
      simp [List.range_succ, List.replicate_succ]
    rw [e]
    have := ih (q + 1) (by omega)
    simpa using this
def part22 (f z : List Int) (b : Nat) : Nat → Int
  | 0 => 16384
  | t + 1 => part22 f z b t + f.getD t 0 * z.getD (b + 1 + t) 0
theorem part22_le {f z : List Int} (b : Nat) (hf : ∀ i, -65536 ≤ f.getD i 0 ∧ f.getD i 0 ≤ 65536) (hz : ∀ i, -32768 ≤ z.getD i 0 ∧ z.getD i 0 ≤ 32768) : ∀ t : Nat, -(2147483648 * (t : Int)) ≤ part22 f z b t - 16384 ∧ part22 f z b t - 16384 ≤ 2147483648 * (t : Int)
  | 0 => by simp [part22]
  | t + 1 => by
    have ih := part22_le b hf hz t
    have h1 := hf t
    have h2 := hz (b + 1 + t)
    have h3 : -2147483648 ≤ f.getD t 0 * z.getD (b + 1 + t) 0 ∧ f.getD t 0 * z.getD (b + 1 + t) 0 ≤ 2147483648 := by
      generalize f.getD t 0 = u at *
      generalize z.getD (b + 1 + t) 0 = v at *
      constructor
      · rcases Int.le_total 0 u with hu | hu
        · have := Int.mul_le_mul_of_nonneg_left h2.1 hu
          omega
        · have := Int.mul_le_mul_of_nonpos_left hu h2.2
          omega
      · rcases Int.le_total 0 u with hu | hu
        · have := Int.mul_le_mul_of_nonneg_left h2.2 hu
          omega
        · have := Int.mul_le_mul_of_nonpos_left hu h2.1
          omega
    simp only [part22]
    push_cast
    omega
theorem run_l3 (l m : Int) (z : List Int) (fs : List (List Int)) (out : List Int) (j : Nat) (b : Nat) (N : Int) (f : List Int) (x0 x1 : Int) (kept : List Int) {R : List Int × Int × Int × Int × List Int}
    (hl : f.length = 16) (hf : ∀ i, -65536 ≤ f.getD i 0 ∧ f.getD i 0 ≤ 65536) (hz : ∀ i, -32768 ≤ z.getD i 0 ∧ z.getD i 0 ≤ 32768) (hb : b + 17 ≤ z.length) (hzl : z.length ≤ 10000) (hj : j < out.length) (hj2 : j ≤ 100000)
    (h : Ev (fun k => resamp_Sampler_Run.l2 k l m z fs (out.set j (clamp (part22 f z b 16 / 32768) (-32768) 32767)) N ((j : Int) + 1) x0 x1 kept) R) :
    Ev (fun k => resamp_Sampler_Run.l3 k l m z fs out (j : Int) (b : Int) 16384 N (j : Int) f (f.length : Int) 0 x0 x1 kept) R := by
  suffices H : ∀ (n q : Nat), q + n = 16 → Ev (fun k => resamp_Sampler_Run.l3 k l m z fs out (j : Int) (b : Int) (part22 f z b q) N (j : Int) f (f.length : Int) (q : Int) x0 x1 kept) R by
    exact H 16 0 rfl
  intro n
  induction n with
  | zero =>
    intro q hq
    obtain rfl : q = 16 := by omega
    refine Ev.step (fun k => by rw [resamp_Sampler_Run.l3]) ?_
    refine evNeg (by omega) (Ev.bind (sat_ev _) (evPos (by omega) (evPos (by omega) ?_)))
    rw [w64 (x := (j : Int) + 1) (by omega) (by omega), Int.toNat_natCast]
    exact h
  | succ n ih =>
    intro q hq
    have hp := part22_le b hf hz q
    have hp2 := part22_le b hf hz (q + 1)
    refine Ev.step (fun k => by rw [resamp_Sampler_Run.l3]) ?_
    have e1 : wrap64 ((wrap64 ((wrap64 ((b : Int) + 8)) + (q : Int))) - 7) = ((b + 1 + q : Nat) : Int) := by
      rw [w64 (x := (b : Int) + 8) (by omega) (by omega), w64 (x := (b : Int) + 8 + q) (by omega) (by omega), w64 (by omega) (by omega)]
      omega
    rw [e1]
    refine evPos (by omega) (evPos (by omega) (evPos (by omega) (evPos (by omega) (evPos (by omega) ?_))))
    rw [rd_nat, rd_nat, w64 (x := (q : Int) + 1) (by omega) (by omega)]
    have e2 : part22 f z b (q + 1) = part22 f z b q + f.getD q 0 * z.getD (b + 1 + q) 0 := rfl
    rw [w64 (x := f.getD q 0 * z.getD (b + 1 + q) 0) (by omega) (by omega), w64 (x := part22 f z b q + f.getD q 0 * z.getD (b + 1 + q) 0) (by omega) (by omega), ← e2]
    have := ih (q + 1) (by omega)
    simpa using this
theorem rdL_nat (fs : List (List Int)) (n : Nat) : rd_L1 fs (n : Int) = fs.getD n [] := by
  simp [rd_L1]
theorem run_l2 (l m : Nat) (z : List Int) (flt : Nat → List Int) (n : Nat) (a b : Int) (kept : List Int) (hl : 1 ≤ l) (hl2 : l ≤ 6) (hm : 1 ≤ m) (hm2 : m ≤ 6) (hn : n ≤ 28800)
    (hlen : ∀ p, p < l → (flt p).length = 16) (hf : ∀ p, p < l → ∀ i, -65536 ≤ (flt p).getD i 0 ∧ (flt p).getD i 0 ≤ 65536) (hz : ∀ i, -32768 ≤ z.getD i 0 ∧ z.getD i 0 ≤ 32768) (hzl : z.length ≤ 10000) (hz16 : 16 ≤ z.length)
    (hb : ∀ j, j < n → j * m / l + 17 ≤ z.length) :
    Ev (fun k => resamp_Sampler_Run.l2 k (l : Int) (m : Int) z ((List.range l).map flt) (List.replicate n 0) ((List.replicate n (0 : Int)).length : Int) 0 a b kept)
      ((List.range n).map fun j => clamp (part22 (flt (j * m % l)) z (j * m / l) 16 / 32768) (-32768) 32767, 0, a, b, List.take 16 (z.drop (z.length - 16)) ++ List.drop (z.drop (z.length - 16)).length kept) := by
  suffices H : ∀ (r q : Nat), q + r = n → Ev (fun k => resamp_Sampler_Run.l2 k (l : Int) (m : Int) z ((List.range l).map flt) (((List.range q).map fun j => clamp (part22 (flt (j * m % l)) z (j * m / l) 16 / 32768) (-32768) 32767) ++ List.replicate r 0) (n : Int) (q : Int) a b kept)
      ((List.range n).map fun j => clamp (part22 (flt (j * m % l)) z (j * m / l) 16 / 32768) (-32768) 32767, 0, a, b, List.take 16 (z.drop (z.length - 16)) ++ List.drop (z.drop (z.length - 16)).length kept) by
    have := H n 0 (by omega)
    simpa using this
  intro r
  induction r with
  | zero =>
    intro q hq
    obtain rfl : q = n := by omega
    refine Ev.step (fun k => by rw [resamp_Sampler_Run.l2]) ?_
    rw [w64 (x := (z.length : Int) - 16) (by omega) (by omega)]
    refine evNeg (by omega) (evPos (by omega) (evPos (by omega) (evConst ?_)))
    have e : ((z.length : Int) - 16).toNat = z.length - 16 := by omega
    simp [e]
  | succ r ih =>
    intro q hq
    have hqm : q * m ≤ 172800 := Nat.le_trans (Nat.mul_le_mul (show q ≤ 28800 by omega) hm2) (by omega)
    have e0 : ((q : Int) * (m : Int)) = ((q * m : Nat) : Int) := by simp
    have e1 : Int.tmod ((q * m : Nat) : Int) (l : Int) = ((q * m % l : Nat) : Int) := by rw [Int.tmod_eq_emod_of_nonneg (Int.natCast_nonneg _)]; rfl
    have e2 : Int.tdiv ((q * m : Nat) : Int) (l : Int) = ((q * m / l : Nat) : Int) := by rw [Int.tdiv_eq_ediv_of_nonneg (Int.natCast_nonneg _)]; rfl
    have hp : q * m % l < l := Nat.mod_lt _ (by omega)
    have hd : q * m / l ≤ q * m := Nat.div_le_self _ _
    refine Ev.step (fun k => by rw [resamp_Sampler_Run.l2]) ?_
    obtain ⟨pp, hpp⟩ : ∃ pp, pp = q * m % l := ⟨_, rfl⟩
    obtain ⟨dd, hdd⟩ : ∃ dd, dd = q * m / l := ⟨_, rfl⟩
    obtain ⟨qm, hqm'⟩ : ∃ qm, qm = q * m := ⟨_, rfl⟩
    have hb' := hb q (by omega)
    rw [← hqm'] at e0 e1 e2 hqm hp hd hpp hdd hb'
    rw [← hpp] at e1 hp
    rw [← hdd] at e2 hd hb'
    rw [e0, w64 (x := ((qm : Nat) : Int)) (by omega) (by omega), e1, e2, w64 (x := (dd : Int)) (by omega) (by omega), rdL_nat]
    refine evPos (by omega) (evNeg (by omega) (evPos (by omega) (evPos (by simp; omega) ?_)))
    have e3 : ((List.range l).map flt).getD pp [] = flt pp := by
      rw [List.getD_eq_getElem?_getD]
      simp [hp]
    rw [e3]
    refine run_l3 _ _ _ _ _ q dd _ _ _ _ _ (hlen _ hp) (hf _ hp) hz hb' hzl (by first | (simp; done) | (simp; omega)) (by omega) ?_
    subst hpp hdd hqm'
    have := ih (q + 1) (by omega)
    have e4 : ((((List.range q).map fun j => clamp (part22 (flt (j * m % l)) z (j * m / l) 16 / 32768) (-32768) 32767) ++ List.replicate (r + 1) 0).set q (clamp (part22 (flt (q * m % l)) z (q * m / l) 16 / 32768) (-32768) 32767)) = ((List.range (q + 1)).map fun j => clamp (part22 (flt (j * m % l)) z (j * m / l) 16 / 32768) (-32768) 32767) ++ List.replicate r 0 := by
      rw [List.set_append_right _ _ (by simp)]
      simp [List.range_succ, List.replicate_succ]
    rw [e4]
    simpa using this
def sats22 (x : List Int) : List Int := x.map fun v => clamp v (-32768) 32767
def res22 (l m : Nat) (flt : Nat → List Int) (z : List Int) (n : Nat) : List Int := (List.range n).map fun j => clamp (part22 (flt (j * m % l)) z (j * m / l) 16 / 32768) (-32768) 32767
def In16 (z : List Int) : Prop := ∀ i, -32768 ≤ z.getD i 0 ∧ z.getD i 0 ≤ 32768
theorem in16_of {z : List Int} (h : ∀ v ∈ z, -32768 ≤ v ∧ v ≤ 32768) : In16 z := by
  intro i
  rw [List.getD_eq_getElem?_getD]
  by_cases hi : i < z.length
  · rw [List.getElem?_eq_getElem hi]
    exact h _ (List.getElem_mem hi)
  · rw [List.getElem?_eq_none (by omega)]
    simp
theorem in16_mem {z : List Int} (h : In16 z) : ∀ v ∈ z, -32768 ≤ v ∧ v ≤ 32768 := by
  intro v hv
  obtain ⟨i, hi, rfl⟩ := List.getElem_of_mem hv
  have := h i
  rwa [List.getD_eq_getElem?_getD, List.getElem?_eq_getElem hi] at this
theorem in16_app {u v : List Int} (hu : In16 u) (hv : In16 v) : In16 (u ++ v) := in16_of fun w hw => by
  rcases List.mem_append.mp hw with h | h
  · exact in16_mem hu w h
  · exact in16_mem hv w h
theorem in16_sats (x : List Int) : In16 (sats22 x) := in16_of fun w hw => by
  obtain ⟨v, _, rfl⟩ := List.mem_map.mp hw
  have := clamp_bounds (a := v) (show (-32768 : Int) ≤ 32767 by omega)
  omega
theorem in16_drop {z : List Int} (h : In16 z) (n : Nat) : In16 (z.drop n) := in16_of fun w hw => in16_mem h w (List.mem_of_mem_drop hw)
theorem in16_zeros (n : Nat) : In16 (List.replicate n 0) := in16_of fun w hw => by
  obtain rfl := List.eq_of_mem_replicate hw
  omega
theorem run22 {a b : Int} {l m : Nat} {flt : Nat → List Int} (R : Rates22 a b l m flt) {x kept : List Int} (hx : x.length ≤ 4800) (hm : x.length % m = 0) (hk : kept.length = 16) (hz : In16 kept) :
    Ev (fun k => resamp_Sampler_Run.f k a b kept x) (res22 l m flt (kept ++ sats22 x) (x.length / m * l), 0, a, b, (kept ++ sats22 x).drop x.length) := by
  obtain ⟨c, hc⟩ : ∃ c, x.length = m * c := ⟨x.length / m, by have := Nat.div_add_mod x.length (m); omega⟩
  have hcl : x.length / m = c := by rw [hc, Nat.mul_div_cancel_left _ R.m1]
  rw [hcl]
  have h1 := R.l1
  have h6 := R.l6
  have h2 := R.m1
  have h7 := R.m6
  have hsl : (sats22 x).length = x.length := by simp [sats22]
  have hcx : c ≤ x.length := by rw [hc]; exact Nat.le_mul_of_pos_left c h2
  have hlx : ((l : Nat) : Int) * (x.length : Int) = ((c * l * m : Nat) : Int) := by
    rw [hc]; push_cast; rw [Int.mul_comm (c : Int), Int.mul_assoc, Int.mul_comm (c : Int), ]
  have hn : Int.toNat (Int.tdiv ((l : Nat) * (x.length : Int)) (m : Nat)) = c * l := by
    rw [hlx, Int.tdiv_eq_ediv_of_nonneg (Int.natCast_nonneg _)]
    rw [← Int.natCast_ediv, Nat.mul_div_cancel _ h2]
    exact Int.toNat_natCast _
  have hcl2 : c * l ≤ 28800 := Nat.le_trans (Nat.mul_le_mul (show c ≤ 4800 by omega) h6) (by omega)
  refine Ev.congr (fun k => by rw [resamp_Sampler_Run.f]) (Ev.bind R.parts ?_)
  refine evNeg (show ¬ (x.length : Int) > 4800 by omega) (evNeg (show ¬ ((m : Nat) : Int) = 0 by omega) ?_)
  have e0 : ((x.length : Int) % ((m : Nat) : Int) != 0) = false := by
    have : (x.length : Int) % ((m : Nat) : Int) = ((x.length % m : Nat) : Int) := by simp
    rw [this, hm]
    rfl
  rw [e0]
  refine Ev.step (fun k => by rw [resamp_Sampler_Run.j0]) (evNeg (by simp) ?_)
  refine Ev.congr (fun k => by rw [Option.bind_some, List.nil_append]) (evPos (by simp; omega) ?_)
  refine run_l0 x _ _ _ _ _ hx (by omega) (by omega) kept (by omega) ?_
  rw [Int.toNat_natCast]
  refine run_l1 x _ _ _ _ _ _ (flt) hx h6 (by omega) R.flts ?_
  rw [hn]
  have H := run_l2 l (m) (kept ++ sats22 x) (flt) (c * l) a b kept h1 h6 h2 h7 hcl2 R.len R.bound (in16_app hz (in16_sats x)) (by simp; omega) (by simp; omega) (by
    intro j hj
    have e1 : j * m / l < x.length := by
      rw [Nat.div_lt_iff_lt_mul h1, hc]
      calc j * m < c * l * m := Nat.mul_lt_mul_of_pos_right hj h2
        _ = m * c * l := by rw [Nat.mul_comm, Nat.mul_assoc]
    simp
    omega)
  have e1 : (kept ++ sats22 x).length - 16 = x.length := by simp; omega
  rw [e1] at H
  have e2 : List.take 16 ((kept ++ sats22 x).drop x.length) ++ List.drop ((kept ++ sats22 x).drop x.length).length kept = (kept ++ sats22 x).drop x.length := by
    have e3 : ((kept ++ sats22 x).drop x.length).length = 16 := by simp; omega
    rw [e3, List.take_of_length_le (Nat.le_of_eq e3), List.drop_eq_nil_of_le (Nat.le_of_eq hk), List.append_nil]
  rw [e2] at H
  exact H
theorem run22_bad {a b : Int} {l m : Nat} {flt : Nat → List Int} (R : Rates22 a b l m flt) {x kept : List Int} (hm : 4800 < x.length ∨ x.length % m ≠ 0) : Ev (fun k => resamp_Sampler_Run.f k a b kept x) ([], 1, a, b, kept) := by
  have h2 := R.m1
  have hj : Ev (fun k => resamp_Sampler_Run.j0 k x (l : Int) (m : Int) true a b kept) ([], 1, a, b, kept) := Ev.step (fun k => by rw [resamp_Sampler_Run.j0]) (evPos rfl (evConst rfl))
  refine Ev.congr (fun k => by rw [resamp_Sampler_Run.f]) (Ev.bind R.parts ?_)
  by_cases h : (x.length : Int) > 4800
  · exact evPos h hj
  · refine evNeg h (evNeg (show ¬ ((m : Nat) : Int) = 0 by omega) ?_)
    have e0 : ((x.length : Int) % ((m : Nat) : Int) != 0) = true := by
      have : (x.length : Int) % ((m : Nat) : Int) = ((x.length % m : Nat) : Int) := by simp
      rw [this]
      simp
      omega
    rw [e0]
    exact hj
end Go.Proofs.Ytcicenmmpbgmoaa.Q
namespace Go.Proofs.Ytcicenmmpbgmoaa.Pure
open Go.RowKit Go.Proofs.Ytcicenmmpbgmoaa.P Go.Proofs.YtcicenmmpbgmoaaW.PrintWords Go.Proofs.YtcicenmmpbgmoaaW.PrintLast Go.Proofs.YtcicenmmpbgmoaaW.PrintMore Go.Proofs.Ytcicenmmpbgmoaa.Q Go.Proofs.Ytcicenmmpbgmoaa.M
set_option linter.unusedVariables false
def phk22 (a b : Int) : Bool := (List.range 6).all fun p => if p < l22 a b then madrigalref10_Phase.f 400 a b (p : Int) == some (flt22 a b p) else true
theorem phk22_0 : (rates22.all fun b => phk22 8000 b) = true := by decide +kernel
theorem phk22_1 : (rates22.all fun b => phk22 12000 b) = true := by decide +kernel
theorem phk22_2 : (rates22.all fun b => phk22 16000 b) = true := by decide +kernel
theorem phk22_3 : (rates22.all fun b => phk22 24000 b) = true := by decide +kernel
theorem phk22_4 : (rates22.all fun b => phk22 48000 b) = true := by decide +kernel
theorem phk22_in {a b : Int} (ha : a ∈ rates22) (hb : b ∈ rates22) : phk22 a b = true := by
  simp only [rates22, List.mem_cons, List.not_mem_nil, or_false] at ha
  rcases ha with rfl | rfl | rfl | rfl | rfl
  · exact List.all_eq_true.mp phk22_0 b hb
  · exact List.all_eq_true.mp phk22_1 b hb
  · exact List.all_eq_true.mp phk22_2 b hb
  · exact List.all_eq_true.mp phk22_3 b hb
  · exact List.all_eq_true.mp phk22_4 b hb
theorem rates22_ref {a b : Int} (ha : a ∈ rates22) (hb : b ∈ rates22) : ∃ l m flt, Rates22 a b l m flt ∧ ∀ p, p < l → Ev (fun k => madrigalref10_Phase.f k a b (p : Int)) (flt p) := by
  have R := rates22_all ha hb
  refine ⟨_, _, _, R, fun p hp => ?_⟩
  have h6 := R.l6
  have h := List.all_eq_true.mp (phk22_in ha hb) p (List.mem_range.mpr (by omega))
  rw [if_pos hp] at h
  exact Ev.of (madrigalref10_Phase.mono a b p) (eq_of_beq h)
theorem ref_sat22 (v : Int) : Ev (fun k => madrigalref1_Sat16.f k v) (clamp v (-32768) 32767) := by
  have h1 : Ev (fun k => madrigalref1_Clamp.f k v (-32768) 32767) (clamp v (-32768) 32767) := by
    refine Ev.congr (fun k => by rw [madrigalref1_Clamp.f]) ?_
    have hj : ∀ c, Ev (fun k => madrigalref1_Clamp.j0 k v (-32768) 32767 c) (if c = true then -32768 else if v > 32767 then 32767 else v) := by
      intro c
      refine Ev.step (fun k => by rw [madrigalref1_Clamp.j0]) (evConst ?_)
      cases c <;> simp <;> split <;> rfl
    refine evIte (fun h => ?_) (fun h => ?_)
    · refine evEq (hj true) ?_
      unfold clamp
      simp [h]
    · refine evEq (hj _) ?_
      unfold clamp
      simp [h]
  refine Ev.congr (fun k => by rw [madrigalref1_Sat16.f]) ?_
  exact Ev.bind h1 (evConst rfl)
theorem last22 (z : List Int) (h16 : 16 ≤ z.length) (hz : z.length ≤ 10000) : madrigalref10_last.f z 16 = some (z.drop (z.length - 16)) := by
  unfold madrigalref10_last.f
  by_cases h : (z.length : Int) > 16
  · rw [if_pos h, w64 (by omega) (by omega), if_pos (by omega), if_pos (by omega)]
    have e : ((z.length : Int) - 16).toNat = z.length - 16 := by omega
    rw [e]
    simp only [Option.bind_some, List.nil_append]
    rw [if_pos (by simp; omega)]
  · rw [if_neg h]
    simp only [Option.bind_some, List.nil_append]
    rw [if_pos (by simp; omega)]
    have e : z.length - 16 = 0 := by omega
    rw [e, List.drop_zero]
theorem rrun_l3 {a b : Int} {l m : Nat} (x : List Int) (z : List Int) (out : List Int) (j bb : Nat) (f : List Int) (kept : List Int) {Q : List Int × Int × Int × List Int} (fs : List (List Int))
    (hl : f.length = 16) (hf : ∀ i, -65536 ≤ f.getD i 0 ∧ f.getD i 0 ≤ 65536) (hz : ∀ i, -32768 ≤ z.getD i 0 ∧ z.getD i 0 ≤ 32768) (hb : bb + 17 ≤ z.length) (hzl : z.length ≤ 10000) (hj : j ≤ 28800) (ho : out.length ≤ 28800)
    (h : Ev (fun k => madrigalref10_Sampler_Run.l2 k x (l : Int) (m : Int) z fs (out ++ [clamp (part22 f z bb 16 / 32768) (-32768) 32767]) ((j : Int) + 1) a b kept) Q) :
    ∀ (n q : Nat), q + n = 16 → Ev (fun k => madrigalref10_Sampler_Run.l3 k x (l : Int) (m : Int) z fs out (j : Int) (bb : Int) f (part22 f z bb q) ((q : Int) - 7) a b kept) Q := by
  intro n
  induction n with
  | zero =>
    intro q hq
    obtain rfl : q = 16 := by omega
    refine Ev.step (fun k => by rw [madrigalref10_Sampler_Run.l3]) ?_
    refine evNeg (by omega) (Ev.bind (ref_sat22 _) ?_)
    refine evPos (by omega) ?_
    rw [w64 (x := (j : Int) + 1) (by omega) (by omega)]
    exact h
  | succ n ih =>
    intro q hq
    have hp := part22_le bb hf hz q
    have hp2 := part22_le bb hf hz (q + 1)
    refine Ev.step (fun k => by rw [madrigalref10_Sampler_Run.l3]) ?_
    have e1 : wrap64 ((wrap64 ((bb : Int) + 8)) + ((q : Int) - 7)) = ((bb + 1 + q : Nat) : Int) := by
      rw [w64 (x := (bb : Int) + 8) (by omega) (by omega), w64 (by omega) (by omega)]
      omega
    have e0 : wrap64 ((q : Int) - 7 + 7) = ((q : Nat) : Int) := by rw [w64 (by omega) (by omega)]; omega
    rw [e1, e0]
    refine evPos (by omega) (evPos (by omega) (evPos (by omega) (evPos (by omega) (evPos (by omega) ?_))))
    rw [rd_nat, rd_nat, w64 (x := (q : Int) - 7 + 1) (by omega) (by omega)]
    have e2 : part22 f z bb (q + 1) = part22 f z bb q + f.getD q 0 * z.getD (bb + 1 + q) 0 := rfl
    rw [w64 (x := f.getD q 0 * z.getD (bb + 1 + q) 0) (by omega) (by omega), w64 (x := part22 f z bb q + f.getD q 0 * z.getD (bb + 1 + q) 0) (by omega) (by omega), ← e2]
    have := ih (q + 1) (by omega)
    have e3 : ((q + 1 : Nat) : Int) - 7 = (q : Int) - 7 + 1 := by omega
    rw [e3] at this
    exact this
theorem rrun_l2 {a b : Int} {l m : Nat} {flt : Nat → List Int} (R : Rates22 a b l m flt) (x z : List Int) (c : Nat) (kept : List Int) (hx : x.length = c * m) (hn : c * l ≤ 28800) (hz : ∀ i, -32768 ≤ z.getD i 0 ∧ z.getD i 0 ≤ 32768) (hzl : z.length ≤ 10000) (hzx : z.length = 16 + x.length) :
    ∀ (r q : Nat), q + r = c * l → Ev (fun k => madrigalref10_Sampler_Run.l2 k x (l : Int) (m : Int) z ((List.range l).map flt) ((List.range q).map fun j => clamp (part22 (flt (j * m % l)) z (j * m / l) 16 / 32768) (-32768) 32767) (q : Int) a b kept) (res22 l m flt z (c * l), a, b, z.drop x.length) := by
  have h1 := R.l1
  have h6 := R.l6
  have h2 := R.m1
  have h7 := R.m6
  have hc : c ≤ c * l := Nat.le_mul_of_pos_right c h1
  have ex : wrap64 (wrap64 ((x.length : Int) / (m : Int)) * (l : Int)) = ((c * l : Nat) : Int) := by
    have e : (x.length : Int) / (m : Int) = (c : Int) := by
      rw [hx]
      have : ((c * m : Nat) : Int) / (m : Int) = ((c * m / m : Nat) : Int) := by simp
      rw [this, Nat.mul_div_cancel _ h2]
    rw [e, w64 (x := (c : Int)) (by omega) (by omega)]
    have e3 : (c : Int) * (l : Int) = ((c * l : Nat) : Int) := by simp
    rw [e3, w64 (by omega) (by omega)]
  intro r
  induction r with
  | zero =>
    intro q hq
    obtain rfl : q = c * l := by omega
    refine Ev.step (fun k => by rw [madrigalref10_Sampler_Run.l2]) ?_
    rw [ex, last22 z (by omega) hzl]
    refine evNeg (by omega) (evNeg (by omega) ?_)
    refine Ev.congr (fun k => by rw [Option.bind_some]) (evConst ?_)
    have e : z.length - 16 = x.length := by omega
    rw [e]
    rfl
  | succ r ih =>
    intro q hq
    have hqm : q * m ≤ 172800 := Nat.le_trans (Nat.mul_le_mul (show q ≤ 28800 by omega) h7) (by decide)
    have e0 : ((q : Int) * (m : Int)) = ((q * m : Nat) : Int) := by simp
    have e1 : Int.tmod ((q * m : Nat) : Int) (l : Int) = ((q * m % l : Nat) : Int) := by rw [Int.tmod_eq_emod_of_nonneg (Int.natCast_nonneg _)]; rfl
    have e2 : Int.tdiv ((q * m : Nat) : Int) (l : Int) = ((q * m / l : Nat) : Int) := by rw [Int.tdiv_eq_ediv_of_nonneg (Int.natCast_nonneg _)]; rfl
    have hp : q * m % l < l := Nat.mod_lt _ (by omega)
    have hd : q * m / l ≤ q * m := Nat.div_le_self _ _
    have hdx : q * m / l < x.length := by
      rw [Nat.div_lt_iff_lt_mul h1, hx]
      calc q * m < c * l * m := Nat.mul_lt_mul_of_pos_right (by omega) h2
        _ = c * m * l := by rw [Nat.mul_assoc, Nat.mul_comm l, ← Nat.mul_assoc]
    have hr := ih (q + 1) (by omega)
    rw [List.range_succ, List.map_append, List.map_cons, List.map_nil] at hr
    refine Ev.step (fun k => by rw [madrigalref10_Sampler_Run.l2]) ?_
    generalize hpp : q * m % l = pp at *
    generalize hdd : q * m / l = dd at *
    generalize hqm' : q * m = qm at *
    rw [ex, e0, w64 (x := ((qm : Nat) : Int)) (by omega) (by omega), e1, e2, w64 (x := (dd : Int)) (by omega) (by omega), rdL_nat]
    refine evNeg (by omega) (evPos (by omega) (evNeg (by omega) (evPos (by omega) (evPos (by simp; omega) ?_))))
    have e3 : ((List.range l).map flt).getD pp [] = flt pp := by
      rw [List.getD_eq_getElem?_getD]
      simp [hp]
    rw [e3]
    have := rrun_l3 (a := a) (b := b) (l := l) (m := m) x z ((List.range q).map fun j => clamp (part22 (flt (j * m % l)) z (j * m / l) 16 / 32768) (-32768) 32767) q dd (flt pp) kept (Q := (res22 l m flt z (c * l), a, b, z.drop x.length)) ((List.range l).map flt) (R.len _ hp) (R.bound _ hp) hz (by omega) hzl (by omega) (by simp; omega) (by simpa using hr) 16 0 rfl
    have e16 : part22 (flt pp) z dd 0 = 16384 := rfl
    rw [e16] at this
    simpa using this
section
variable {a b : Int} {l m : Nat} {flt : Nat → List Int} (R : Rates22 a b l m flt) (hP : ∀ p, p < l → Ev (fun k => madrigalref10_Phase.f k a b (p : Int)) (flt p))
include R hP
theorem rrun_l1 (x z : List Int) (c : Nat) (kept : List Int) (hx : x.length = c * m) (hn : c * l ≤ 28800) (hz : ∀ i, -32768 ≤ z.getD i 0 ∧ z.getD i 0 ≤ 32768) (hzl : z.length ≤ 10000) (hzx : z.length = 16 + x.length) :
    ∀ (r q : Nat), q + r = l → Ev (fun k => madrigalref10_Sampler_Run.l1 k x (l : Int) (m : Int) z ((List.range q).map flt) (q : Int) a b kept) (res22 l m flt z (c * l), a, b, z.drop x.length) := by
  have h6 := R.l6
  intro r
  induction r with
  | zero =>
    intro q hq
    obtain rfl : q = l := by omega
    refine Ev.step (fun k => by rw [madrigalref10_Sampler_Run.l1]) (evNeg (by omega) ?_)
    have := rrun_l2 R x z c kept hx hn hz hzl hzx (c * q) 0 (by omega)
    simpa using this
  | succ r ih =>
    intro q hq
    have hr := ih (q + 1) (by omega)
    rw [List.range_succ, List.map_append, List.map_cons, List.map_nil] at hr
    refine Ev.step (fun k => by rw [madrigalref10_Sampler_Run.l1]) (evPos (by omega) (Ev.bind (hP q (by omega)) ?_))
    refine evPos (by simp; omega) ?_
    rw [w64 (x := (q : Int) + 1) (by omega) (by omega)]
    simpa using hr
theorem rrun_l0 (x z0 : List Int) (c : Nat) (kept : List Int) (hx : x.length = c * m) (hn : c * l ≤ 28800) (hxl : x.length ≤ 4800) (hz0 : z0.length = 16) (hz : In16 z0) : ∀ (r : Nat) (S A : List Int), S.length = r → x = A ++ S →
    Ev (fun k => madrigalref10_Sampler_Run.l0 k x (l : Int) (m : Int) (z0 ++ sats22 A) (A.length : Int) a b kept) (res22 l m flt (z0 ++ sats22 x) (c * l), a, b, (z0 ++ sats22 x).drop x.length) := by
  intro r
  induction r with
  | zero =>
    intro S A hS he
    obtain rfl : S = [] := List.eq_nil_of_length_eq_zero hS
    have he : x = A := by simpa using he
    subst he
    refine Ev.step (fun k => by rw [madrigalref10_Sampler_Run.l0]) (evNeg (by omega) ?_)
    have := rrun_l1 R hP x (z0 ++ sats22 x) c kept hx hn (in16_app hz (in16_sats x)) (by simp [sats22]; omega) (by simp [sats22, hz0]) l 0 (by omega)
    simpa using this
  | succ r ih =>
    intro S A hS he
    cases S with
    | nil => simp at hS
    | cons s S =>
      simp at hS
      have hlen : x.length = A.length + S.length + 1 := by rw [he]; simp; omega
      refine Ev.step (fun k => by rw [madrigalref10_Sampler_Run.l0]) (evPos (by omega) (evPos (by omega) ?_))
      have e3 : rd x (A.length : Int) = s := by rw [he]; exact rd_mid _ _ _ _ rfl
      rw [e3, w64 (x := (A.length : Int) + 1) (by omega) (by omega)]
      refine Ev.bind (ref_sat22 s) (evPos (by simp [sats22]; omega) ?_)
      have := ih S (A ++ [s]) (by omega) (by simpa using he)
      have e4 : sats22 (A ++ [s]) = sats22 A ++ [clamp s (-32768) 32767] := by simp [sats22]
      rw [e4] at this
      simpa using this
theorem rrun22 {x kept : List Int} (hx : x.length ≤ 4800) (hm : x.length % m = 0) (hk : kept.length = 16) (hz : In16 kept) :
    Ev (fun k => madrigalref10_Sampler_Run.f k a b kept x) (res22 l m flt (kept ++ sats22 x) (x.length / m * l), a, b, (kept ++ sats22 x).drop x.length) := by
  have h2 := R.m1
  obtain ⟨c, hc⟩ : ∃ c, x.length = c * m := ⟨x.length / m, by have := Nat.div_add_mod x.length m; rw [Nat.mul_comm]; omega⟩
  have hcl : x.length / m = c := by rw [hc, Nat.mul_div_cancel _ R.m1]
  have hcx : c ≤ x.length := by rw [hc]; exact Nat.le_mul_of_pos_right c h2
  have hcl2 : c * l ≤ 28800 := Nat.le_trans (Nat.mul_le_mul (show c ≤ 4800 by omega) R.l6) (by decide)
  rw [hcl]
  refine Ev.congr (fun k => by rw [madrigalref10_Sampler_Run.f]) (Ev.bind R.refparts ?_)
  refine Ev.congr (fun k => by rw [Option.bind_some, List.nil_append]) (evPos (by simp; omega) ?_)
  have := rrun_l0 R hP x kept c kept hc hcl2 hx hk hz x.length x [] rfl rfl
  simpa [sats22] using this
theorem runs_l0 (bs : List (List Int)) (hbs : bs.length ≤ 8) : ∀ (r i : Nat) (kept : List Int), i + r = bs.length → kept.length = 16 → In16 kept →
    Ev (fun k => madrigallaw22_ResampRuns.l0 k bs (m : Int) (i : Int) a b kept a b kept) true := by
  have h1 := R.l1
  have h6 := R.l6
  have h2 := R.m1
  have h7 := R.m6
  intro r
  induction r with
  | zero =>
    intro i kept hi hk hb
    exact Ev.step (fun k => by rw [madrigallaw22_ResampRuns.l0]) (evNeg (by omega) (evConst rfl))
  | succ r ih =>
    intro i kept hi hk hb
    refine Ev.step (fun k => by rw [madrigallaw22_ResampRuns.l0]) (evPos (by omega) (evPos (by omega) ?_))
    have hj2 : ∀ t u : List Int, rd_L1 bs (i : Int) = rd_L1 bs (i : Int) := fun _ _ => rfl
    obtain ⟨x, hx⟩ : ∃ x, x = rd_L1 bs (i : Int) := ⟨_, rfl⟩
    rw [← hx]
    refine evIte (fun _ => evConst rfl) fun h500 => ?_
    refine Ev.congr (fun k => by rw [resamp_Sampler_Copy.f, Option.bind_some, Option.bind_some, List.nil_append]) (evPos (by simp; omega) ?_)
    rw [w64 (x := (i : Int) + 1) (by omega) (by omega)]
    have ei : (i : Int) + 1 = ((i + 1 : Nat) : Int) := by omega
    by_cases hm : x.length % m = 0
    · have hr := run22 R (x := x) (kept := kept) (by omega) hm hk hb
      refine Ev.bind hr (evNeg (by omega) (evPos (by omega) (evPos rfl (Ev.bind (rrun22 R hP (by omega) hm hk hb) ?_))))
      have hol : (res22 l m flt (kept ++ sats22 x) (x.length / m * l)).length ≤ 28800 := by
        have := Nat.div_le_self x.length m
        have := Nat.mul_le_mul (show x.length / m ≤ 4800 by omega) h6
        simpa [res22] using this
      refine Ev.bind (same22 (res22 l m flt (kept ++ sats22 x) (x.length / m * l)) _ (by omega)) ?_
      refine Ev.step (fun k => by rw [madrigallaw22_ResampRuns.j2]) ?_
      rw [← hx]
      refine evNeg (by simp) (evPos (by omega) (evPos (by omega) (Ev.bind hr (Ev.bind (same22 (res22 l m flt (kept ++ sats22 x) (x.length / m * l)) _ (by omega)) ?_))))
      refine evPos (by simp) ?_
      simp only [resamp_Sampler_Same.f, Option.bind_some, decide_true, Bool.and_self, if_true]
      rw [w64 (x := (i : Int) + 1) (by omega) (by omega), ei]
      exact ih (i + 1) _ (by omega) (by simp [sats22]; omega) (in16_drop (in16_app hb (in16_sats x)) _)
    · refine Ev.bind (run22_bad R (Or.inr hm)) (evNeg (by omega) (evNeg (by omega) (evPos rfl (evPos rfl ?_))))
      simp only [resamp_Sampler_Same.f, Option.bind_some, decide_true, Bool.and_self, if_true]
      rw [ei]
      exact ih (i + 1) kept (by omega) hk hb
end
theorem ResampRuns : madrigallaw22_ResampRuns.Pure := by
  intro a b bs
  intros
  refine Ev.rounds (Ev.congr (fun k => by rw [madrigallaw22_ResampRuns.f]) (Ev.bind awakeEv22 (evPos rfl ?_)))
  refine evIte (fun _ => evConst rfl) fun h8 => ?_
  by_cases hg : a ∈ rates22 ∧ b ∈ rates22
  · obtain ⟨ha, hb⟩ := hg
    obtain ⟨l, m, flt, R, hP⟩ := rates22_ref ha hb
    refine evPos (by rw [good22]; simp [ha, hb]) ?_
    rw [new22 ha hb]
    refine Ev.congr (fun k => by rw [Option.bind_some]) (Ev.bind (evConst (known22 a)) (evPos (decide_eq_true ha) (Ev.bind (evConst (known22 b)) ?_)))
    rw [decide_eq_true hb]
    refine Ev.step (fun k => by rw [madrigallaw22_ResampRuns.j0]) (evNeg (by simp) ?_)
    refine Ev.congr (fun k => by rw [madrigalref10_NewSampler.f, Option.bind_some]) (Ev.bind R.refparts ?_)
    exact runs_l0 R hP bs (by omega) bs.length 0 (List.replicate 16 0) (by omega) (by simp) (in16_zeros 16)
  · have hb0 : a ∈ rates22 → ¬ b ∈ rates22 := fun h1 h2 => hg ⟨h1, h2⟩
    refine evNeg (by rw [good22]; by_cases h : a ∈ rates22 <;> simp [h]; exact hb0 h) ?_
    have e : resamp_New0.f a b = some 1 := by
      unfold resamp_New0.f
      rw [good22]
      by_cases h : a ∈ rates22
      · simp [h, hb0 h]
      · simp [h]
    rw [e]
    refine Ev.congr (fun k => by rw [Option.bind_some]) (Ev.bind (evConst (known22 a)) (evIte (fun h => ?_) (fun h => ?_)))
    · refine Ev.bind (evConst (known22 b)) ?_
      rw [decide_eq_false (hb0 (of_decide_eq_true h))]
      refine Ev.step (fun k => by rw [madrigallaw22_ResampRuns.j3]) ?_
      exact evPos (by simp) (evConst rfl)
    · refine Ev.step (fun k => by rw [madrigallaw22_ResampRuns.j3]) ?_
      exact evPos rfl (evConst rfl)
end Go.Proofs.Ytcicenmmpbgmoaa.Pure
