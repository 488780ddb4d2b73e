/- Loudness, floors and answers are what the document says: for every list of sounds, without conditions. -/
import Derived.Test.YtdchabinakboeaaPx17
import Derived.Test.YtdchabinakboeaaQVad
import Derived.Test.YtdchabinakboeaaQRlen13
import Derived.Test.YtdchabinakboeaaQRef1
namespace Go.Proofs.Ytdchabinakboeaa.Pure
open Go.RowKit Go.Proofs.Ytdchabinakboeaa.P Go.Proofs.YtdchabinakboeaaW.PrintWords Go.Proofs.YtdchabinakboeaaW.PrintLast Go.Proofs.YtdchabinakboeaaW.PrintMore
open Go.Proofs.Ytdchabinakboeaa.M Go.Proofs.Ytdchabinakboeaa.Q
set_option linter.unusedVariables false

theorem ref_sat (a : Int) : Ev (fun k => madrigalref1_Sat16.f k a) (sat a) := by
  refine Ev.congr (fun k => by rw [madrigalref1_Sat16.f]) ?_
  exact Ev.bind (ref_clamp a (-32768) 32767) (Ev.now _)
theorem ref_level_l0 (y : List Int) (hy : 0 < y.length) (hm : y.length ≤ 960) (d : Nat) : ∀ (s i : Int), 0 ≤ i → i + d = y.length → 0 ≤ s → s ≤ 1073741824 * i →
    Ev (fun k => madrigalref6_Level.l0 k y s i) (log2 (1 + (s + sumsq (y.drop i.toNat)) / (y.length : Int))) := by
  induction d with
  | zero =>
    intro s i h0 hi hs hs2
    refine Ev.step (fun k => by rw [madrigalref6_Level.l0]) ?_
    refine evNeg (by omega) (evNeg (by omega) ?_)
    have e : y.drop i.toNat = [] := List.drop_eq_nil_of_le (by omega)
    have hq0 : 0 ≤ s / (y.length : Int) := Int.ediv_nonneg hs (by omega)
    have hq1 : s / (y.length : Int) ≤ s := Int.ediv_le_self _ hs
    rw [e, Int.tdiv_eq_ediv_of_nonneg hs, w64 (x := s / _) (by omega) (by omega), w64 (by omega) (by omega)]
    simp only [sumsq, Int.add_zero]
    exact Ev.bind (ref_log2 _ (by omega)) (Ev.now _)
  | succ d ih =>
    intro s i h0 hi hs hs2
    refine Ev.step (fun k => by rw [madrigalref6_Level.l0]) ?_
    refine evPos (by omega) (evPos h0 ?_)
    refine Ev.bind (ref_sat _) ?_
    have hsq := sat_sq (rd y i)
    rw [w64 (x := sat (rd y i) * sat (rd y i)) (by omega) (by omega), w64 (x := s + _) (by omega) (by omega), w64 (x := i + 1) (by omega) (by omega)]
    refine evEq (ih _ (i + 1) (by omega) (by omega) (by omega) (by omega)) ?_
    rw [drop_rd h0 (by omega)]
    simp only [sumsq, Int.add_assoc]
theorem ref_level (l : List Int) : Ev (fun k => madrigalref6_Level.f k l) (level l) := by
  have hj : ∀ y : List Int, y.length ≤ 960 → l.take 960 = y → Ev (fun k => madrigalref6_Level.j0 k y) (level l) := by
    intro y hy e
    refine Ev.step (fun k => by rw [madrigalref6_Level.j0]) ?_
    unfold level
    rw [e]
    refine evIte (fun h => ?_) (fun h => ?_)
    · rw [if_pos (by omega)]; exact Ev.now _
    · rw [if_neg (by omega)]
      exact evEq (ref_level_l0 y (by omega) hy y.length 0 0 (by omega) (by omega) (by omega) (by omega)) (by simp)
  refine Ev.congr (fun k => by rw [madrigalref6_Level.f]) ?_
  refine evIte (fun h => evPos (by omega) (hj _ (List.length_take_le _ _) rfl)) (fun h => hj l (by omega) (List.take_of_length_le (by omega)))
theorem ref_step (f c : Int) (l : List Int) (h0 : -1 ≤ f) (h1 : f ≤ 16128) (c0 : 0 ≤ c) (c1 : c ≤ 4) : Ev (fun k => madrigalref6_Meter_Step.f k f c l) (vstep f c (level l)) := by
  have hl := level_bounds l
  have hj : ∀ g, 0 ≤ g → g ≤ 16128 → g = vfloor f (level l) → Ev (fun k => madrigalref6_Meter_Step.j1 k (level l) g c) (vstep f c (level l)) := by
    intro g g0 g1 hg
    refine Ev.step (fun k => by rw [madrigalref6_Meter_Step.j1]) ?_
    unfold vstep
    rw [w64 (x := g + 512) (by omega) (by omega), w64 (x := c - 1) (by omega) (by omega), ← hg]
    refine evIte (fun h => ?_) (fun h => ?_)
    · rw [if_pos h]; exact Ev.now _
    · rw [if_neg h]
      refine evIte (fun h => ?_) (fun h => ?_)
      · rw [if_pos h]; exact Ev.now _
      · rw [if_neg h]; exact Ev.now _
  refine Ev.congr (fun k => by rw [madrigalref6_Meter_Step.f]) ?_
  refine Ev.bind (ref_level l) ?_
  rw [w64 (x := f + 8) (by omega) (by omega)]
  refine evIte (fun h => ?_) (fun h => ?_)
  · refine Ev.step (fun k => by rw [madrigalref6_Meter_Step.j0]) ?_
    exact evPos rfl (hj _ hl.1 hl.2 (by unfold vfloor; rw [if_pos (by omega)]))
  · refine Ev.step (fun k => by rw [madrigalref6_Meter_Step.j0]) ?_
    rw [w64 (x := f + 8) (by omega) (by omega)]
    refine evIte (fun h2 => ?_) (fun h2 => ?_)
    · simp at h2
      exact hj _ hl.1 hl.2 (by unfold vfloor mn; rw [if_neg (by omega)]; split <;> omega)
    · simp at h2
      exact hj _ (by omega) (by omega) (by unfold vfloor mn; rw [if_neg (by omega)]; split <;> omega)

/-! the answers -/
def ans : Int → Int → List (List Int) → List Bool
  | _, _, [] => []
  | f, c, l :: ls => (vstep f c (level l)).1 :: ans (vstep f c (level l)).2.1 (vstep f c (level l)).2.2 ls
theorem ans_length : ∀ (ls : List (List Int)) (f c : Int), (ans f c ls).length = ls.length
  | [], _, _ => rfl
  | l :: ls, f, c => by simp [ans, ans_length ls]
theorem rdL_mid (A : List (List Int)) (l : List Int) (S : List (List Int)) (i : Int) (h : i = A.length) : rd_L1 (A ++ l :: S) i = l := by
  subst h
  unfold rd_L1
  simp
theorem each_l0 (n : Nat) : ∀ (S A : List (List Int)) (out : List Bool) (f c i m : Int), S.length = n → i = A.length → m = ((A.length + S.length : Nat) : Int) → A.length + S.length ≤ 1000 → out.length = A.length → -1 ≤ f → f ≤ 16128 → 0 ≤ c → c ≤ 4 →
    ∃ f' c' : Int, Ev (fun k => vad_each.l0 k out (A ++ S) m i f c) (out ++ ans f c S, f', c') := by
  induction n with
  | zero =>
    intro S A out f c i m hn hi hm hl ho f0 f1 c0 c1
    have e1 : S = [] := List.eq_nil_of_length_eq_zero hn
    subst e1
    simp at hm hl
    refine ⟨f, c, Ev.step (fun k => by rw [vad_each.l0]) ?_⟩
    refine evNeg (by omega) ?_
    simp only [ans, List.append_nil]
    exact Ev.now _
  | succ n ih =>
    intro S A out f c i m hn hi hm hl ho f0 f1 c0 c1
    cases S with
    | nil => simp at hn
    | cons l S =>
      simp at hn hm hl
      have hlv := level_bounds l
      have hv := vstep_inv (c := c) f0 hlv.1 hlv.2 c0 c1
      obtain ⟨f', c', h⟩ := ih S (A ++ [l]) (out ++ [(vstep f c (level l)).1]) (vstep f c (level l)).2.1 (vstep f c (level l)).2.2 (i + 1) m (by omega) (by simp; omega) (by simp; omega) (by simp; omega) (by simp; omega) hv.1 hv.2.1 hv.2.2.1 hv.2.2.2
      refine ⟨f', c', Ev.step (fun k => by rw [vad_each.l0]) ?_⟩
      rw [rdL_mid A l S i hi, w64 (x := i + 1) (by omega) (by omega)]
      refine evPos (by omega) (evPos (by omega) (evPos (by simp; omega) (Ev.bind (vad_step f c l f0 f1 c0 c1) (evPos (by omega) ?_))))
      simpa [ans] using h
theorem meter_each (ls : List (List Int)) (h : ls.length ≤ 1000) : ∃ f' c' : Int, Ev (fun k => vad_Meter_Each.f k (-1) 0 ls) (ans (-1) 0 ls, f', c') := by
  obtain ⟨f', c', g⟩ := each_l0 ls.length ls [] [] (-1) 0 0 ls.length rfl rfl (by simp) (by simpa using h) rfl (by omega) (by omega) (by omega) (by omega)
  refine ⟨f', c', Ev.congr (fun k => by rw [vad_Meter_Each.f]) (Ev.bind (Ev.congr (fun k => by rw [vad_each.f]; rfl) g) (Ev.now _))⟩
theorem hears_l1 (L : List Bool) (hl : L.length ≤ 1000) (d : Nat) : ∀ (i : Int), 0 ≤ i → i + d = L.length → Ev (fun k => madrigallaw13_VadHears.l1 k L L i) true := by
  induction d with
  | zero =>
    intro i h0 hi
    refine Ev.step (fun k => by rw [madrigallaw13_VadHears.l1]) ?_
    exact evNeg (by omega) (Ev.now _)
  | succ d ih =>
    intro i h0 hi
    refine Ev.step (fun k => by rw [madrigallaw13_VadHears.l1]) ?_
    rw [w64 (x := i + 1) (by omega) (by omega)]
    exact evPos (by omega) (evPos h0 (evPos (by omega) (evNeg (by simp) (ih (i + 1) (by omega) (by omega)))))
theorem hears_l0 (ls : List (List Int)) (hl : ls.length ≤ 60) (n : Nat) : ∀ (S A : List (List Int)) (f c i : Int) (out : List Bool), A ++ S = ls → S.length = n → i = A.length → out.length = A.length → out ++ ans f c S = ans (-1) 0 ls → -1 ≤ f → f ≤ 16128 → 0 ≤ c → c ≤ 4 →
    Ev (fun k => madrigallaw13_VadHears.l0 k ls out i f c f c) true := by
  induction n with
  | zero =>
    intro S A f c i out hA hn hi ho hans f0 f1 c0 c1
    have e1 : S = [] := List.eq_nil_of_length_eq_zero hn
    subst e1
    simp only [ans, List.append_nil] at hans hA
    subst hA
    refine Ev.step (fun k => by rw [madrigallaw13_VadHears.l0]) ?_
    refine evNeg (by omega) ?_
    unfold vad_New.f
    obtain ⟨f', c', g⟩ := meter_each A (by omega)
    refine Ev.bind (Ev.now _) (Ev.bind g ?_)
    rw [← hans]
    exact evPos rfl (hears_l1 out (by omega) out.length 0 (by omega) (by omega))
  | succ n ih =>
    intro S A f c i out hA hn hi ho hans f0 f1 c0 c1
    cases S with
    | nil => simp at hn
    | cons l S =>
      have hll : A.length + (l :: S).length = ls.length := by rw [← hA]; simp
      simp at hn hll
      have hlv := level_bounds l
      have hv := vstep_inv (c := c) f0 hlv.1 hlv.2 c0 c1
      have hrd : rd_L1 ls i = l := by rw [← hA]; exact rdL_mid A l S i hi
      refine Ev.step (fun k => by rw [madrigallaw13_VadHears.l0]) ?_
      refine evPos (by omega) (evPos (by omega) ?_)
      rw [hrd]
      refine evIte (fun h => ?_) (fun h => ?_)
      · refine Ev.step (fun k => by rw [madrigallaw13_VadHears.j1]) ?_
        rw [hrd]
        exact evPos rfl (evPos (by omega) (evPos (by omega) (evConst (by rw [decide_eq_true h]))))
      · refine Ev.bind (vad_level l) (Ev.bind (ref_level l) ?_)
        refine Ev.step (fun k => by rw [madrigallaw13_VadHears.j1]) ?_
        rw [hrd, w64 (x := i + 1) (by omega) (by omega)]
        refine evNeg (by simp) (evPos (by omega) (evPos (by omega) (Ev.bind (ref_step f c l f0 f1 c0 c1) (evPos (by omega) (Ev.bind (Ev.now _) (evPos (by simp; omega) ?_))))))
        rw [List.nil_append]
        refine Ev.bind (vad_step f c l f0 f1 c0 c1) (evNeg (by simp) ?_)
        unfold vad_Meter_Floor.f
        refine Ev.bind (Ev.now _) (evPos rfl ?_)
        exact ih S (A ++ [l]) _ _ (i + 1) _ (by simp [hA]) (by omega) (by simp; omega) (by simp; omega) (by simpa [ans] using hans) hv.1 hv.2.1 hv.2.2.1 hv.2.2.2
theorem VadHears : madrigallaw13_VadHears.Pure := by
  intro ls _ _
  refine Ev.rounds (Ev.congr (fun k => by rw [madrigallaw13_VadHears.f]) (Ev.bind awake13 (evPos rfl ?_)))
  refine evIte (fun _ => Ev.now _) (fun h => ?_)
  unfold vad_New.f
  refine Ev.bind (Ev.now _) ?_
  exact hears_l0 ls (by omega) ls.length ls [] (-1) 0 0 [] rfl rfl rfl rfl rfl (by omega) (by omega) (by omega) (by omega)
end Go.Proofs.Ytdchabinakboeaa.Pure
