/- A filter weakened by one is the same, by nought nothing; weakened, no number grows: without conditions. -/
import Derived.Test.YtgnklnpnfnpncaaPx21
import Derived.Test.YtgnklnpnfnpncaaQLpc
import Derived.Test.YtgnklnpnfnpncaaQSame7
namespace Go.Proofs.Ytgnklnpnfnpncaa.Pure
open Go.RowKit Go.Proofs.Ytgnklnpnfnpncaa.P Go.Proofs.YtgnklnpnfnpncaaW.PrintWords Go.Proofs.YtgnklnpnfnpncaaW.PrintLast Go.Proofs.YtgnklnpnfnpncaaW.PrintMore
open Go.Proofs.Ytgnklnpnfnpncaa.M Go.Proofs.Ytgnklnpnfnpncaa.Q
set_option linter.unusedVariables false

theorem chirps_awake : Ev (fun k => madrigallaw7_awake.f k) true := Ev.of madrigallaw7_awake.mono (k := 400) (by kernel_rfl)
theorem chirps_l0 (c : Int) (hc : 0 ≤ c ∧ c ≤ 65536) (n : Nat) : ∀ (S A B : List Int) (i : Int), S.length = n → A.length = B.length → i = B.length → A.length + S.length ≤ 100 → (∀ v ∈ S, -131072 ≤ v ∧ v ≤ 131072) →
    Ev (fun k => madrigallaw7_LpcChirps.l0 k (A ++ S) (B ++ chirpL c A.length S) i) true := by
  induction n with
  | zero =>
    intro S A B i hn hd hi hl hb
    have e1 : S = [] := List.eq_nil_of_length_eq_zero hn
    subst e1
    refine Ev.step (fun k => by rw [madrigallaw7_LpcChirps.l0]) ?_
    refine evNeg (by simp [chirpL]; omega) (evConst ?_)
    simp [chirpL]; omega
  | succ n ih =>
    intro S A B i hn hd hi hl hb
    cases S with
    | nil => simp at hn
    | cons v S =>
      simp at hn hl
      have hv := hb v (by simp)
      have hu := chE_under hc (A.length + 1) (v := v) (by omega)
      refine Ev.step (fun k => by rw [madrigallaw7_LpcChirps.l0]) ?_
      have e2 : chirpL c A.length (v :: S) = chE c (A.length + 1) v :: chirpL c (A.length + 1) S := rfl
      rw [e2, rd_mid B _ _ i hi, rd_mid A v S i (by omega), w64 (x := i + 1) (by omega) (by omega)]
      have h := ih S (A ++ [v]) (B ++ [chE c (A.length + 1) v]) (i + 1) (by omega) (by simp; omega) (by simp; omega) (by simp; omega) (fun x hx => hb x (by simp [hx]))
      have e3 : (A ++ [v]).length = A.length + 1 := by simp
      rw [e3, List.append_assoc, List.append_assoc] at h
      simp only [List.singleton_append] at h
      unfold Under at hu
      refine evPos (by simp; omega) (evPos (by omega) (evIte (fun h1 => ?_) (fun h1 => evIte (fun h2 => ?_) (fun _ => h))))
      · exact evPos (by simp; omega) (evNeg (by omega) (evNeg (by omega) h))
      · exact evPos (by simp; omega) (evNeg (by omega) h)
theorem LpcChirps : madrigallaw7_LpcChirps.Pure := by
  intro l c _ _ _ _
  refine Ev.rounds (g := fun k => madrigallaw7_LpcChirps.f k l c) ?_
  refine Ev.congr (fun k => by rw [madrigallaw7_LpcChirps.f]) (Ev.bind chirps_awake (evPos rfl ?_))
  by_cases hl : l.length ≤ 32
  · refine Ev.bind (lpc_fit l hl) (evNeg (by omega) ?_)
    have hlen := fit_length l
    have hb := fit_bound l
    have e1 : chirp (fit l) 65536 = fit l := by
      unfold chirp
      rw [clamp_id (by omega) (by omega)]
      exact chirpL_one 0 _ (fun v hv => by have := hb v hv; omega)
    have e0 : chirp (fit l) 0 = List.replicate (fit l).length 0 := by
      unfold chirp
      rw [clamp_id (by omega) (by omega)]
      exact chirpL_nought 0 _
    refine Ev.bind (evEq (lpc_chirp (fit l) 65536 (by omega)) e1) (Ev.bind (same7 _ _ (by omega)) (evPos (by simp) ?_))
    refine Ev.bind (evEq (lpc_chirp (fit l) 0 (by omega)) e0) (evPos (by omega) (evPos (by omega) ?_))
    rw [Int.toNat_natCast]
    refine Ev.bind (same7 _ _ (by simp; omega)) ?_
    refine Ev.step (fun k => by rw [madrigallaw7_LpcChirps.j0]) ?_
    refine evNeg (by simp) (Ev.bind (lpc_chirp (fit l) c (by omega)) ?_)
    exact chirps_l0 (clamp c 0 65536) (clamp_bounds (by omega)) (fit l).length (fit l) [] [] 0 rfl rfl rfl (by simp; omega) hb
  · have hf : Ev (fun k => lpc_Fit.f k l) [] := by
      refine Ev.congr (fun k => by rw [lpc_Fit.f]) ?_
      exact evPos (by omega) (Ev.now _)
    exact Ev.bind hf (evPos (by omega) (Ev.now _))
end Go.Proofs.Ytgnklnpnfnpncaa.Pure
