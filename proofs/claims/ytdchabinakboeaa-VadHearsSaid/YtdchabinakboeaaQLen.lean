/- How many bits a number has, as the program tells it: lemmas for the laws. -/
import Derived.Test.YtdchabinakboeaaQ0
import Derived.Test.YtdchabinakboeaaM0
import Derived.Test.YtdchabinakboeaaPx2
import Derived.Test.YtdchabinakboeaaPx3
namespace Go.Proofs.Ytdchabinakboeaa.Q
open Go.RowKit Go.Proofs.Ytdchabinakboeaa.P Go.Proofs.YtdchabinakboeaaW.PrintWords Go.Proofs.YtdchabinakboeaaW.PrintLast Go.Proofs.YtdchabinakboeaaW.PrintMore
open Go.Proofs.Ytdchabinakboeaa.M
set_option linter.unusedVariables false

set_option maxRecDepth 100000 in
theorem tab_fin : ∀ i : Fin 256, bt (⟨#[0, 1, 2, 2, 3, 3, 3, 3, 4, 4, 4, 4, 4, 4, 4, 4, 5, 5, 5, 5, 5, 5, 5, 5, 5, 5, 5, 5, 5, 5, 5, 5, 6, 6, 6, 6, 6, 6, 6, 6, 6, 6, 6, 6, 6, 6, 6, 6, 6, 6, 6, 6, 6, 6, 6, 6, 6, 6, 6, 6, 6, 6, 6, 6, 7, 7, 7, 7, 7, 7, 7, 7, 7, 7, 7, 7, 7, 7, 7, 7, 7, 7, 7, 7, 7, 7, 7, 7, 7, 7, 7, 7, 7, 7, 7, 7, 7, 7, 7, 7, 7, 7, 7, 7, 7, 7, 7, 7, 7, 7, 7, 7, 7, 7, 7, 7, 7, 7, 7, 7, 7, 7, 7, 7, 7, 7, 7, 7, 8, 8, 8, 8, 8, 8, 8, 8, 8, 8, 8, 8, 8, 8, 8, 8, 8, 8, 8, 8, 8, 8, 8, 8, 8, 8, 8, 8, 8, 8, 8, 8, 8, 8, 8, 8, 8, 8, 8, 8, 8, 8, 8, 8, 8, 8, 8, 8, 8, 8, 8, 8, 8, 8, 8, 8, 8, 8, 8, 8, 8, 8, 8, 8, 8, 8, 8, 8, 8, 8, 8, 8, 8, 8, 8, 8, 8, 8, 8, 8, 8, 8, 8, 8, 8, 8, 8, 8, 8, 8, 8, 8, 8, 8, 8, 8, 8, 8, 8, 8, 8, 8, 8, 8, 8, 8, 8, 8, 8, 8, 8, 8, 8, 8, 8, 8, 8, 8, 8, 8, 8, 8, 8, 8, 8, 8, 8, 8]⟩ : ByteArray) ((i.val : Nat) : Int) = bl ((i.val : Nat) : Int) := by decide +kernel
set_option maxRecDepth 100000 in
theorem tab_bl {i : Int} (h0 : 0 ≤ i) (h1 : i < 256) : bt (⟨#[0, 1, 2, 2, 3, 3, 3, 3, 4, 4, 4, 4, 4, 4, 4, 4, 5, 5, 5, 5, 5, 5, 5, 5, 5, 5, 5, 5, 5, 5, 5, 5, 6, 6, 6, 6, 6, 6, 6, 6, 6, 6, 6, 6, 6, 6, 6, 6, 6, 6, 6, 6, 6, 6, 6, 6, 6, 6, 6, 6, 6, 6, 6, 6, 7, 7, 7, 7, 7, 7, 7, 7, 7, 7, 7, 7, 7, 7, 7, 7, 7, 7, 7, 7, 7, 7, 7, 7, 7, 7, 7, 7, 7, 7, 7, 7, 7, 7, 7, 7, 7, 7, 7, 7, 7, 7, 7, 7, 7, 7, 7, 7, 7, 7, 7, 7, 7, 7, 7, 7, 7, 7, 7, 7, 7, 7, 7, 7, 8, 8, 8, 8, 8, 8, 8, 8, 8, 8, 8, 8, 8, 8, 8, 8, 8, 8, 8, 8, 8, 8, 8, 8, 8, 8, 8, 8, 8, 8, 8, 8, 8, 8, 8, 8, 8, 8, 8, 8, 8, 8, 8, 8, 8, 8, 8, 8, 8, 8, 8, 8, 8, 8, 8, 8, 8, 8, 8, 8, 8, 8, 8, 8, 8, 8, 8, 8, 8, 8, 8, 8, 8, 8, 8, 8, 8, 8, 8, 8, 8, 8, 8, 8, 8, 8, 8, 8, 8, 8, 8, 8, 8, 8, 8, 8, 8, 8, 8, 8, 8, 8, 8, 8, 8, 8, 8, 8, 8, 8, 8, 8, 8, 8, 8, 8, 8, 8, 8, 8, 8, 8, 8, 8, 8, 8, 8, 8]⟩ : ByteArray) i = bl i := by
  have h := tab_fin ⟨i.toNat, by omega⟩
  have e : ((i.toNat : Nat) : Int) = i := Int.toNat_of_nonneg h0
  simp only [e] at h
  exact h
set_option maxRecDepth 100000 in
theorem bl_small {i : Int} (h0 : 0 ≤ i) (h1 : i < 256) : 0 ≤ bl i ∧ bl i ≤ 8 := by
  have h : ∀ i : Fin 256, 0 ≤ bl ((i.val : Nat) : Int) ∧ bl ((i.val : Nat) : Int) ≤ 8 := by decide +kernel
  have h2 := h ⟨i.toNat, by omega⟩
  have e : ((i.toNat : Nat) : Int) = i := Int.toNat_of_nonneg h0
  simp only [e] at h2
  exact h2
theorem bl_div (s : Nat) {x : Int} (h : (2 : Int) ^ s ≤ x) : bl x = s + bl (x / 2 ^ s) := by
  have hp : (0 : Int) < 2 ^ s := Int.pow_pos (by omega)
  have h1 : 1 ≤ x / 2 ^ s := by rw [Int.le_ediv_iff_mul_le hp]; omega
  have a := bl_lo h1
  have b := bl_hi h1
  have c := bl_ge h1
  have hd := Int.mul_ediv_add_emod x (2 ^ s)
  have hm0 := Int.emod_nonneg x (Int.ne_of_gt hp)
  have hm1 := Int.emod_lt_of_pos x hp
  have e : bl x = (((bl (x / 2 ^ s) - 1).toNat + s : Nat) : Int) + 1 := by
    refine bl_unique ?_ ?_
    · rw [Int.pow_add]
      have := Int.mul_le_mul_of_nonneg_right a (Int.le_of_lt hp)
      have e2 : x / 2 ^ s * 2 ^ s = 2 ^ s * (x / 2 ^ s) := Int.mul_comm _ _
      omega
    · have e3 : (bl (x / 2 ^ s) - 1).toNat + s + 1 = (bl (x / 2 ^ s)).toNat + s := by omega
      rw [e3, Int.pow_add]
      have := Int.mul_le_mul_of_nonneg_right (show x / 2 ^ s + 1 ≤ 2 ^ (bl (x / 2 ^ s)).toNat by omega) (Int.le_of_lt hp)
      rw [Int.add_mul] at this
      have e2 : x / 2 ^ s * 2 ^ s = 2 ^ s * (x / 2 ^ s) := Int.mul_comm _ _
      omega
  rw [e]
  omega
theorem len64_j (x : Int) (c : Int) (h0 : 0 ≤ x) (h1 : x < 4294967296) (c0 : 0 ≤ c) (c1 : c ≤ 32) : Ev (fun k => bits_Len64.j0 k x c) (c + bl x) := by
  refine Ev.step (fun k => by rw [bits_Len64.j0]) ?_
  refine evIte (fun h => ?_) (fun h => ?_)
  · have e1 := bl_div 16 (x := x) (by omega)
    have q0 : x / 65536 < 65536 := by omega
    refine evIte (fun h2 => ?_) (fun h2 => ?_)
    · have e2 := bl_div 8 (x := x / 65536) (by omega)
      have em : x / 65536 / 256 % 256 = x / 65536 / 256 := Int.emod_eq_of_lt (by omega) (by omega)
      have hb := bl_small (i := x / 65536 / 256) (by omega) (by omega)
      refine evPos (by omega) (evPos (by omega) (evConst ?_))
      rw [em, tab_bl (by omega) (by omega)]
      simp only [show ((2 : Int) ^ 16) = 65536 by decide, show ((2 : Int) ^ 8) = 256 by decide] at e1 e2
      rw [w64 (x := bl _) (by omega) (by omega), w64 (x := c + 16) (by omega) (by omega), w64 (x := c + 16 + 8) (by omega) (by omega), w64 (by omega) (by omega)]
      congr 1
      omega
    · have em : x / 65536 % 256 = x / 65536 := Int.emod_eq_of_lt (by omega) (by omega)
      have hb := bl_small (i := x / 65536) (by omega) (by omega)
      refine evPos (by omega) (evPos (by omega) (evConst ?_))
      rw [em, tab_bl (by omega) (by omega)]
      simp only [show ((2 : Int) ^ 16) = 65536 by decide] at e1
      rw [w64 (x := bl _) (by omega) (by omega), w64 (x := c + 16) (by omega) (by omega), w64 (by omega) (by omega)]
      congr 1
      omega
  · refine evIte (fun h2 => ?_) (fun h2 => ?_)
    · have e2 := bl_div 8 (x := x) (by omega)
      have em : x / 256 % 256 = x / 256 := Int.emod_eq_of_lt (by omega) (by omega)
      have hb := bl_small (i := x / 256) (by omega) (by omega)
      refine evPos (by omega) (evPos (by omega) (evConst ?_))
      rw [em, tab_bl (by omega) (by omega)]
      simp only [show ((2 : Int) ^ 8) = 256 by decide] at e2
      rw [w64 (x := bl _) (by omega) (by omega), w64 (x := c + 8) (by omega) (by omega), w64 (by omega) (by omega)]
      congr 1
      omega
    · have em : x % 256 = x := Int.emod_eq_of_lt (by omega) (by omega)
      have hb := bl_small (i := x) (by omega) (by omega)
      refine evPos (by omega) (evPos (by omega) (evConst ?_))
      rw [em, tab_bl (by omega) (by omega)]
      rw [w64 (x := bl _) (by omega) (by omega), w64 (by omega) (by omega)]
theorem bits_len64 (x : Int) (h0 : 0 ≤ x) (h1 : x < 18446744073709551616) : Ev (fun k => bits_Len64.f k x) (bl x) := by
  refine Ev.congr (fun k => by rw [bits_Len64.f]) ?_
  refine evIte (fun h => ?_) (fun h => ?_)
  · have e := bl_div 32 (x := x) (by omega)
    simp only [show ((2 : Int) ^ 32) = 4294967296 by decide] at e
    rw [e]
    exact len64_j (x / 4294967296) 32 (by omega) (by omega) (by omega) (by omega)
  · exact evEq (len64_j x 0 h0 (by omega) (by omega) (by omega)) (by omega)
theorem fix_len (a : Int) (h1 : a ≤ 9223372036854775807) : Ev (fun k => fix_Len.f k a) (bl a) := by
  refine Ev.congr (fun k => by rw [fix_Len.f]) ?_
  refine evIte (fun h => ?_) (fun h => ?_)
  · exact evConst (by unfold bl; rw [if_pos h])
  · have e : IntKind.u64.wrap a = a := by
      show a % 18446744073709551616 = a
      exact Int.emod_eq_of_lt (by omega) (by omega)
    rw [e]
    exact Ev.bind (bits_len64 a (by omega) (by omega)) (Ev.now _)
end Go.Proofs.Ytdchabinakboeaa.Q
