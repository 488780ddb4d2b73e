/- The machine side of the laws of one chapter, without conditions: each call of a Go function comes to what the Lean function of its name answers. Written for this claim by a program of the prover. -/
import Derived.Test.YtdchabinakboeaaPx0
import Derived.Test.YtdchabinakboeaaPx21
import Derived.Test.YtdchabinakboeaaPx23
import Derived.Test.YtdchabinakboeaaPx25
import Derived.Test.YtdchabinakboeaaPx26
import Derived.Test.YtdchabinakboeaaPx29
import Derived.Test.YtdchabinakboeaaPx31
import Derived.Test.YtdchabinakboeaaPx33
import Derived.Test.YtdchabinakboeaaPx34
import Derived.Test.YtdchabinakboeaaPx36
import Derived.Test.YtdchabinakboeaaPx38
import Derived.Test.YtdchabinakboeaaPx40
import Derived.Test.YtdchabinakboeaaPx41
namespace Go.Proofs.Ytdchabinakboeaa.P
open Go.RowKit Go.Proofs.YtdchabinakboeaaW.PrintWords Go.Proofs.YtdchabinakboeaaW.PrintLast Go.Proofs.YtdchabinakboeaaW.PrintMore
attribute [local go_sem] max2_int min2_int max_two min_two max_three min_three max_four min_four   -- for this text's walks alone
set_option linter.unusedVariables false
set_option linter.unusedSimpArgs false

/-! ### madrigallaw6_LsfSays: function 8 -/
mutual
def madrigallaw6_LsfSays.j0 : Nat → Int → List Int → List Int → Int → Bool → Int → List Int → Option (Bool)
  | 0, _, _, _, _, _, _, _ => none
  | k + 1, x0, x2, x3, x4, x36, x487000, x487001 => if x36 = true then (some true) else ((madrigalref6_GoodIndex.f k x0 x487000 x487001).bind fun t488 => ((some (([] : List Int) : List Int)).bind fun y489 => (if y489.length + x487001.length < 17592186044416 then ((lsf_Decode.f k x0 x487000 (y489 ++ x487001)).bind fun bt495 => ((lsf_Good.f k x0 x487000 x487001).bind fun t499 => (if (t499 != t488) = true then (madrigallaw6_LsfSays.j1 k x0 x2 x3 x4 true) else (if (t488 != (bt495.2 == 0)) = true then (madrigallaw6_LsfSays.j1 k x0 x2 x3 x4 true) else (if t488 = true then ((madrigalref6_Decode.f k x0 x487000 x487001).bind fun t500 => ((madrigallaw6_same.f k bt495.1 t500).bind fun t503 => (madrigallaw6_LsfSays.j1 k x0 x2 x3 x4 (!t503)))) else (if bt495.2 = 1 then (if (bt495.1.length : Int) = 0 then (madrigallaw6_LsfSays.j1 k x0 x2 x3 x4 false) else (madrigallaw6_LsfSays.j1 k x0 x2 x3 x4 true)) else (madrigallaw6_LsfSays.j1 k x0 x2 x3 x4 true))))))) else (none))))
def madrigallaw6_LsfSays.j1 : Nat → Int → List Int → List Int → Int → Bool → Option (Bool)
  | 0, _, _, _, _, _ => none
  | k + 1, x0, x2, x3, x4, x92 => if x92 = true then (none) else ((some (([] : List Int) : List Int)).bind fun y504 => (if y504.length + x2.length < 17592186044416 then ((lsf_Steady.f k (y504 ++ x2)).bind fun t510 => ((madrigalref6_Steady.f k x2).bind fun t513 => ((madrigallaw6_same.f k t510 t513).bind fun t516 => (if t516 = true then ((lsf_Between.f k x2 x3 x4).bind fun bt517 => (if (x2.length : Int) = (x3.length : Int) then (if (x2.length : Int) > 64 then (madrigallaw6_LsfSays.j2 k x0 x2 x3 x4 bt517.1 bt517.2 true) else (if x4 < 0 then (madrigallaw6_LsfSays.j2 k x0 x2 x3 x4 bt517.1 bt517.2 true) else (madrigallaw6_LsfSays.j2 k x0 x2 x3 x4 bt517.1 bt517.2 (decide (x4 > 4))))) else (madrigallaw6_LsfSays.j2 k x0 x2 x3 x4 bt517.1 bt517.2 true))) else (none))))) else (none)))
def madrigallaw6_LsfSays.j2 : Nat → Int → List Int → List Int → Int → List Int → Int → Bool → Option (Bool)
  | 0, _, _, _, _, _, _, _ => none
  | k + 1, x0, x2, x3, x4, x14, x15, x125 => if x125 = true then (if x15 = 1 then (if (x14.length : Int) = 0 then (madrigallaw6_LsfSays.j3 k x0 x2) else (none)) else (none)) else (if x15 = 0 then ((madrigalref6_Between.f k x2 x3 x4).bind fun t521 => ((madrigallaw6_same.f k x14 t521).bind fun t524 => (if t524 = true then (madrigallaw6_LsfSays.j3 k x0 x2) else (none)))) else (none))
def madrigallaw6_LsfSays.j3 : Nat → Int → List Int → Option (Bool)
  | 0, _, _ => none
  | k + 1, x0, x2 => (lsf_Search.f k x0 x2).bind fun bt525 => (if x0 = 10 then (madrigallaw6_LsfSays.j4 k x0 x2 bt525.2.2 ((x2.length : Int) != x0) bt525.1 bt525.2.1) else (if x0 = 16 then (madrigallaw6_LsfSays.j4 k x0 x2 bt525.2.2 ((x2.length : Int) != x0) bt525.1 bt525.2.1) else (madrigallaw6_LsfSays.j4 k x0 x2 bt525.2.2 true bt525.1 bt525.2.1)))
def madrigallaw6_LsfSays.j4 : Nat → Int → List Int → Int → Bool → Int → List Int → Option (Bool)
  | 0, _, _, _, _, _, _ => none
  | k + 1, x0, x2, x17, x161, x531000, x531001 => if x161 = true then (if x17 = 1 then (if (x531001.length : Int) = 0 then (some (x531000 == 0)) else (none)) else (none)) else ((madrigalref6_Search.f k x0 x2).bind fun bt531 => (if x17 = 0 then (if x531000 = bt531.1 then (madrigallaw6_LsfSays.j5 k bt531.2 ((x531001.length : Int) != (bt531.2.length : Int)) x531000 x531001) else (madrigallaw6_LsfSays.j5 k bt531.2 true x531000 x531001)) else (madrigallaw6_LsfSays.j5 k bt531.2 true x531000 x531001)))
def madrigallaw6_LsfSays.j5 : Nat → List Int → Bool → Int → List Int → Option (Bool)
  | 0, _, _, _, _ => none
  | k + 1, x19, x196, x531000, x531001 => if x196 = true then (none) else (madrigallaw6_LsfSays.l0 k x19 0 x531000 x531001)
def madrigallaw6_LsfSays.l0 : Nat → List Int → Int → Int → List Int → Option (Bool)
  | 0, _, _, _, _ => none
  | k + 1, x19, x20, x531000, x531001 => if x20 < (x19.length : Int) then (if 0 ≤ x20 then (if x20 < (x531001.length : Int) then (if (rd x531001 x20) = (rd x19 x20) then (madrigallaw6_LsfSays.l0 k x19 (wrap64 (x20 + 1)) x531000 x531001) else (none)) else (none)) else (none)) else (some true)
end
def madrigallaw6_LsfSays.f (k : Nat) (a0 : Int) (a1_0 : Int) (l1_1 : List Int) (l2 : List Int) (l3 : List Int) (a4 : Int) : Option (Bool) := (madrigallaw6_awake.f k).bind fun t487 => (if t487 = true then (if (l2.length : Int) > 100 then (madrigallaw6_LsfSays.j0 k a0 l2 l3 a4 true a1_0 l1_1) else (if (l3.length : Int) > 100 then (madrigallaw6_LsfSays.j0 k a0 l2 l3 a4 true a1_0 l1_1) else (madrigallaw6_LsfSays.j0 k a0 l2 l3 a4 (decide ((l1_1.length : Int) > 100)) a1_0 l1_1))) else (none))
theorem madrigallaw6_LsfSays.mono_l : ∀ k, (∀ y0 y1 y2 y3 y4 y5 y6, LeO (madrigallaw6_LsfSays.j0 k y0 y1 y2 y3 y4 y5 y6) (madrigallaw6_LsfSays.j0 (k + 1) y0 y1 y2 y3 y4 y5 y6)) ∧ (∀ y0 y1 y2 y3 y4, LeO (madrigallaw6_LsfSays.j1 k y0 y1 y2 y3 y4) (madrigallaw6_LsfSays.j1 (k + 1) y0 y1 y2 y3 y4)) ∧ (∀ y0 y1 y2 y3 y4 y5 y6, LeO (madrigallaw6_LsfSays.j2 k y0 y1 y2 y3 y4 y5 y6) (madrigallaw6_LsfSays.j2 (k + 1) y0 y1 y2 y3 y4 y5 y6)) ∧ (∀ y0 y1, LeO (madrigallaw6_LsfSays.j3 k y0 y1) (madrigallaw6_LsfSays.j3 (k + 1) y0 y1)) ∧ (∀ y0 y1 y2 y3 y4 y5, LeO (madrigallaw6_LsfSays.j4 k y0 y1 y2 y3 y4 y5) (madrigallaw6_LsfSays.j4 (k + 1) y0 y1 y2 y3 y4 y5)) ∧ (∀ y0 y1 y2 y3, LeO (madrigallaw6_LsfSays.j5 k y0 y1 y2 y3) (madrigallaw6_LsfSays.j5 (k + 1) y0 y1 y2 y3)) ∧ (∀ y0 y1 y2 y3, LeO (madrigallaw6_LsfSays.l0 k y0 y1 y2 y3) (madrigallaw6_LsfSays.l0 (k + 1) y0 y1 y2 y3))
  | 0 => ⟨fun _ _ _ _ _ _ _ r h => by simp [madrigallaw6_LsfSays.j0] at h, fun _ _ _ _ _ r h => by simp [madrigallaw6_LsfSays.j1] at h, fun _ _ _ _ _ _ _ r h => by simp [madrigallaw6_LsfSays.j2] at h, fun _ _ r h => by simp [madrigallaw6_LsfSays.j3] at h, fun _ _ _ _ _ _ r h => by simp [madrigallaw6_LsfSays.j4] at h, fun _ _ _ _ r h => by simp [madrigallaw6_LsfSays.j5] at h, fun _ _ _ _ r h => by simp [madrigallaw6_LsfSays.l0] at h⟩
  | k + 1 => by
    obtain ⟨ih0, ih1, ih2, ih3, ih4, ih5, ih6⟩ := madrigallaw6_LsfSays.mono_l k
    refine ⟨?_, ?_, ?_, ?_, ?_, ?_, ?_⟩
    · intro y0 y1 y2 y3 y4 y5 y6
      unfold madrigallaw6_LsfSays.j0
      repeat' first
      | (with_reducible exact ih0 _ _ _ _ _ _ _)
      | (with_reducible exact ih1 _ _ _ _ _)
      | (with_reducible exact ih2 _ _ _ _ _ _ _)
      | (with_reducible exact ih3 _ _)
      | (with_reducible exact ih4 _ _ _ _ _ _)
      | (with_reducible exact ih5 _ _ _ _)
      | (with_reducible exact ih6 _ _ _ _)
      | (with_reducible exact lsf_Between.mono _ _ _ _)
      | (with_reducible exact lsf_Decode.mono _ _ _ _)
      | (with_reducible exact lsf_Good.mono _ _ _ _)
      | (with_reducible exact lsf_Search.mono _ _ _)
      | (with_reducible exact lsf_Steady.mono _ _)
      | (with_reducible exact madrigallaw6_awake.mono _)
      | (with_reducible exact madrigallaw6_same.mono _ _ _)
      | (with_reducible exact madrigalref6_Between.mono _ _ _ _)
      | (with_reducible exact madrigalref6_Decode.mono _ _ _ _)
      | (with_reducible exact madrigalref6_GoodIndex.mono _ _ _ _)
      | (with_reducible exact madrigalref6_Search.mono _ _ _)
      | (with_reducible exact madrigalref6_Steady.mono _ _)
      | (with_reducible exact LeO.refl _)
      | (with_reducible exact LeO.none _)
      | (with_reducible refine LeO.ite ?_ ?_)
      | (with_reducible refine LeO.bind ?_ (fun _ => ?_))
      | exact ih0 _ _ _ _ _ _ _
      | exact ih1 _ _ _ _ _
      | exact ih2 _ _ _ _ _ _ _
      | exact ih3 _ _
      | exact ih4 _ _ _ _ _ _
      | exact ih5 _ _ _ _
      | exact ih6 _ _ _ _
      | exact lsf_Between.mono _ _ _ _
      | exact lsf_Decode.mono _ _ _ _
      | exact lsf_Good.mono _ _ _ _
      | exact lsf_Search.mono _ _ _
      | exact lsf_Steady.mono _ _
      | exact madrigallaw6_awake.mono _
      | exact madrigallaw6_same.mono _ _ _
      | exact madrigalref6_Between.mono _ _ _ _
      | exact madrigalref6_Decode.mono _ _ _ _
      | exact madrigalref6_GoodIndex.mono _ _ _ _
      | exact madrigalref6_Search.mono _ _ _
      | exact madrigalref6_Steady.mono _ _
      | exact LeO.none _
      | refine LeO.ite ?_ ?_
      | refine LeO.bind ?_ (fun _ => ?_)
    · intro y0 y1 y2 y3 y4
      unfold madrigallaw6_LsfSays.j1
      repeat' first
      | (with_reducible exact ih0 _ _ _ _ _ _ _)
      | (with_reducible exact ih1 _ _ _ _ _)
      | (with_reducible exact ih2 _ _ _ _ _ _ _)
      | (with_reducible exact ih3 _ _)
      | (with_reducible exact ih4 _ _ _ _ _ _)
      | (with_reducible exact ih5 _ _ _ _)
      | (with_reducible exact ih6 _ _ _ _)
      | (with_reducible exact lsf_Between.mono _ _ _ _)
      | (with_reducible exact lsf_Decode.mono _ _ _ _)
      | (with_reducible exact lsf_Good.mono _ _ _ _)
      | (with_reducible exact lsf_Search.mono _ _ _)
      | (with_reducible exact lsf_Steady.mono _ _)
      | (with_reducible exact madrigallaw6_awake.mono _)
      | (with_reducible exact madrigallaw6_same.mono _ _ _)
      | (with_reducible exact madrigalref6_Between.mono _ _ _ _)
      | (with_reducible exact madrigalref6_Decode.mono _ _ _ _)
      | (with_reducible exact madrigalref6_GoodIndex.mono _ _ _ _)
      | (with_reducible exact madrigalref6_Search.mono _ _ _)
      | (with_reducible exact madrigalref6_Steady.mono _ _)
      | (with_reducible exact LeO.refl _)
      | (with_reducible exact LeO.none _)
      | (with_reducible refine LeO.ite ?_ ?_)
      | (with_reducible refine LeO.bind ?_ (fun _ => ?_))
      | exact ih0 _ _ _ _ _ _ _
      | exact ih1 _ _ _ _ _
      | exact ih2 _ _ _ _ _ _ _
      | exact ih3 _ _
      | exact ih4 _ _ _ _ _ _
      | exact ih5 _ _ _ _
      | exact ih6 _ _ _ _
      | exact lsf_Between.mono _ _ _ _
      | exact lsf_Decode.mono _ _ _ _
      | exact lsf_Good.mono _ _ _ _
      | exact lsf_Search.mono _ _ _
      | exact lsf_Steady.mono _ _
      | exact madrigallaw6_awake.mono _
      | exact madrigallaw6_same.mono _ _ _
      | exact madrigalref6_Between.mono _ _ _ _
      | exact madrigalref6_Decode.mono _ _ _ _
      | exact madrigalref6_GoodIndex.mono _ _ _ _
      | exact madrigalref6_Search.mono _ _ _
      | exact madrigalref6_Steady.mono _ _
      | exact LeO.none _
      | refine LeO.ite ?_ ?_
      | refine LeO.bind ?_ (fun _ => ?_)
    · intro y0 y1 y2 y3 y4 y5 y6
      unfold madrigallaw6_LsfSays.j2
      repeat' first
      | (with_reducible exact ih0 _ _ _ _ _ _ _)
      | (with_reducible exact ih1 _ _ _ _ _)
      | (with_reducible exact ih2 _ _ _ _ _ _ _)
      | (with_reducible exact ih3 _ _)
      | (with_reducible exact ih4 _ _ _ _ _ _)
      | (with_reducible exact ih5 _ _ _ _)
      | (with_reducible exact ih6 _ _ _ _)
      | (with_reducible exact lsf_Between.mono _ _ _ _)
      | (with_reducible exact lsf_Decode.mono _ _ _ _)
      | (with_reducible exact lsf_Good.mono _ _ _ _)
      | (with_reducible exact lsf_Search.mono _ _ _)
      | (with_reducible exact lsf_Steady.mono _ _)
      | (with_reducible exact madrigallaw6_awake.mono _)
      | (with_reducible exact madrigallaw6_same.mono _ _ _)
      | (with_reducible exact madrigalref6_Between.mono _ _ _ _)
      | (with_reducible exact madrigalref6_Decode.mono _ _ _ _)
      | (with_reducible exact madrigalref6_GoodIndex.mono _ _ _ _)
      | (with_reducible exact madrigalref6_Search.mono _ _ _)
      | (with_reducible exact madrigalref6_Steady.mono _ _)
      | (with_reducible exact LeO.refl _)
      | (with_reducible exact LeO.none _)
      | (with_reducible refine LeO.ite ?_ ?_)
      | (with_reducible refine LeO.bind ?_ (fun _ => ?_))
      | exact ih0 _ _ _ _ _ _ _
      | exact ih1 _ _ _ _ _
      | exact ih2 _ _ _ _ _ _ _
      | exact ih3 _ _
      | exact ih4 _ _ _ _ _ _
      | exact ih5 _ _ _ _
      | exact ih6 _ _ _ _
      | exact lsf_Between.mono _ _ _ _
      | exact lsf_Decode.mono _ _ _ _
      | exact lsf_Good.mono _ _ _ _
      | exact lsf_Search.mono _ _ _
      | exact lsf_Steady.mono _ _
      | exact madrigallaw6_awake.mono _
      | exact madrigallaw6_same.mono _ _ _
      | exact madrigalref6_Between.mono _ _ _ _
      | exact madrigalref6_Decode.mono _ _ _ _
      | exact madrigalref6_GoodIndex.mono _ _ _ _
      | exact madrigalref6_Search.mono _ _ _
      | exact madrigalref6_Steady.mono _ _
      | exact LeO.none _
      | refine LeO.ite ?_ ?_
      | refine LeO.bind ?_ (fun _ => ?_)
    · intro y0 y1
      unfold madrigallaw6_LsfSays.j3
      repeat' first
      | (with_reducible exact ih0 _ _ _ _ _ _ _)
      | (with_reducible exact ih1 _ _ _ _ _)
      | (with_reducible exact ih2 _ _ _ _ _ _ _)
      | (with_reducible exact ih3 _ _)
      | (with_reducible exact ih4 _ _ _ _ _ _)
      | (with_reducible exact ih5 _ _ _ _)
      | (with_reducible exact ih6 _ _ _ _)
      | (with_reducible exact lsf_Between.mono _ _ _ _)
      | (with_reducible exact lsf_Decode.mono _ _ _ _)
      | (with_reducible exact lsf_Good.mono _ _ _ _)
      | (with_reducible exact lsf_Search.mono _ _ _)
      | (with_reducible exact lsf_Steady.mono _ _)
      | (with_reducible exact madrigallaw6_awake.mono _)
      | (with_reducible exact madrigallaw6_same.mono _ _ _)
      | (with_reducible exact madrigalref6_Between.mono _ _ _ _)
      | (with_reducible exact madrigalref6_Decode.mono _ _ _ _)
      | (with_reducible exact madrigalref6_GoodIndex.mono _ _ _ _)
      | (with_reducible exact madrigalref6_Search.mono _ _ _)
      | (with_reducible exact madrigalref6_Steady.mono _ _)
      | (with_reducible exact LeO.refl _)
      | (with_reducible exact LeO.none _)
      | (with_reducible refine LeO.ite ?_ ?_)
      | (with_reducible refine LeO.bind ?_ (fun _ => ?_))
      | exact ih0 _ _ _ _ _ _ _
      | exact ih1 _ _ _ _ _
      | exact ih2 _ _ _ _ _ _ _
      | exact ih3 _ _
      | exact ih4 _ _ _ _ _ _
      | exact ih5 _ _ _ _
      | exact ih6 _ _ _ _
      | exact lsf_Between.mono _ _ _ _
      | exact lsf_Decode.mono _ _ _ _
      | exact lsf_Good.mono _ _ _ _
      | exact lsf_Search.mono _ _ _
      | exact lsf_Steady.mono _ _
      | exact madrigallaw6_awake.mono _
      | exact madrigallaw6_same.mono _ _ _
      | exact madrigalref6_Between.mono _ _ _ _
      | exact madrigalref6_Decode.mono _ _ _ _
      | exact madrigalref6_GoodIndex.mono _ _ _ _
      | exact madrigalref6_Search.mono _ _ _
      | exact madrigalref6_Steady.mono _ _
      | exact LeO.none _
      | refine LeO.ite ?_ ?_
      | refine LeO.bind ?_ (fun _ => ?_)
    · intro y0 y1 y2 y3 y4 y5
      unfold madrigallaw6_LsfSays.j4
      repeat' first
      | (with_reducible exact ih0 _ _ _ _ _ _ _)
      | (with_reducible exact ih1 _ _ _ _ _)
      | (with_reducible exact ih2 _ _ _ _ _ _ _)
      | (with_reducible exact ih3 _ _)
      | (with_reducible exact ih4 _ _ _ _ _ _)
      | (with_reducible exact ih5 _ _ _ _)
      | (with_reducible exact ih6 _ _ _ _)
      | (with_reducible exact lsf_Between.mono _ _ _ _)
      | (with_reducible exact lsf_Decode.mono _ _ _ _)
      | (with_reducible exact lsf_Good.mono _ _ _ _)
      | (with_reducible exact lsf_Search.mono _ _ _)
      | (with_reducible exact lsf_Steady.mono _ _)
      | (with_reducible exact madrigallaw6_awake.mono _)
      | (with_reducible exact madrigallaw6_same.mono _ _ _)
      | (with_reducible exact madrigalref6_Between.mono _ _ _ _)
      | (with_reducible exact madrigalref6_Decode.mono _ _ _ _)
      | (with_reducible exact madrigalref6_GoodIndex.mono _ _ _ _)
      | (with_reducible exact madrigalref6_Search.mono _ _ _)
      | (with_reducible exact madrigalref6_Steady.mono _ _)
      | (with_reducible exact LeO.refl _)
      | (with_reducible exact LeO.none _)
      | (with_reducible refine LeO.ite ?_ ?_)
      | (with_reducible refine LeO.bind ?_ (fun _ => ?_))
      | exact ih0 _ _ _ _ _ _ _
      | exact ih1 _ _ _ _ _
      | exact ih2 _ _ _ _ _ _ _
      | exact ih3 _ _
      | exact ih4 _ _ _ _ _ _
      | exact ih5 _ _ _ _
      | exact ih6 _ _ _ _
      | exact lsf_Between.mono _ _ _ _
      | exact lsf_Decode.mono _ _ _ _
      | exact lsf_Good.mono _ _ _ _
      | exact lsf_Search.mono _ _ _
      | exact lsf_Steady.mono _ _
      | exact madrigallaw6_awake.mono _
      | exact madrigallaw6_same.mono _ _ _
      | exact madrigalref6_Between.mono _ _ _ _
      | exact madrigalref6_Decode.mono _ _ _ _
      | exact madrigalref6_GoodIndex.mono _ _ _ _
      | exact madrigalref6_Search.mono _ _ _
      | exact madrigalref6_Steady.mono _ _
      | exact LeO.none _
      | refine LeO.ite ?_ ?_
      | refine LeO.bind ?_ (fun _ => ?_)
    · intro y0 y1 y2 y3
      unfold madrigallaw6_LsfSays.j5
      repeat' first
      | (with_reducible exact ih0 _ _ _ _ _ _ _)
      | (with_reducible exact ih1 _ _ _ _ _)
      | (with_reducible exact ih2 _ _ _ _ _ _ _)
      | (with_reducible exact ih3 _ _)
      | (with_reducible exact ih4 _ _ _ _ _ _)
      | (with_reducible exact ih5 _ _ _ _)
      | (with_reducible exact ih6 _ _ _ _)
      | (with_reducible exact lsf_Between.mono _ _ _ _)
      | (with_reducible exact lsf_Decode.mono _ _ _ _)
      | (with_reducible exact lsf_Good.mono _ _ _ _)
      | (with_reducible exact lsf_Search.mono _ _ _)
      | (with_reducible exact lsf_Steady.mono _ _)
      | (with_reducible exact madrigallaw6_awake.mono _)
      | (with_reducible exact madrigallaw6_same.mono _ _ _)
      | (with_reducible exact madrigalref6_Between.mono _ _ _ _)
      | (with_reducible exact madrigalref6_Decode.mono _ _ _ _)
      | (with_reducible exact madrigalref6_GoodIndex.mono _ _ _ _)
      | (with_reducible exact madrigalref6_Search.mono _ _ _)
      | (with_reducible exact madrigalref6_Steady.mono _ _)
      | (with_reducible exact LeO.refl _)
      | (with_reducible exact LeO.none _)
      | (with_reducible refine LeO.ite ?_ ?_)
      | (with_reducible refine LeO.bind ?_ (fun _ => ?_))
      | exact ih0 _ _ _ _ _ _ _
      | exact ih1 _ _ _ _ _
      | exact ih2 _ _ _ _ _ _ _
      | exact ih3 _ _
      | exact ih4 _ _ _ _ _ _
      | exact ih5 _ _ _ _
      | exact ih6 _ _ _ _
      | exact lsf_Between.mono _ _ _ _
      | exact lsf_Decode.mono _ _ _ _
      | exact lsf_Good.mono _ _ _ _
      | exact lsf_Search.mono _ _ _
      | exact lsf_Steady.mono _ _
      | exact madrigallaw6_awake.mono _
      | exact madrigallaw6_same.mono _ _ _
      | exact madrigalref6_Between.mono _ _ _ _
      | exact madrigalref6_Decode.mono _ _ _ _
      | exact madrigalref6_GoodIndex.mono _ _ _ _
      | exact madrigalref6_Search.mono _ _ _
      | exact madrigalref6_Steady.mono _ _
      | exact LeO.none _
      | refine LeO.ite ?_ ?_
      | refine LeO.bind ?_ (fun _ => ?_)
    · intro y0 y1 y2 y3
      unfold madrigallaw6_LsfSays.l0
      repeat' first
      | (with_reducible exact ih0 _ _ _ _ _ _ _)
      | (with_reducible exact ih1 _ _ _ _ _)
      | (with_reducible exact ih2 _ _ _ _ _ _ _)
      | (with_reducible exact ih3 _ _)
      | (with_reducible exact ih4 _ _ _ _ _ _)
      | (with_reducible exact ih5 _ _ _ _)
      | (with_reducible exact ih6 _ _ _ _)
      | (with_reducible exact lsf_Between.mono _ _ _ _)
      | (with_reducible exact lsf_Decode.mono _ _ _ _)
      | (with_reducible exact lsf_Good.mono _ _ _ _)
      | (with_reducible exact lsf_Search.mono _ _ _)
      | (with_reducible exact lsf_Steady.mono _ _)
      | (with_reducible exact madrigallaw6_awake.mono _)
      | (with_reducible exact madrigallaw6_same.mono _ _ _)
      | (with_reducible exact madrigalref6_Between.mono _ _ _ _)
      | (with_reducible exact madrigalref6_Decode.mono _ _ _ _)
      | (with_reducible exact madrigalref6_GoodIndex.mono _ _ _ _)
      | (with_reducible exact madrigalref6_Search.mono _ _ _)
      | (with_reducible exact madrigalref6_Steady.mono _ _)
      | (with_reducible exact LeO.refl _)
      | (with_reducible exact LeO.none _)
      | (with_reducible refine LeO.ite ?_ ?_)
      | (with_reducible refine LeO.bind ?_ (fun _ => ?_))
      | exact ih0 _ _ _ _ _ _ _
      | exact ih1 _ _ _ _ _
      | exact ih2 _ _ _ _ _ _ _
      | exact ih3 _ _
      | exact ih4 _ _ _ _ _ _
      | exact ih5 _ _ _ _
      | exact ih6 _ _ _ _
      | exact lsf_Between.mono _ _ _ _
      | exact lsf_Decode.mono _ _ _ _
      | exact lsf_Good.mono _ _ _ _
      | exact lsf_Search.mono _ _ _
      | exact lsf_Steady.mono _ _
      | exact madrigallaw6_awake.mono _
      | exact madrigallaw6_same.mono _ _ _
      | exact madrigalref6_Between.mono _ _ _ _
      | exact madrigalref6_Decode.mono _ _ _ _
      | exact madrigalref6_GoodIndex.mono _ _ _ _
      | exact madrigalref6_Search.mono _ _ _
      | exact madrigalref6_Steady.mono _ _
      | exact LeO.none _
      | refine LeO.ite ?_ ?_
      | refine LeO.bind ?_ (fun _ => ?_)
theorem madrigallaw6_LsfSays.mono : ∀ a0 a1 a2 a3 a4 a5 k, LeO (madrigallaw6_LsfSays.f k a0 a1 a2 a3 a4 a5) (madrigallaw6_LsfSays.f (k + 1) a0 a1 a2 a3 a4 a5) := by
  intro a0 a1 a2 a3 a4 a5 k
  obtain ⟨ih0, ih1, ih2, ih3, ih4, ih5, ih6⟩ := madrigallaw6_LsfSays.mono_l k
  unfold madrigallaw6_LsfSays.f
  repeat' first
      | (with_reducible exact ih0 _ _ _ _ _ _ _)
      | (with_reducible exact ih1 _ _ _ _ _)
      | (with_reducible exact ih2 _ _ _ _ _ _ _)
      | (with_reducible exact ih3 _ _)
      | (with_reducible exact ih4 _ _ _ _ _ _)
      | (with_reducible exact ih5 _ _ _ _)
      | (with_reducible exact ih6 _ _ _ _)
      | (with_reducible exact lsf_Between.mono _ _ _ _)
      | (with_reducible exact lsf_Decode.mono _ _ _ _)
      | (with_reducible exact lsf_Good.mono _ _ _ _)
      | (with_reducible exact lsf_Search.mono _ _ _)
      | (with_reducible exact lsf_Steady.mono _ _)
      | (with_reducible exact madrigallaw6_awake.mono _)
      | (with_reducible exact madrigallaw6_same.mono _ _ _)
      | (with_reducible exact madrigalref6_Between.mono _ _ _ _)
      | (with_reducible exact madrigalref6_Decode.mono _ _ _ _)
      | (with_reducible exact madrigalref6_GoodIndex.mono _ _ _ _)
      | (with_reducible exact madrigalref6_Search.mono _ _ _)
      | (with_reducible exact madrigalref6_Steady.mono _ _)
      | (with_reducible exact LeO.refl _)
      | (with_reducible exact LeO.none _)
      | (with_reducible refine LeO.ite ?_ ?_)
      | (with_reducible refine LeO.bind ?_ (fun _ => ?_))
      | exact ih0 _ _ _ _ _ _ _
      | exact ih1 _ _ _ _ _
      | exact ih2 _ _ _ _ _ _ _
      | exact ih3 _ _
      | exact ih4 _ _ _ _ _ _
      | exact ih5 _ _ _ _
      | exact ih6 _ _ _ _
      | exact lsf_Between.mono _ _ _ _
      | exact lsf_Decode.mono _ _ _ _
      | exact lsf_Good.mono _ _ _ _
      | exact lsf_Search.mono _ _ _
      | exact lsf_Steady.mono _ _
      | exact madrigallaw6_awake.mono _
      | exact madrigallaw6_same.mono _ _ _
      | exact madrigalref6_Between.mono _ _ _ _
      | exact madrigalref6_Decode.mono _ _ _ _
      | exact madrigalref6_GoodIndex.mono _ _ _ _
      | exact madrigalref6_Search.mono _ _ _
      | exact madrigalref6_Steady.mono _ _
      | exact LeO.none _
      | refine LeO.ite ?_ ?_
      | refine LeO.bind ?_ (fun _ => ?_)
def madrigallaw6_LsfSays.T6 : Bool × List (List Nat × List Nat) := (true, [([], []), ([], []), ([1], [1]), ([], []), ([], []), ([4], [4]), ([3, 5], [3, 5]), ([2, 6], [2, 6]), ([0, 7, 6], [0, 7]), ([8], [8]), ([9], [9]), ([9], [9]), ([10, 8, 0, 1, 2, 3, 4, 5, 6, 7, 8, 9, 10], [10]), ([11, 12, 0, 1, 2, 3, 4, 5, 6, 7, 8, 9, 10, 11, 12], [11])])
def madrigallaw6_LsfSays.B6 : List Nat := [0, 0, 2, 0, 0, 16, 56, 126, 255, 511, 1023, 1023, 2047, 8191]
theorem madrigallaw6_LsfSays.tab6 : rtab .any (opsOf Try.f8 6) = madrigallaw6_LsfSays.T6 := by kernel_rfl
theorem madrigallaw6_LsfSays.bits6 : waitsOk madrigallaw6_LsfSays.T6.2 madrigallaw6_LsfSays.B6 = true := by kernel_rfl
def madrigallaw6_LsfSays.T26 : Bool × List (List Nat × List Nat) := (true, [([], []), ([0], [0]), ([], []), ([1, 2], [1, 2]), ([3], [3]), ([], []), ([], []), ([5, 6], [5, 6]), ([7], [7]), ([4, 8], [4, 8])])
def madrigallaw6_LsfSays.B26 : List Nat := [0, 1, 0, 7, 15, 0, 0, 96, 224, 511]
theorem madrigallaw6_LsfSays.tab26 : rtab .any (opsOf Try.f8 26) = madrigallaw6_LsfSays.T26 := by kernel_rfl
theorem madrigallaw6_LsfSays.bits26 : waitsOk madrigallaw6_LsfSays.T26.2 madrigallaw6_LsfSays.B26 = true := by kernel_rfl
set_option maxHeartbeats 8000000 in
set_option maxRecDepth 100000 in
theorem madrigallaw6_LsfSays.calls (k : Nat) (a0 : Int) (a1_0 : Int) (A1_1 : Option Addr) (c1_1 : Nat) (l1_1 : List Int) (A2 : Option Addr) (c2 : Nat) (l2 : List Int) (A3 : Option Addr) (c3 : Nat) (l3 : List Int) (a4 : Int) (r : Bool) (w : World) (hr1_1 : Kd.C (Kd.int .i64) w A1_1 l1_1.length l1_1) (hc1_1 : l1_1.length ≤ c1_1) (hr2 : Kd.C (Kd.int .i64) w A2 l2.length l2) (hc2 : l2.length ≤ c2) (hr3 : Kd.C (Kd.int .i64) w A3 l3.length l3) (hc3 : l3.length ≤ c3) (h : madrigallaw6_LsfSays.f k a0 a1_0 l1_1 l2 l3 a4 = some r) :
    Calls Try.prog 8 #[.int .i64 a0, .agg #[.int .i64 a1_0, .slice A1_1 l1_1.length c1_1], .slice A2 l2.length c2, .slice A3 l3.length c3, .int .i64 a4] w fun e w' => e = .returned (.bool r) ∧ Below w.heap.size w w' := by
  have hu42 := Try.underlying42
  have HR1_1 := Aside0.mk hr1_1
  have HC1_1 := Aside0.mk hc1_1
  clear hr1_1 hc1_1
  have HR2 := Aside0.mk hr2
  have HC2 := Aside0.mk hc2
  clear hr2 hc2
  have HR3 := Aside0.mk hr3
  have HC3 := Aside0.mk hc3
  clear hr3 hc3
  have HB := Aside0.mk (Below.refl w.heap.size w)
  have H : ((madrigallaw6_awake.f k).bind fun t487 => (if t487 = true then (if (l2.length : Int) > 100 then (madrigallaw6_LsfSays.j0 k a0 l2 l3 a4 true a1_0 l1_1) else (if (l3.length : Int) > 100 then (madrigallaw6_LsfSays.j0 k a0 l2 l3 a4 true a1_0 l1_1) else (madrigallaw6_LsfSays.j0 k a0 l2 l3 a4 (decide ((l1_1.length : Int) > 100)) a1_0 l1_1))) else (none))) = some r := h
  clear h
  replace H := Option.bind_eq_some_iff.mp H
  obtain ⟨t487, A60, H⟩ := H
  replace H : (if t487 = true then (if (l2.length : Int) > 100 then (madrigallaw6_LsfSays.j0 k a0 l2 l3 a4 true a1_0 l1_1) else (if (l3.length : Int) > 100 then (madrigallaw6_LsfSays.j0 k a0 l2 l3 a4 true a1_0 l1_1) else (madrigallaw6_LsfSays.j0 k a0 l2 l3 a4 (decide ((l1_1.length : Int) > 100)) a1_0 l1_1))) else (none)) = some r := H
  have A6 := Aside0.mk A60
  clear A60
  by_cases c7 : t487 = true
  · subst c7
    have H1 : (if (l2.length : Int) > 100 then (madrigallaw6_LsfSays.j0 k a0 l2 l3 a4 true a1_0 l1_1) else (if (l3.length : Int) > 100 then (madrigallaw6_LsfSays.j0 k a0 l2 l3 a4 true a1_0 l1_1) else (madrigallaw6_LsfSays.j0 k a0 l2 l3 a4 (decide ((l1_1.length : Int) > 100)) a1_0 l1_1))) = some r := by rw [if_pos rfl] at H; exact H
    clear H
    have H := H1
    clear H1
    have HC8 := Aside0.mk H
    clear H
    go_enter Try.func8, Try.ntmps8
    go_upto_region 3 with (first | ((with_reducible refine gate_dst (N := 6) rfl ?_); (try (refine gate_guard (by rfl) ?_; dsimp only)); refine box_event ?hg (N := 6) ?hd (cs := #[.int .i64 a1_0, .slice A1_1 l1_1.length c1_1]) (t := 42) ?hr ?_; (case hd => rfl); (case hg => rfl); (case hr => first | (go_simp; done) | (go_simp; rfl)); intro gb486 hg w9 hbox hb; have n0_ := Aside0.mk (below_step (by repeat (first | (with_reducible first | exact HB.out | apply below_alloc | apply pw_below_drewN | apply below_drew1) | exact HB.out)) hb); have n1_ := Aside0.mk (hbox); have n2_ := Aside0.mk ((by rw [hg]; exact (below_size (by repeat (first | (with_reducible first | exact HB.out | apply below_alloc | apply pw_below_drewN | apply below_drew1) | exact HB.out))) : w.heap.size ≤ gb486)); have n3_ := Aside0.mk ((by rw [hg]; exact (below_size (by repeat (first | (with_reducible first | exact HB.out | apply below_alloc | apply pw_below_drewN | apply below_drew1) | exact HB.out))) : w.heap.size ≤ gb486)); clear HB; have HB := n0_; have BK486 := n1_; have GW486 := n2_; have GE486 := n3_; clear n0_ n1_ n2_ n3_; clear hb hbox hg) | ((with_reducible refine gate_callee (f := 22) rfl ?_); refine goesL_ (some 21) rfl rfl Try.func22 (by kernel_rfl) rfl #[] rfl (by (try simp only [List.map_toArray, List.map_cons, List.map_nil]); first | done | rfl | (simp only [List.length_drop, List.length_take]; rfl)) ?_; (with_reducible refine (madrigallaw6_awake.calls k  true _ A6.out).mono ?_); rintro e w10 ⟨rfl, hb⟩; refine ⟨_, rfl, ?_⟩; have n0_ := Aside0.mk (blk_below (g := gb486) (o := .cells #[.int .i64 a1_0, .slice A1_1 l1_1.length c1_1] 42 (0, 0)) (by (with_reducible repeat (first | refine blk_drewN ?_ _ | refine blk_drew ?_ | refine blk_alloc ?_ _)); exact BK486.out) hb); have n1_ := Aside0.mk (below_step (by repeat (first | (with_reducible first | exact HB.out | apply below_alloc | apply pw_below_drewN | apply below_drew1 | refine below_set ?_ GE486.out) | exact HB.out)) hb); clear BK486; clear HB; have BK486 := n0_; have HB := n1_; clear n0_ n1_; (try clear hb); (try clear hb2); (try clear hk); (try clear hi); (try clear hge)))
    (try simp only [Act.put, List.setIfInBounds_toArray, List.set_cons_zero, List.set_cons_succ])
    go_cut [36] (fun v36 wc => ∃ (kq : Nat) (x36_7 : Bool), v36 = .bool x36_7 ∧ Aside0 (madrigallaw6_LsfSays.j0 kq a0 l2 l3 a4 x36_7 a1_0 l1_1 = some r) ∧ Aside0 (kq ≤ k) ∧ Aside0 (wc.heap[gb486]? = some (.cells #[.int .i64 a1_0, (.slice A1_1 l1_1.length c1_1)] 42 (0, 0))) ∧ Aside0 (Below w.heap.size w wc))
    case first =>
      have H := HC8.out
      clear HC8
      by_cases c11 : (l2.length : Int) > 100
      · rw [if_pos c11] at H
        have c11b0 : decide (100 < (l2.length : Int)) = true := decide_eq_true c11
        have c11b1 : decide (100 < l2.length) = true := decide_eq_true (by omega)
        clear c11
        (first | rw [c11b0] | (simp only [i64_w, i32_w]; rw [c11b0]) | skip)
        have H' := Aside0.mk H
        clear H
        go_wp2
        go_meet
        case rel => exact ⟨_, (true), (by first | rfl | (simp; done) | (simp [*]; done)), H', ⟨by first | omega | exact Nat.le_refl _⟩, ⟨by (with_reducible repeat (first | refine blk_drewN ?_ _ | refine blk_drew ?_ | refine blk_alloc ?_ _)); exact BK486.out⟩, ⟨by repeat (first | (with_reducible first | exact HB.out | apply below_alloc | apply pw_below_drewN | apply below_drew1 | refine below_set ?_ GE486.out) | exact HB.out)⟩⟩
      · rw [if_neg c11] at H
        have c11b0 : decide (100 < (l2.length : Int)) = false := decide_eq_false c11
        have c11b1 : decide (100 < l2.length) = false := decide_eq_false (by omega)
        clear c11
        (first | rw [c11b0] | (simp only [i64_w, i32_w]; rw [c11b0]) | skip)
        by_cases c12 : (l3.length : Int) > 100
        · rw [if_pos c12] at H
          have c12b0 : decide (100 < (l3.length : Int)) = true := decide_eq_true c12
          have c12b1 : decide (100 < l3.length) = true := decide_eq_true (by omega)
          clear c12
          have H' := Aside0.mk H
          clear H
          go_wp2
          go_meet
          case rel => exact ⟨_, (true), (by first | rfl | (simp; done) | (simp [*]; done)), H', ⟨by first | omega | exact Nat.le_refl _⟩, ⟨by (with_reducible repeat (first | refine blk_drewN ?_ _ | refine blk_drew ?_ | refine blk_alloc ?_ _)); exact BK486.out⟩, ⟨by repeat (first | (with_reducible first | exact HB.out | apply below_alloc | apply pw_below_drewN | apply below_drew1 | refine below_set ?_ GE486.out) | exact HB.out)⟩⟩
        · rw [if_neg c12] at H
          have c12b0 : decide (100 < (l3.length : Int)) = false := decide_eq_false c12
          have c12b1 : decide (100 < l3.length) = false := decide_eq_false (by omega)
          clear c12
          have H' := Aside0.mk H
          clear H
          have hcz13_0 : w10.cell? ⟨gb486, 0, none⟩ = some (.int .i64 a1_0) := (blk_cell BK486.out 0).trans rfl
          have hcz13_1 : w10.cell? ⟨gb486, 1, none⟩ = some (.slice A1_1 l1_1.length c1_1) := (blk_cell BK486.out 1).trans rfl
          have hfz13_0 := blk_frozen BK486.out 0
          have hfz13_1 := blk_frozen BK486.out 1
          go_wp2
          go_meet
          case rel => exact ⟨_, (decide ((l1_1.length : Int) > 100)), (by first | rfl | (simp; done) | (simp [*]; done)), H', ⟨by first | omega | exact Nat.le_refl _⟩, ⟨by (with_reducible repeat (first | refine blk_drewN ?_ _ | refine blk_drew ?_ | refine blk_alloc ?_ _)); exact BK486.out⟩, ⟨by repeat (first | (with_reducible first | exact HB.out | apply below_alloc | apply pw_below_drewN | apply below_drew1 | refine below_set ?_ GE486.out) | exact HB.out)⟩⟩
    case rest => as_aux_lemma =>
      clear HC8
      try clear c1
      try clear c2
      try clear p2
      try clear c3
      try clear c7
      try clear c8
      try clear c11
      try clear c11b0
      try clear c11b1
      try clear c12
      try clear c12b0
      try clear c12b1
      try clear hcz13_0
      try clear hcz13_1
      try clear hfz13_0
      try clear hfz13_1
      obtain ⟨kq, x36_7, rfl, HA, HJ7, BK486, HB⟩ := hcut
      (try simp only [i64_w, i32_w])
      cases kq with
      | zero => exact absurd HA.out (by simp [madrigallaw6_LsfSays.j0])
      | succ kj7 =>
        have H := HA.out
        clear HA
        simp only [madrigallaw6_LsfSays.j0] at H
        by_cases c14 : x36_7 = true
        · subst c14
          have H1 : (some true) = some r := by rw [if_pos rfl] at H; exact H
          clear H
          have H := H1
          clear H1
          obtain rfl := Option.some.inj H
          go_wp2
          go_ret
          exact ⟨by first | rfl | (simp [errW_none, errW_some] <;> rfl) | (simp [*, errW_none, errW_some] <;> rfl), by repeat (first | (with_reducible first | exact HB.out | apply below_alloc | apply pw_below_drewN | apply below_drew1 | refine below_set ?_ GE486.out) | exact HB.out)⟩
        · replace c14 := Bool.eq_false_iff.mpr c14
          subst c14
          have H1 : ((madrigalref6_GoodIndex.f kj7 a0 a1_0 l1_1).bind fun t488 => ((some (([] : List Int) : List Int)).bind fun y489 => (if y489.length + l1_1.length < 17592186044416 then ((lsf_Decode.f kj7 a0 a1_0 (y489 ++ l1_1)).bind fun bt495 => ((lsf_Good.f kj7 a0 a1_0 l1_1).bind fun t499 => (if (t499 != t488) = true then (madrigallaw6_LsfSays.j1 kj7 a0 l2 l3 a4 true) else (if (t488 != (bt495.2 == 0)) = true then (madrigallaw6_LsfSays.j1 kj7 a0 l2 l3 a4 true) else (if t488 = true then ((madrigalref6_Decode.f kj7 a0 a1_0 l1_1).bind fun t500 => ((madrigallaw6_same.f kj7 bt495.1 t500).bind fun t503 => (madrigallaw6_LsfSays.j1 kj7 a0 l2 l3 a4 (!t503)))) else (if bt495.2 = 1 then (if (bt495.1.length : Int) = 0 then (madrigallaw6_LsfSays.j1 kj7 a0 l2 l3 a4 false) else (madrigallaw6_LsfSays.j1 kj7 a0 l2 l3 a4 true)) else (madrigallaw6_LsfSays.j1 kj7 a0 l2 l3 a4 true))))))) else (none)))) = some r := by rw [if_neg (show ¬ (false = true) by decide)] at H; exact H
          clear H
          have H := H1
          clear H1
          replace H := Option.bind_eq_some_iff.mp H
          obtain ⟨t488, A150, H⟩ := H
          replace H : ((some (([] : List Int) : List Int)).bind fun y489 => (if y489.length + l1_1.length < 17592186044416 then ((lsf_Decode.f kj7 a0 a1_0 (y489 ++ l1_1)).bind fun bt495 => ((lsf_Good.f kj7 a0 a1_0 l1_1).bind fun t499 => (if (t499 != t488) = true then (madrigallaw6_LsfSays.j1 kj7 a0 l2 l3 a4 true) else (if (t488 != (bt495.2 == 0)) = true then (madrigallaw6_LsfSays.j1 kj7 a0 l2 l3 a4 true) else (if t488 = true then ((madrigalref6_Decode.f kj7 a0 a1_0 l1_1).bind fun t500 => ((madrigallaw6_same.f kj7 bt495.1 t500).bind fun t503 => (madrigallaw6_LsfSays.j1 kj7 a0 l2 l3 a4 (!t503)))) else (if bt495.2 = 1 then (if (bt495.1.length : Int) = 0 then (madrigallaw6_LsfSays.j1 kj7 a0 l2 l3 a4 false) else (madrigallaw6_LsfSays.j1 kj7 a0 l2 l3 a4 true)) else (madrigallaw6_LsfSays.j1 kj7 a0 l2 l3 a4 true))))))) else (none))) = some r := H
          have A15 := Aside0.mk A150
          clear A150
          obtain ⟨y489, hy489⟩ : ∃ y_ : List Int, y_ = (([] : List Int)) := ⟨_, rfl⟩
          replace H : (if y489.length + l1_1.length < 17592186044416 then ((lsf_Decode.f kj7 a0 a1_0 (y489 ++ l1_1)).bind fun bt495 => ((lsf_Good.f kj7 a0 a1_0 l1_1).bind fun t499 => (if (t499 != t488) = true then (madrigallaw6_LsfSays.j1 kj7 a0 l2 l3 a4 true) else (if (t488 != (bt495.2 == 0)) = true then (madrigallaw6_LsfSays.j1 kj7 a0 l2 l3 a4 true) else (if t488 = true then ((madrigalref6_Decode.f kj7 a0 a1_0 l1_1).bind fun t500 => ((madrigallaw6_same.f kj7 bt495.1 t500).bind fun t503 => (madrigallaw6_LsfSays.j1 kj7 a0 l2 l3 a4 (!t503)))) else (if bt495.2 = 1 then (if (bt495.1.length : Int) = 0 then (madrigallaw6_LsfSays.j1 kj7 a0 l2 l3 a4 false) else (madrigallaw6_LsfSays.j1 kj7 a0 l2 l3 a4 true)) else (madrigallaw6_LsfSays.j1 kj7 a0 l2 l3 a4 true))))))) else (none)) = some r := by first | (rw [hy489]; with_reducible exact H) | (have H2_ := (Option.bind_some _ _).symm.trans H; rw [hy489]; with_reducible exact H2_) | (have H2_ := (Option.bind_some _ _).symm.trans H; with_reducible exact H2_) | with_reducible exact H | (rw [hy489]; exact H) | exact H
          have Ny489 := Aside0.mk hy489
          clear hy489
          by_cases c16 : y489.length + l1_1.length < 17592186044416
          · rw [if_pos c16] at H
            have LMc16 := Aside0.mk c16
            clear c16
            obtain ⟨y492, hy492⟩ : ∃ y_ : List Int, y_ = (y489 ++ l1_1) := ⟨_, rfl⟩
            replace H : ((lsf_Decode.f kj7 a0 a1_0 y492).bind fun bt495 => ((lsf_Good.f kj7 a0 a1_0 l1_1).bind fun t499 => (if (t499 != t488) = true then (madrigallaw6_LsfSays.j1 kj7 a0 l2 l3 a4 true) else (if (t488 != (bt495.2 == 0)) = true then (madrigallaw6_LsfSays.j1 kj7 a0 l2 l3 a4 true) else (if t488 = true then ((madrigalref6_Decode.f kj7 a0 a1_0 l1_1).bind fun t500 => ((madrigallaw6_same.f kj7 bt495.1 t500).bind fun t503 => (madrigallaw6_LsfSays.j1 kj7 a0 l2 l3 a4 (!t503)))) else (if bt495.2 = 1 then (if (bt495.1.length : Int) = 0 then (madrigallaw6_LsfSays.j1 kj7 a0 l2 l3 a4 false) else (madrigallaw6_LsfSays.j1 kj7 a0 l2 l3 a4 true)) else (madrigallaw6_LsfSays.j1 kj7 a0 l2 l3 a4 true))))))) = some r := by first | (rw [hy492]; with_reducible exact H) | (have H2_ := (Option.bind_some _ _).symm.trans H; rw [hy492]; with_reducible exact H2_) | (have H2_ := (Option.bind_some _ _).symm.trans H; with_reducible exact H2_) | with_reducible exact H | (rw [hy492]; exact H) | exact H
            have Ny492 := Aside0.mk hy492
            clear hy492
            replace H := Option.bind_eq_some_iff.mp H
            obtain ⟨⟨t495, t498⟩, A170, H⟩ := H
            replace H : ((lsf_Good.f kj7 a0 a1_0 l1_1).bind fun t499 => (if (t499 != t488) = true then (madrigallaw6_LsfSays.j1 kj7 a0 l2 l3 a4 true) else (if (t488 != (t498 == 0)) = true then (madrigallaw6_LsfSays.j1 kj7 a0 l2 l3 a4 true) else (if t488 = true then ((madrigalref6_Decode.f kj7 a0 a1_0 l1_1).bind fun t500 => ((madrigallaw6_same.f kj7 t495 t500).bind fun t503 => (madrigallaw6_LsfSays.j1 kj7 a0 l2 l3 a4 (!t503)))) else (if t498 = 1 then (if (t495.length : Int) = 0 then (madrigallaw6_LsfSays.j1 kj7 a0 l2 l3 a4 false) else (madrigallaw6_LsfSays.j1 kj7 a0 l2 l3 a4 true)) else (madrigallaw6_LsfSays.j1 kj7 a0 l2 l3 a4 true)))))) = some r := H
            have A17 := Aside0.mk A170
            clear A170
            have HC18 := Aside0.mk H
            clear H
            have hcz19_0 : wc.cell? ⟨gb486, 0, none⟩ = some (.int .i64 a1_0) := (blk_cell BK486.out 0).trans rfl
            have hcz19_1 : wc.cell? ⟨gb486, 1, none⟩ = some (.slice A1_1 l1_1.length c1_1) := (blk_cell BK486.out 1).trans rfl
            have hfz19_0 := blk_frozen BK486.out 0
            have hfz19_1 := blk_frozen BK486.out 1
            try go_wp2_with (first | ((with_reducible refine gate_callee (f := 28) rfl ?_); refine goesL_ (some 42) rfl rfl Try.func28 (by kernel_rfl) rfl #[.int .i64 a0, .int .i64 a1_0, .slice A1_1 l1_1.length c1_1] rfl (by (try simp only [List.map_toArray, List.map_cons, List.map_nil]); first | done | rfl | (simp only [List.length_drop, List.length_take]; rfl)) ?_; (with_reducible refine (madrigalref6_GoodIndex.calls kj7 a0 a1_0 _ _ l1_1 t488 _ ?side1 ?side2 A15.out).mono ?_); (case side1 => repeat (first | exact (Kd.C_below HR1_1.out HB.out) | (with_reducible refine Kd.C_alloc ?_ _) | (with_reducible refine Kd.C_drewN ?_ _) | (with_reducible refine Kd.C_drew ?_))); (case side2 => exact HC1_1.out); rintro e w' ⟨rfl, ⟨nd, rfl⟩⟩; refine ⟨_, rfl, ?_⟩))
            (try (rw [drewN_self wc]; generalize hq_ : World.drewN wc _ = wc; have n0_ : Aside0 (wc.heap[gb486]? = some (.cells #[.int .i64 a1_0, .slice A1_1 l1_1.length c1_1] 42 (0, 0))) := ⟨by rw [← hq_]; exact (by (with_reducible repeat (first | refine blk_drewN ?_ _ | refine blk_drew ?_ | refine blk_alloc ?_ _)); exact BK486.out)⟩; have n1_ : Aside0 (Below w.heap.size w wc) := ⟨by rw [← hq_]; exact (by repeat (first | (with_reducible first | exact HB.out | apply below_alloc | apply pw_below_drewN | apply below_drew1 | refine below_set ?_ GE486.out) | exact HB.out))⟩; clear BK486 HB hq_; have BK486 := n0_; have HB := n1_; clear n0_ n1_))
            have n0_ := Aside0.mk (blk_drew BK486.out)
            have n1_ := Aside0.mk (below_drew1 HB.out)
            clear BK486
            clear HB
            have BK486 := n0_
            have HB := n1_
            clear n0_ n1_
            refine start_ (n := 14) (S := fun w' => w'.cell? ⟨gb486, 0, none⟩ = some (.int .i64 a1_0) ∧ w'.cell? ⟨gb486, 1, none⟩ = some (.slice A1_1 l1_1.length c1_1)) (ds := []) #[false, false, false, false, false, false, false, false, false, false, false, false, false, false] (by kernel_rfl) rfl rfl ⟨(blk_cell BK486.out 0).trans rfl, (blk_cell BK486.out 1).trans rfl⟩ (fun hHeld => ?_); refine with_tabW madrigallaw6_LsfSays.tab6 madrigallaw6_LsfSays.bits6 (fun HT_ HW_ => ?_)
            generalize wc.drew = w20 at BK486 HB hHeld ⊢
            refine pure_ (i := 0) (N := some 44) (v := ?_) (a' := ?_) #[true, false, false, false, false, false, false, false, false, false, false, false, false, false] rfl rfl (any_of HT_.out (by kernel_rfl)) (fun _ _ _ h => h) (Or.inl ⟨by rfl, ?_⟩) ?_ ?_
            rotate_left
            · intro w'
              go_simp
              with_reducible rfl
            rotate_left
            · simp only [Act.put, List.setIfInBounds_toArray, List.set_cons_zero, List.set_cons_succ, i64_w, i32_w]
              rfl
            refine pure_ (i := 1) (N := some 45) (v := ?_) (a' := ?_) #[true, true, false, false, false, false, false, false, false, false, false, false, false, false] rfl rfl (any_of HT_.out (by kernel_rfl)) (fun _ _ _ h => h) (Or.inl ⟨by rfl, ?_⟩) ?_ ?_
            rotate_left
            · intro w'
              go_simp
              with_reducible rfl
            rotate_left
            · simp only [Act.put, List.setIfInBounds_toArray, List.set_cons_zero, List.set_cons_succ, i64_w, i32_w]
              rfl
            refine pure_ (i := 4) (N := some 48) (v := ?_) (a' := ?_) #[true, true, false, false, true, false, false, false, false, false, false, false, false, false] rfl rfl (any_of HT_.out (by kernel_rfl)) (fun _ _ _ h => h) (Or.inl ⟨by rfl, ?_⟩) ?_ ?_
            rotate_left
            · intro w'
              go_simp
              with_reducible rfl
            rotate_left
            · simp only [Act.put, List.setIfInBounds_toArray, List.set_cons_zero, List.set_cons_succ, i64_w, i32_w]
              rfl
            refine take_ (i := 2) (N := some 46) (v := ?_) (a' := ?_) #[true, true, true, false, true, false, false, false, false, false, false, false, false, false] rfl rfl (take_ofW HT_.out HW_.out (by kernel_rfl)) (fun _ _ _ h => h) (Or.inl ⟨by rfl, ?_⟩) hHeld ?_ ?_
            rotate_left
            · rintro w' ⟨s0, s1⟩
              go_simp
              with_reducible rfl
            rotate_left
            · simp only [Act.put, List.setIfInBounds_toArray, List.set_cons_zero, List.set_cons_succ, i64_w, i32_w]
              rfl
            refine take_ (i := 5) (N := some 49) (v := ?_) (a' := ?_) #[true, true, true, false, true, true, false, false, false, false, false, false, false, false] rfl rfl (take_ofW HT_.out HW_.out (by kernel_rfl)) (fun _ _ _ h => h) (Or.inl ⟨by rfl, ?_⟩) hHeld ?_ ?_
            rotate_left
            · rintro w' ⟨s0, s1⟩
              go_simp
              with_reducible rfl
            rotate_left
            · simp only [Act.put, List.setIfInBounds_toArray, List.set_cons_zero, List.set_cons_succ, i64_w, i32_w]
              rfl
            refine one_ (i := 3) (N := some 47) #[true, true, true, true, true, true, false, false, false, false, false, false, false, false] rfl rfl (one_of HT_.out (by kernel_rfl)) (by decide) (fun K hK => ?_)
            refine Kd.R_lit_step (Kd.int .i64) _ 3 ?hg (N := 47) ?hd (xs := ([] : List Int)) (inner := []) (ok := fun _ => True) (okp := fun _ => True) ?hr ?hp (fun _ hk => hk) trivial (Below.refl _ _) (Nat.le_refl _) (by simp) ?_; (case hd => rfl); (case hg => rfl); (case hr => first | (go_simp; done) | (go_simp; rfl)); (case hp => exact (Reps.none _ _))
            intro v490 w21 ho22 hb hg_ hnew_
            clear hg_ hnew_
            (first | rw [← Ny489.out] at ho22 | (simp only [Int.reduceToNat] at ho22; rw [← Ny489.out] at ho22))
            have n0_ := Aside0.mk (Kd.R_lower ho22 (below_size (by repeat (first | (with_reducible first | exact HB.out | apply below_alloc | apply pw_below_drewN | apply below_drew1 | refine below_set ?_ GE486.out) | exact HB.out))))
            have n1_ := Aside0.mk (blk_below (g := gb486) (o := .cells #[.int .i64 a1_0, .slice A1_1 l1_1.length c1_1] 42 (0, 0)) (by (with_reducible repeat (first | refine blk_drewN ?_ _ | refine blk_drew ?_ | refine blk_alloc ?_ _)); exact BK486.out) hb)
            have n2_ := Aside0.mk (below_step (by repeat (first | (with_reducible first | exact HB.out | apply below_alloc | apply pw_below_drewN | apply below_drew1 | refine below_set ?_ GE486.out) | exact HB.out)) hb)
            clear BK486
            clear HB
            have HO491 := n0_
            have BK486 := n1_
            have HB := n2_
            clear n0_ n1_ n2_
            clear hb ho22
            refine hK.out _ _ ⟨(blk_cell BK486.out 0).trans rfl, (blk_cell BK486.out 1).trans rfl⟩ (fun hHeld => ?_)
            clear hK K
            refine norm_ (a' := ?_) ?_ ?_
            rotate_left
            · show Act.put _ (some 47) _ = _
              simp only [Act.put, List.setIfInBounds_toArray, List.set_cons_zero, List.set_cons_succ, i64_w, i32_w]
              rfl
            refine one_ (i := 6) (N := some 50) #[true, true, true, true, true, true, true, false, false, false, false, false, false, false] rfl rfl (one_of HT_.out (by kernel_rfl)) (by decide) (fun K hK => ?_)
            refine Kd.R_append_rows_step (Kd.int .i64) (w0 := w) w.heap.size (by rfl) (.tmp 47) (.tmp 49) 40 3 (.int .i64 0) 8 rfl Try.underlying40 info3 rfl (by decide) (by omega) v490 y489 l1_1 _ _ _ (fun _ => True) (fun _ => False) rfl rfl ?aO ?aR (fun _ _ h => h) (fun _ h => h.elim) ?aF ?aB ?aS ?aL ?_
            (case aR => repeat (first | exact (Kd.C_below HR1_1.out HB.out) | (with_reducible refine Kd.C_alloc ?_ _) | (with_reducible refine Kd.C_drewN ?_ _) | (with_reducible refine Kd.C_drew ?_)))
            (case aB => exact (by repeat (first | (with_reducible first | exact HB.out | apply below_alloc | apply pw_below_drewN | apply below_drew1 | refine below_set ?_ GE486.out) | exact HB.out)))
            (case aF => exact (fun _ _ => trivial))
            (case aO => exact (by (with_reducible repeat (first | apply Kd.R_alloc | apply Kd.R_drewN | apply Kd.R_drew)); exact HO491.out))
            (case aS => exact (below_size (by repeat (first | (with_reducible first | exact HB.out | apply below_alloc | apply pw_below_drewN | apply below_drew1 | refine below_set ?_ GE486.out) | exact HB.out))))
            (case aL => have := LMc16.out; omega)
            intro v493 w23 ho hb hg hat
            rw [← Ny492.out] at ho
            have n0_ := Aside0.mk (blk_grown (g := gb486) (o := .cells #[.int .i64 a1_0, .slice A1_1 l1_1.length c1_1] 42 (0, 0)) (by (with_reducible repeat (first | refine blk_drewN ?_ _ | refine blk_drew ?_ | refine blk_alloc ?_ _)); exact BK486.out) hg (Kd.R_ne HO491.out BK486.out (by decide)))
            have n1_ := Aside0.mk (hb)
            have n2_ := Aside0.mk (ho)
            clear BK486
            clear HB
            clear HO491
            have BK486 := n0_
            have HB := n1_
            have HO494 := n2_
            clear n0_ n1_ n2_
            clear ho hb hg hat
            obtain ⟨Ao24, co24, eo24⟩ := Kd.R_slice HO494.out
            (first | subst eo24 | (injection eo24 with f1_ f2_ f3_; have f4_ := f1_.symm; have f5_ := f3_.symm; clear f1_ f2_ f3_; subst f4_; subst f5_))
            refine hK.out _ _ ⟨(blk_cell BK486.out 0).trans rfl, (blk_cell BK486.out 1).trans rfl⟩ (fun hHeld => ?_)
            clear hK K
            refine norm_ (a' := ?_) ?_ ?_
            rotate_left
            · show Act.put _ (some 50) _ = _
              simp only [Act.put, List.setIfInBounds_toArray, List.set_cons_zero, List.set_cons_succ, i64_w, i32_w]
              rfl
            refine pure_ (i := 7) (N := some 51) (v := ?_) (a' := ?_) #[true, true, true, true, true, true, true, true, false, false, false, false, false, false] rfl rfl (any_of HT_.out (by kernel_rfl)) (fun _ _ _ h => h) (Or.inl ⟨by rfl, ?_⟩) ?_ ?_
            rotate_left
            · intro w'
              go_simp
              with_reducible rfl
            rotate_left
            · simp only [Act.put, List.setIfInBounds_toArray, List.set_cons_zero, List.set_cons_succ, i64_w, i32_w]
              rfl
            refine one_ (i := 8) (N := some 52) #[true, true, true, true, true, true, true, true, true, false, false, false, false, false] rfl rfl (one_of HT_.out (by kernel_rfl)) (by decide) (fun K hK => ?_)
            refine goes_ Try.func23 (by kernel_rfl) rfl #[.int .i64 a0, .agg #[.int .i64 a1_0, .slice Ao24 y492.length co24]] (by rfl) rfl rfl (by (try simp only [List.map_toArray, List.map_cons, List.map_nil]); first | done | rfl | (simp only [List.length_drop, List.length_take]; rfl)) ?_
            with_reducible refine (lsf_Decode.calls kj7 a0 a1_0 _ _ y492 t495 t498 _ ?side1 ?side2 A17.out).mono ?_
            (case side1 => repeat (first | exact (Kd.R_reads' HO494.out).2.2 | (with_reducible refine Kd.C_alloc ?_ _) | (with_reducible refine Kd.C_drewN ?_ _) | (with_reducible refine Kd.C_drew ?_)))
            (case side2 => exact (Kd.R_reads' HO494.out).2.1)
            rintro e w25 ⟨v496, rfl, ho0, hb⟩
            refine ⟨_, rfl, ?_⟩
            have n0_ := Aside0.mk (Kd.R_below (by (with_reducible repeat (first | apply Kd.R_alloc | apply Kd.R_drewN | apply Kd.R_drew)); exact HO494.out) hb)
            have n1_ := Aside0.mk (Kd.R_lower ho0 (below_size (by repeat (first | (with_reducible first | exact HB.out | apply below_alloc | apply pw_below_drewN | apply below_drew1 | refine below_set ?_ GE486.out) | exact HB.out))))
            have n2_ := Aside0.mk (blk_below (g := gb486) (o := .cells #[.int .i64 a1_0, .slice A1_1 l1_1.length c1_1] 42 (0, 0)) (by (with_reducible repeat (first | refine blk_drewN ?_ _ | refine blk_drew ?_ | refine blk_alloc ?_ _)); exact BK486.out) hb)
            have n3_ := Aside0.mk (below_step (by repeat (first | (with_reducible first | exact HB.out | apply below_alloc | apply pw_below_drewN | apply below_drew1 | refine below_set ?_ GE486.out) | exact HB.out)) hb)
            clear HO494
            clear BK486
            clear HB
            have HO494 := n0_
            have HO497 := n1_
            have BK486 := n2_
            have HB := n3_
            clear n0_ n1_ n2_ n3_
            (try clear hb)
            (try clear hb2)
            (try clear hk)
            (try clear hi)
            (try clear hge)
            (try clear ho0)
            refine hK.out _ _ ⟨(blk_cell BK486.out 0).trans rfl, (blk_cell BK486.out 1).trans rfl⟩ (fun hHeld => ?_)
            clear hK K
            refine norm_ (a' := ?_) ?_ ?_
            rotate_left
            · show Act.put _ (some 52) _ = _
              simp only [Act.put, List.setIfInBounds_toArray, List.set_cons_zero, List.set_cons_succ, i64_w, i32_w]
              rfl
            refine pure_ (i := 9) (N := some 43) (v := ?_) (a' := ?_) #[true, true, true, true, true, true, true, true, true, true, false, false, false, false] rfl rfl (any_of HT_.out (by kernel_rfl)) (fun _ _ _ h => h) (Or.inl ⟨by rfl, ?_⟩) ?_ ?_
            rotate_left
            · intro w'
              go_simp
              with_reducible rfl
            rotate_left
            · simp only [Act.put, List.setIfInBounds_toArray, List.set_cons_zero, List.set_cons_succ, i64_w, i32_w]
              rfl
            refine pure_ (i := 10) (N := some 53) (v := ?_) (a' := ?_) #[true, true, true, true, true, true, true, true, true, true, true, false, false, false] rfl rfl (any_of HT_.out (by kernel_rfl)) (fun _ _ _ h => h) (Or.inl ⟨by rfl, ?_⟩) ?_ ?_
            rotate_left
            · intro w'
              go_simp
              with_reducible rfl
            rotate_left
            · simp only [Act.put, List.setIfInBounds_toArray, List.set_cons_zero, List.set_cons_succ, i64_w, i32_w]
              rfl
            refine pure_ (i := 11) (N := some 54) (v := ?_) (a' := ?_) #[true, true, true, true, true, true, true, true, true, true, true, true, false, false] rfl rfl (any_of HT_.out (by kernel_rfl)) (fun _ _ _ h => h) (Or.inl ⟨by rfl, ?_⟩) ?_ ?_
            rotate_left
            · intro w'
              go_simp
              with_reducible rfl
            rotate_left
            · simp only [Act.put, List.setIfInBounds_toArray, List.set_cons_zero, List.set_cons_succ, i64_w, i32_w]
              rfl
            refine pure_ (i := 12) (N := some 12) (v := ?_) (a' := ?_) #[true, true, true, true, true, true, true, true, true, true, true, true, true, false] rfl rfl (any_of HT_.out (by kernel_rfl)) (fun _ _ _ h => h) (Or.inl ⟨by rfl, ?_⟩) ?_ ?_
            rotate_left
            · intro w'
              go_simp
              with_reducible rfl
            rotate_left
            · simp only [Act.put, List.setIfInBounds_toArray, List.set_cons_zero, List.set_cons_succ, i64_w, i32_w]
              rfl
            refine pure_ (i := 13) (N := some 13) (v := ?_) (a' := ?_) #[true, true, true, true, true, true, true, true, true, true, true, true, true, true] rfl rfl (any_of HT_.out (by kernel_rfl)) (fun _ _ _ h => h) (Or.inl ⟨by rfl, ?_⟩) ?_ ?_
            rotate_left
            · intro w'
              go_simp
              with_reducible rfl
            rotate_left
            · simp only [Act.put, List.setIfInBounds_toArray, List.set_cons_zero, List.set_cons_succ, i64_w, i32_w]
              rfl
            refine done_ (done_of HT_.out (by kernel_rfl)) ?_
            go_upto_region 7 with (fail)
            go_cut [92] (fun v92 wc => ∃ (kq : Nat) (x92_17 : Bool), v92 = .bool x92_17 ∧ Aside0 (madrigallaw6_LsfSays.j1 kq a0 l2 l3 a4 x92_17 = some r) ∧ Aside0 (kq ≤ kj7) ∧ Aside0 (wc.heap[gb486]? = some (.cells #[.int .i64 a1_0, (.slice A1_1 l1_1.length c1_1)] 42 (0, 0))) ∧ Aside0 (Below w.heap.size w wc))
            case first =>
              have H := HC18.out
              clear HC18
              replace H := Option.bind_eq_some_iff.mp H
              obtain ⟨t499, A260, H⟩ := H
              replace H : (if (t499 != t488) = true then (madrigallaw6_LsfSays.j1 kj7 a0 l2 l3 a4 true) else (if (t488 != (t498 == 0)) = true then (madrigallaw6_LsfSays.j1 kj7 a0 l2 l3 a4 true) else (if t488 = true then ((madrigalref6_Decode.f kj7 a0 a1_0 l1_1).bind fun t500 => ((madrigallaw6_same.f kj7 t495 t500).bind fun t503 => (madrigallaw6_LsfSays.j1 kj7 a0 l2 l3 a4 (!t503)))) else (if t498 = 1 then (if (t495.length : Int) = 0 then (madrigallaw6_LsfSays.j1 kj7 a0 l2 l3 a4 false) else (madrigallaw6_LsfSays.j1 kj7 a0 l2 l3 a4 true)) else (madrigallaw6_LsfSays.j1 kj7 a0 l2 l3 a4 true))))) = some r := H
              have A26 := Aside0.mk A260
              clear A260
              by_cases c27 : (t499 != t488) = true
              · rw [if_pos c27] at H
                have c27b0 : (t499 != t488) = true := c27
                (try (have c27b1 : decide (t499 = t488) = false := by simpa using c27))
                (try (have c27b2 : (t499 == t488) = false := by simpa using c27))
                (try (have c27b3 : ¬ (t499 = t488) := by simpa using c27))
                clear c27
                (first | rw [c27b0] | (simp only [i64_w, i32_w]; rw [c27b0]) | skip)
                have H' := Aside0.mk H
                clear H
                have hcz28_0 : w25.cell? ⟨gb486, 0, none⟩ = some (.int .i64 a1_0) := (blk_cell BK486.out 0).trans rfl
                have hcz28_1 : w25.cell? ⟨gb486, 1, none⟩ = some (.slice A1_1 l1_1.length c1_1) := (blk_cell BK486.out 1).trans rfl
                have hfz28_0 := blk_frozen BK486.out 0
                have hfz28_1 := blk_frozen BK486.out 1
                go_wp2_with (first | ((with_reducible refine gate_callee (f := 26) rfl ?_); refine goesL_ (some 57) rfl rfl Try.func26 (by kernel_rfl) rfl #[.int .i64 a0, .agg #[.int .i64 a1_0, .slice A1_1 l1_1.length c1_1]] rfl (by (try simp only [List.map_toArray, List.map_cons, List.map_nil]); first | done | rfl | (simp only [List.length_drop, List.length_take]; rfl)) ?_; (with_reducible refine (lsf_Good.calls kj7 a0 a1_0 _ _ l1_1 t499 _ ?side1 ?side2 A26.out).mono ?_); (case side1 => repeat (first | exact (Kd.C_below HR1_1.out HB.out) | (with_reducible refine Kd.C_alloc ?_ _) | (with_reducible refine Kd.C_drewN ?_ _) | (with_reducible refine Kd.C_drew ?_))); (case side2 => exact HC1_1.out); rintro e w29 ⟨rfl, hb⟩; refine ⟨_, rfl, ?_⟩; have n0_ := Aside0.mk (Kd.R_below (by (with_reducible repeat (first | apply Kd.R_alloc | apply Kd.R_drewN | apply Kd.R_drew)); exact HO494.out) hb); have n1_ := Aside0.mk (Kd.R_below (by (with_reducible repeat (first | apply Kd.R_alloc | apply Kd.R_drewN | apply Kd.R_drew)); exact HO497.out) hb); have n2_ := Aside0.mk (blk_below (g := gb486) (o := .cells #[.int .i64 a1_0, .slice A1_1 l1_1.length c1_1] 42 (0, 0)) (by (with_reducible repeat (first | refine blk_drewN ?_ _ | refine blk_drew ?_ | refine blk_alloc ?_ _)); exact BK486.out) hb); have n3_ := Aside0.mk (below_step (by repeat (first | (with_reducible first | exact HB.out | apply below_alloc | apply pw_below_drewN | apply below_drew1 | refine below_set ?_ GE486.out) | exact HB.out)) hb); clear HO494; clear HO497; clear BK486; clear HB; have HO494 := n0_; have HO497 := n1_; have BK486 := n2_; have HB := n3_; clear n0_ n1_ n2_ n3_; (try clear hb); (try clear hb2); (try clear hk); (try clear hi); (try clear hge)))
                go_meet
                case rel => exact ⟨_, (true), (by first | rfl | (simp; done) | (simp [*]; done)), H', ⟨by have := HJ7.out; first | omega | exact Nat.le_refl _⟩, ⟨by (with_reducible repeat (first | refine blk_drewN ?_ _ | refine blk_drew ?_ | refine blk_alloc ?_ _)); exact BK486.out⟩, ⟨by repeat (first | (with_reducible first | exact HB.out | apply below_alloc | apply pw_below_drewN | apply below_drew1 | refine below_set ?_ GE486.out) | exact HB.out)⟩⟩
              · rw [if_neg c27] at H
                have c27b0 : (t499 != t488) = false := by simpa using c27
                (try (have c27b1 : decide (t499 = t488) = true := by simpa using c27))
                (try (have c27b2 : (t499 == t488) = true := by simpa using c27))
                clear c27
                (first | rw [c27b0] | (simp only [i64_w, i32_w]; rw [c27b0]) | skip)
                by_cases c30 : (t488 != (t498 == 0)) = true
                · rw [if_pos c30] at H
                  have c30b0 : (t488 != (t498 == 0)) = true := c30
                  (try (have c30b1 : decide (t488 = (t498 == 0)) = false := by simpa using c30))
                  (try (have c30b2 : (t488 == (t498 == 0)) = false := by simpa using c30))
                  (try (have c30b3 : ¬ (t488 = (t498 == 0)) := by simpa using c30))
                  clear c30
                  have H' := Aside0.mk H
                  clear H
                  have hcz31_0 : w25.cell? ⟨gb486, 0, none⟩ = some (.int .i64 a1_0) := (blk_cell BK486.out 0).trans rfl
                  have hcz31_1 : w25.cell? ⟨gb486, 1, none⟩ = some (.slice A1_1 l1_1.length c1_1) := (blk_cell BK486.out 1).trans rfl
                  have hfz31_0 := blk_frozen BK486.out 0
                  have hfz31_1 := blk_frozen BK486.out 1
                  go_wp2_with (first | ((with_reducible refine gate_callee (f := 26) rfl ?_); refine goesL_ (some 57) rfl rfl Try.func26 (by kernel_rfl) rfl #[.int .i64 a0, .agg #[.int .i64 a1_0, .slice A1_1 l1_1.length c1_1]] rfl (by (try simp only [List.map_toArray, List.map_cons, List.map_nil]); first | done | rfl | (simp only [List.length_drop, List.length_take]; rfl)) ?_; (with_reducible refine (lsf_Good.calls kj7 a0 a1_0 _ _ l1_1 t499 _ ?side1 ?side2 A26.out).mono ?_); (case side1 => repeat (first | exact (Kd.C_below HR1_1.out HB.out) | (with_reducible refine Kd.C_alloc ?_ _) | (with_reducible refine Kd.C_drewN ?_ _) | (with_reducible refine Kd.C_drew ?_))); (case side2 => exact HC1_1.out); rintro e w32 ⟨rfl, hb⟩; refine ⟨_, rfl, ?_⟩; have n0_ := Aside0.mk (Kd.R_below (by (with_reducible repeat (first | apply Kd.R_alloc | apply Kd.R_drewN | apply Kd.R_drew)); exact HO494.out) hb); have n1_ := Aside0.mk (Kd.R_below (by (with_reducible repeat (first | apply Kd.R_alloc | apply Kd.R_drewN | apply Kd.R_drew)); exact HO497.out) hb); have n2_ := Aside0.mk (blk_below (g := gb486) (o := .cells #[.int .i64 a1_0, .slice A1_1 l1_1.length c1_1] 42 (0, 0)) (by (with_reducible repeat (first | refine blk_drewN ?_ _ | refine blk_drew ?_ | refine blk_alloc ?_ _)); exact BK486.out) hb); have n3_ := Aside0.mk (below_step (by repeat (first | (with_reducible first | exact HB.out | apply below_alloc | apply pw_below_drewN | apply below_drew1 | refine below_set ?_ GE486.out) | exact HB.out)) hb); clear HO494; clear HO497; clear BK486; clear HB; have HO494 := n0_; have HO497 := n1_; have BK486 := n2_; have HB := n3_; clear n0_ n1_ n2_ n3_; (try clear hb); (try clear hb2); (try clear hk); (try clear hi); (try clear hge)))
                  go_meet
                  case rel => exact ⟨_, (true), (by first | rfl | (simp; done) | (simp [*]; done)), H', ⟨by have := HJ7.out; first | omega | exact Nat.le_refl _⟩, ⟨by (with_reducible repeat (first | refine blk_drewN ?_ _ | refine blk_drew ?_ | refine blk_alloc ?_ _)); exact BK486.out⟩, ⟨by repeat (first | (with_reducible first | exact HB.out | apply below_alloc | apply pw_below_drewN | apply below_drew1 | refine below_set ?_ GE486.out) | exact HB.out)⟩⟩
                · rw [if_neg c30] at H
                  have c30b0 : (t488 != (t498 == 0)) = false := by simpa using c30
                  (try (have c30b1 : decide (t488 = (t498 == 0)) = true := by simpa using c30))
                  (try (have c30b2 : (t488 == (t498 == 0)) = true := by simpa using c30))
                  clear c30
                  by_cases c33 : t488 = true
                  · subst c33
                    have H1 : ((madrigalref6_Decode.f kj7 a0 a1_0 l1_1).bind fun t500 => ((madrigallaw6_same.f kj7 t495 t500).bind fun t503 => (madrigallaw6_LsfSays.j1 kj7 a0 l2 l3 a4 (!t503)))) = some r := by rw [if_pos rfl] at H; exact H
                    clear H
                    have H := H1
                    clear H1
                    replace H := Option.bind_eq_some_iff.mp H
                    obtain ⟨t500, A340, H⟩ := H
                    replace H : ((madrigallaw6_same.f kj7 t495 t500).bind fun t503 => (madrigallaw6_LsfSays.j1 kj7 a0 l2 l3 a4 (!t503))) = some r := H
                    have A34 := Aside0.mk A340
                    clear A340
                    replace H := Option.bind_eq_some_iff.mp H
                    obtain ⟨t503, A350, H⟩ := H
                    replace H : (madrigallaw6_LsfSays.j1 kj7 a0 l2 l3 a4 (!t503)) = some r := H
                    have A35 := Aside0.mk A350
                    clear A350
                    have H' := Aside0.mk H
                    clear H
                    have hcz36_0 : w25.cell? ⟨gb486, 0, none⟩ = some (.int .i64 a1_0) := (blk_cell BK486.out 0).trans rfl
                    have hcz36_1 : w25.cell? ⟨gb486, 1, none⟩ = some (.slice A1_1 l1_1.length c1_1) := (blk_cell BK486.out 1).trans rfl
                    have hfz36_0 := blk_frozen BK486.out 0
                    have hfz36_1 := blk_frozen BK486.out 1
                    go_wp2_with (first | ((with_reducible refine gate_callee (f := 26) rfl ?_); refine goesL_ (some 57) rfl rfl Try.func26 (by kernel_rfl) rfl #[.int .i64 a0, .agg #[.int .i64 a1_0, .slice A1_1 l1_1.length c1_1]] rfl (by (try simp only [List.map_toArray, List.map_cons, List.map_nil]); first | done | rfl | (simp only [List.length_drop, List.length_take]; rfl)) ?_; (with_reducible refine (lsf_Good.calls kj7 a0 a1_0 _ _ l1_1 t499 _ ?side1 ?side2 A26.out).mono ?_); (case side1 => repeat (first | exact (Kd.C_below HR1_1.out HB.out) | (with_reducible refine Kd.C_alloc ?_ _) | (with_reducible refine Kd.C_drewN ?_ _) | (with_reducible refine Kd.C_drew ?_))); (case side2 => exact HC1_1.out); rintro e w37 ⟨rfl, hb⟩; refine ⟨_, rfl, ?_⟩; have n0_ := Aside0.mk (Kd.R_below (by (with_reducible repeat (first | apply Kd.R_alloc | apply Kd.R_drewN | apply Kd.R_drew)); exact HO494.out) hb); have n1_ := Aside0.mk (Kd.R_below (by (with_reducible repeat (first | apply Kd.R_alloc | apply Kd.R_drewN | apply Kd.R_drew)); exact HO497.out) hb); have n2_ := Aside0.mk (blk_below (g := gb486) (o := .cells #[.int .i64 a1_0, .slice A1_1 l1_1.length c1_1] 42 (0, 0)) (by (with_reducible repeat (first | refine blk_drewN ?_ _ | refine blk_drew ?_ | refine blk_alloc ?_ _)); exact BK486.out) hb); have n3_ := Aside0.mk (below_step (by repeat (first | (with_reducible first | exact HB.out | apply below_alloc | apply pw_below_drewN | apply below_drew1 | refine below_set ?_ GE486.out) | exact HB.out)) hb); clear HO494; clear HO497; clear BK486; clear HB; have HO494 := n0_; have HO497 := n1_; have BK486 := n2_; have HB := n3_; clear n0_ n1_ n2_ n3_; (try clear hb); (try clear hb2); (try clear hk); (try clear hi); (try clear hge); have hcz38_0 : w37.cell? ⟨gb486, 0, none⟩ = some (.int .i64 a1_0) := (blk_cell BK486.out 0).trans rfl; have hcz38_1 : w37.cell? ⟨gb486, 1, none⟩ = some (.slice A1_1 l1_1.length c1_1) := (blk_cell BK486.out 1).trans rfl; have hfz38_0 := blk_frozen BK486.out 0; have hfz38_1 := blk_frozen BK486.out 1) | (go_at_call 30; (with_reducible refine (madrigalref6_Decode.calls kj7 a0 a1_0 _ _ l1_1 t500 _ ?side1 ?side2 A34.out).mono ?_); (case side1 => repeat (first | exact (Kd.C_below HR1_1.out HB.out) | (with_reducible refine Kd.C_alloc ?_ _) | (with_reducible refine Kd.C_drewN ?_ _) | (with_reducible refine Kd.C_drew ?_))); (case side2 => exact HC1_1.out); rintro e w39 ⟨v501, rfl, ho0, hb⟩; have n0_ := Aside0.mk (Kd.R_below (by (with_reducible repeat (first | apply Kd.R_alloc | apply Kd.R_drewN | apply Kd.R_drew)); exact HO494.out) hb); have n1_ := Aside0.mk (Kd.R_elder' (by (with_reducible repeat (first | apply Kd.R_alloc | apply Kd.R_drewN | apply Kd.R_drew)); exact HO497.out) (Kd.R_base ho0) hb); have n2_ := Aside0.mk (Kd.R_lower (Kd.R_new' ho0 (Kd.R_lt (by (with_reducible repeat (first | apply Kd.R_alloc | apply Kd.R_drewN | apply Kd.R_drew)); exact HO497.out))) (below_size (by repeat (first | (with_reducible first | exact HB.out | apply below_alloc | apply pw_below_drewN | apply below_drew1 | refine below_set ?_ GE486.out) | exact HB.out)))); have n3_ := Aside0.mk (blk_below (g := gb486) (o := .cells #[.int .i64 a1_0, .slice A1_1 l1_1.length c1_1] 42 (0, 0)) (by (with_reducible repeat (first | refine blk_drewN ?_ _ | refine blk_drew ?_ | refine blk_alloc ?_ _)); exact BK486.out) hb); have n4_ := Aside0.mk (below_step (by repeat (first | (with_reducible first | exact HB.out | apply below_alloc | apply pw_below_drewN | apply below_drew1 | refine below_set ?_ GE486.out) | exact HB.out)) hb); clear HO494; clear HO497; clear BK486; clear HB; have HO494 := n0_; have HO497 := n1_; have HO502 := n2_; have BK486 := n3_; have HB := n4_; clear n0_ n1_ n2_ n3_ n4_; (try clear hb); (try clear hb2); (try clear hk); (try clear hi); (try clear hge); (try clear ho0); obtain ⟨Ao40, co40, eo40⟩ := Kd.R_slice HO497.out; subst eo40; obtain ⟨Ao41, co41, eo41⟩ := Kd.R_slice HO502.out; subst eo41) | (go_at_call 29; (with_reducible refine (madrigallaw6_same.calls kj7 _ _ t495 _ _ t500 t503 _ ?side1 ?side2 ?side3 ?side4 A35.out).mono ?_); (case side1 => repeat (first | exact (Kd.R_reads' HO497.out).2.2 | (with_reducible refine Kd.C_alloc ?_ _) | (with_reducible refine Kd.C_drewN ?_ _) | (with_reducible refine Kd.C_drew ?_))); (case side2 => exact (Kd.R_reads' HO497.out).2.1); (case side3 => repeat (first | exact (Kd.R_reads' HO502.out).2.2 | (with_reducible refine Kd.C_alloc ?_ _) | (with_reducible refine Kd.C_drewN ?_ _) | (with_reducible refine Kd.C_drew ?_))); (case side4 => exact (Kd.R_reads' HO502.out).2.1); rintro e w' ⟨rfl, ⟨nd, rfl⟩⟩))
                    go_meet
                    case rel => exact ⟨_, (!t503), (by first | rfl | (simp; done) | (simp [*]; done)), H', ⟨by have := HJ7.out; first | omega | exact Nat.le_refl _⟩, ⟨by (with_reducible repeat (first | refine blk_drewN ?_ _ | refine blk_drew ?_ | refine blk_alloc ?_ _)); exact BK486.out⟩, ⟨by repeat (first | (with_reducible first | exact HB.out | apply below_alloc | apply pw_below_drewN | apply below_drew1 | refine below_set ?_ GE486.out) | exact HB.out)⟩⟩
                  · replace c33 := Bool.eq_false_iff.mpr c33
                    subst c33
                    have H1 : (if t498 = 1 then (if (t495.length : Int) = 0 then (madrigallaw6_LsfSays.j1 kj7 a0 l2 l3 a4 false) else (madrigallaw6_LsfSays.j1 kj7 a0 l2 l3 a4 true)) else (madrigallaw6_LsfSays.j1 kj7 a0 l2 l3 a4 true)) = some r := by rw [if_neg (show ¬ (false = true) by decide)] at H; exact H
                    clear H
                    have H := H1
                    clear H1
                    by_cases c42 : t498 = 1
                    · rw [if_pos c42] at H
                      have c42b0 : (t498 == 1) = true := beq_iff_eq.mpr c42
                      have c42b1 : (t498 != 1) = false := bne_eq_false_iff_eq.mpr c42
                      clear c42
                      by_cases c43 : (t495.length : Int) = 0
                      · rw [if_pos c43] at H
                        have c43b0 : ((t495.length : Int) == 0) = true := beq_iff_eq.mpr c43
                        have c43b1 : ((t495.length : Int) != 0) = false := bne_eq_false_iff_eq.mpr c43
                        clear c43
                        have H' := Aside0.mk H
                        clear H
                        have hcz44_0 : w25.cell? ⟨gb486, 0, none⟩ = some (.int .i64 a1_0) := (blk_cell BK486.out 0).trans rfl
                        have hcz44_1 : w25.cell? ⟨gb486, 1, none⟩ = some (.slice A1_1 l1_1.length c1_1) := (blk_cell BK486.out 1).trans rfl
                        have hfz44_0 := blk_frozen BK486.out 0
                        have hfz44_1 := blk_frozen BK486.out 1
                        go_wp2_with (first | ((with_reducible refine gate_callee (f := 26) rfl ?_); refine goesL_ (some 57) rfl rfl Try.func26 (by kernel_rfl) rfl #[.int .i64 a0, .agg #[.int .i64 a1_0, .slice A1_1 l1_1.length c1_1]] rfl (by (try simp only [List.map_toArray, List.map_cons, List.map_nil]); first | done | rfl | (simp only [List.length_drop, List.length_take]; rfl)) ?_; (with_reducible refine (lsf_Good.calls kj7 a0 a1_0 _ _ l1_1 t499 _ ?side1 ?side2 A26.out).mono ?_); (case side1 => repeat (first | exact (Kd.C_below HR1_1.out HB.out) | (with_reducible refine Kd.C_alloc ?_ _) | (with_reducible refine Kd.C_drewN ?_ _) | (with_reducible refine Kd.C_drew ?_))); (case side2 => exact HC1_1.out); rintro e w45 ⟨rfl, hb⟩; refine ⟨_, rfl, ?_⟩; have n0_ := Aside0.mk (Kd.R_below (by (with_reducible repeat (first | apply Kd.R_alloc | apply Kd.R_drewN | apply Kd.R_drew)); exact HO494.out) hb); have n1_ := Aside0.mk (Kd.R_below (by (with_reducible repeat (first | apply Kd.R_alloc | apply Kd.R_drewN | apply Kd.R_drew)); exact HO497.out) hb); have n2_ := Aside0.mk (blk_below (g := gb486) (o := .cells #[.int .i64 a1_0, .slice A1_1 l1_1.length c1_1] 42 (0, 0)) (by (with_reducible repeat (first | refine blk_drewN ?_ _ | refine blk_drew ?_ | refine blk_alloc ?_ _)); exact BK486.out) hb); have n3_ := Aside0.mk (below_step (by repeat (first | (with_reducible first | exact HB.out | apply below_alloc | apply pw_below_drewN | apply below_drew1 | refine below_set ?_ GE486.out) | exact HB.out)) hb); clear HO494; clear HO497; clear BK486; clear HB; have HO494 := n0_; have HO497 := n1_; have BK486 := n2_; have HB := n3_; clear n0_ n1_ n2_ n3_; (try clear hb); (try clear hb2); (try clear hk); (try clear hi); (try clear hge); obtain ⟨Ao46, co46, eo46⟩ := Kd.R_slice HO497.out; subst eo46))
                        go_meet
                        case rel => exact ⟨_, (false), (by first | rfl | (simp; done) | (simp [*]; done)), H', ⟨by have := HJ7.out; first | omega | exact Nat.le_refl _⟩, ⟨by (with_reducible repeat (first | refine blk_drewN ?_ _ | refine blk_drew ?_ | refine blk_alloc ?_ _)); exact BK486.out⟩, ⟨by repeat (first | (with_reducible first | exact HB.out | apply below_alloc | apply pw_below_drewN | apply below_drew1 | refine below_set ?_ GE486.out) | exact HB.out)⟩⟩
                      · rw [if_neg c43] at H
                        have c43b0 : ((t495.length : Int) == 0) = false := beq_eq_false_iff_ne.mpr c43
                        have c43b1 : ((t495.length : Int) != 0) = true := bne_iff_ne.mpr c43
                        have c43b2 : ¬ (t495 = []) := fun h_ => c43 (by rw [h_]; rfl)
                        have H' := Aside0.mk H
                        clear H
                        have hcz47_0 : w25.cell? ⟨gb486, 0, none⟩ = some (.int .i64 a1_0) := (blk_cell BK486.out 0).trans rfl
                        have hcz47_1 : w25.cell? ⟨gb486, 1, none⟩ = some (.slice A1_1 l1_1.length c1_1) := (blk_cell BK486.out 1).trans rfl
                        have hfz47_0 := blk_frozen BK486.out 0
                        have hfz47_1 := blk_frozen BK486.out 1
                        go_wp2_with (first | ((with_reducible refine gate_callee (f := 26) rfl ?_); refine goesL_ (some 57) rfl rfl Try.func26 (by kernel_rfl) rfl #[.int .i64 a0, .agg #[.int .i64 a1_0, .slice A1_1 l1_1.length c1_1]] rfl (by (try simp only [List.map_toArray, List.map_cons, List.map_nil]); first | done | rfl | (simp only [List.length_drop, List.length_take]; rfl)) ?_; (with_reducible refine (lsf_Good.calls kj7 a0 a1_0 _ _ l1_1 t499 _ ?side1 ?side2 A26.out).mono ?_); (case side1 => repeat (first | exact (Kd.C_below HR1_1.out HB.out) | (with_reducible refine Kd.C_alloc ?_ _) | (with_reducible refine Kd.C_drewN ?_ _) | (with_reducible refine Kd.C_drew ?_))); (case side2 => exact HC1_1.out); rintro e w48 ⟨rfl, hb⟩; refine ⟨_, rfl, ?_⟩; have n0_ := Aside0.mk (Kd.R_below (by (with_reducible repeat (first | apply Kd.R_alloc | apply Kd.R_drewN | apply Kd.R_drew)); exact HO494.out) hb); have n1_ := Aside0.mk (Kd.R_below (by (with_reducible repeat (first | apply Kd.R_alloc | apply Kd.R_drewN | apply Kd.R_drew)); exact HO497.out) hb); have n2_ := Aside0.mk (blk_below (g := gb486) (o := .cells #[.int .i64 a1_0, .slice A1_1 l1_1.length c1_1] 42 (0, 0)) (by (with_reducible repeat (first | refine blk_drewN ?_ _ | refine blk_drew ?_ | refine blk_alloc ?_ _)); exact BK486.out) hb); have n3_ := Aside0.mk (below_step (by repeat (first | (with_reducible first | exact HB.out | apply below_alloc | apply pw_below_drewN | apply below_drew1 | refine below_set ?_ GE486.out) | exact HB.out)) hb); clear HO494; clear HO497; clear BK486; clear HB; have HO494 := n0_; have HO497 := n1_; have BK486 := n2_; have HB := n3_; clear n0_ n1_ n2_ n3_; (try clear hb); (try clear hb2); (try clear hk); (try clear hi); (try clear hge); obtain ⟨Ao49, co49, eo49⟩ := Kd.R_slice HO497.out; subst eo49))
                        go_meet
                        case rel => exact ⟨_, (true), (by first | rfl | (simp; done) | (simp [*]; done)), H', ⟨by have := HJ7.out; first | omega | exact Nat.le_refl _⟩, ⟨by (with_reducible repeat (first | refine blk_drewN ?_ _ | refine blk_drew ?_ | refine blk_alloc ?_ _)); exact BK486.out⟩, ⟨by repeat (first | (with_reducible first | exact HB.out | apply below_alloc | apply pw_below_drewN | apply below_drew1 | refine below_set ?_ GE486.out) | exact HB.out)⟩⟩
                    · rw [if_neg c42] at H
                      have c42b0 : (t498 == 1) = false := beq_eq_false_iff_ne.mpr c42
                      have c42b1 : (t498 != 1) = true := bne_iff_ne.mpr c42
                      have H' := Aside0.mk H
                      clear H
                      have hcz50_0 : w25.cell? ⟨gb486, 0, none⟩ = some (.int .i64 a1_0) := (blk_cell BK486.out 0).trans rfl
                      have hcz50_1 : w25.cell? ⟨gb486, 1, none⟩ = some (.slice A1_1 l1_1.length c1_1) := (blk_cell BK486.out 1).trans rfl
                      have hfz50_0 := blk_frozen BK486.out 0
                      have hfz50_1 := blk_frozen BK486.out 1
                      go_wp2_with (first | ((with_reducible refine gate_callee (f := 26) rfl ?_); refine goesL_ (some 57) rfl rfl Try.func26 (by kernel_rfl) rfl #[.int .i64 a0, .agg #[.int .i64 a1_0, .slice A1_1 l1_1.length c1_1]] rfl (by (try simp only [List.map_toArray, List.map_cons, List.map_nil]); first | done | rfl | (simp only [List.length_drop, List.length_take]; rfl)) ?_; (with_reducible refine (lsf_Good.calls kj7 a0 a1_0 _ _ l1_1 t499 _ ?side1 ?side2 A26.out).mono ?_); (case side1 => repeat (first | exact (Kd.C_below HR1_1.out HB.out) | (with_reducible refine Kd.C_alloc ?_ _) | (with_reducible refine Kd.C_drewN ?_ _) | (with_reducible refine Kd.C_drew ?_))); (case side2 => exact HC1_1.out); rintro e w51 ⟨rfl, hb⟩; refine ⟨_, rfl, ?_⟩; have n0_ := Aside0.mk (Kd.R_below (by (with_reducible repeat (first | apply Kd.R_alloc | apply Kd.R_drewN | apply Kd.R_drew)); exact HO494.out) hb); have n1_ := Aside0.mk (Kd.R_below (by (with_reducible repeat (first | apply Kd.R_alloc | apply Kd.R_drewN | apply Kd.R_drew)); exact HO497.out) hb); have n2_ := Aside0.mk (blk_below (g := gb486) (o := .cells #[.int .i64 a1_0, .slice A1_1 l1_1.length c1_1] 42 (0, 0)) (by (with_reducible repeat (first | refine blk_drewN ?_ _ | refine blk_drew ?_ | refine blk_alloc ?_ _)); exact BK486.out) hb); have n3_ := Aside0.mk (below_step (by repeat (first | (with_reducible first | exact HB.out | apply below_alloc | apply pw_below_drewN | apply below_drew1 | refine below_set ?_ GE486.out) | exact HB.out)) hb); clear HO494; clear HO497; clear BK486; clear HB; have HO494 := n0_; have HO497 := n1_; have BK486 := n2_; have HB := n3_; clear n0_ n1_ n2_ n3_; (try clear hb); (try clear hb2); (try clear hk); (try clear hi); (try clear hge)))
                      go_meet
                      case rel => exact ⟨_, (true), (by first | rfl | (simp; done) | (simp [*]; done)), H', ⟨by have := HJ7.out; first | omega | exact Nat.le_refl _⟩, ⟨by (with_reducible repeat (first | refine blk_drewN ?_ _ | refine blk_drew ?_ | refine blk_alloc ?_ _)); exact BK486.out⟩, ⟨by repeat (first | (with_reducible first | exact HB.out | apply below_alloc | apply pw_below_drewN | apply below_drew1 | refine below_set ?_ GE486.out) | exact HB.out)⟩⟩
            case rest => as_aux_lemma =>
              clear HC18
              try clear c1
              try clear c2
              try clear p2
              try clear c3
              try clear c4
              try clear c7
              try clear c8
              try clear c11
              try clear c11b0
              try clear c11b1
              try clear c12
              try clear c12b0
              try clear c12b1
              try clear c14
              try clear c16
              try clear c22
              try clear c23
              try clear c26
              try clear c27
              try clear c27b0
              try clear c27b1
              try clear c27b2
              try clear c28
              try clear c30
              try clear c30b0
              try clear c30b1
              try clear c30b2
              try clear c33
              try clear c42
              try clear c42b0
              try clear c42b1
              try clear c43
              try clear c43b0
              try clear c43b1
              try clear c43b2
              try clear hcz13_0
              try clear hcz13_1
              try clear hcz19_0
              try clear hcz19_1
              try clear hcz28_0
              try clear hcz28_1
              try clear hcz31_0
              try clear hcz31_1
              try clear hcz36_0
              try clear hcz36_1
              try clear hcz38_0
              try clear hcz38_1
              try clear hcz44_0
              try clear hcz44_1
              try clear hcz47_0
              try clear hcz47_1
              try clear hcz50_0
              try clear hcz50_1
              try clear hfz13_0
              try clear hfz13_1
              try clear hfz19_0
              try clear hfz19_1
              try clear hfz28_0
              try clear hfz28_1
              try clear hfz31_0
              try clear hfz31_1
              try clear hfz36_0
              try clear hfz36_1
              try clear hfz38_0
              try clear hfz38_1
              try clear hfz44_0
              try clear hfz44_1
              try clear hfz47_0
              try clear hfz47_1
              try clear hfz50_0
              try clear hfz50_1
              try clear p2
              obtain ⟨kq, x92_17, rfl, HA, HJ17, BK486, HB⟩ := hcut
              (try simp only [i64_w, i32_w])
              cases kq with
              | zero => exact absurd HA.out (by simp [madrigallaw6_LsfSays.j1])
              | succ kj17 =>
                have H := HA.out
                clear HA
                simp only [madrigallaw6_LsfSays.j1] at H
                by_cases c52 : x92_17 = true
                · subst c52
                  have H1 : (none) = some r := by rw [if_pos rfl] at H; exact H
                  clear H
                  have H := H1
                  clear H1
                  exact absurd H (by simp)
                · replace c52 := Bool.eq_false_iff.mpr c52
                  subst c52
                  have H1 : ((some (([] : List Int) : List Int)).bind fun y504 => (if y504.length + l2.length < 17592186044416 then ((lsf_Steady.f kj17 (y504 ++ l2)).bind fun t510 => ((madrigalref6_Steady.f kj17 l2).bind fun t513 => ((madrigallaw6_same.f kj17 t510 t513).bind fun t516 => (if t516 = true then ((lsf_Between.f kj17 l2 l3 a4).bind fun bt517 => (if (l2.length : Int) = (l3.length : Int) then (if (l2.length : Int) > 64 then (madrigallaw6_LsfSays.j2 kj17 a0 l2 l3 a4 bt517.1 bt517.2 true) else (if a4 < 0 then (madrigallaw6_LsfSays.j2 kj17 a0 l2 l3 a4 bt517.1 bt517.2 true) else (madrigallaw6_LsfSays.j2 kj17 a0 l2 l3 a4 bt517.1 bt517.2 (decide (a4 > 4))))) else (madrigallaw6_LsfSays.j2 kj17 a0 l2 l3 a4 bt517.1 bt517.2 true))) else (none))))) else (none))) = some r := by rw [if_neg (show ¬ (false = true) by decide)] at H; exact H
                  clear H
                  have H := H1
                  clear H1
                  obtain ⟨y504, hy504⟩ : ∃ y_ : List Int, y_ = (([] : List Int)) := ⟨_, rfl⟩
                  replace H : (if y504.length + l2.length < 17592186044416 then ((lsf_Steady.f kj17 (y504 ++ l2)).bind fun t510 => ((madrigalref6_Steady.f kj17 l2).bind fun t513 => ((madrigallaw6_same.f kj17 t510 t513).bind fun t516 => (if t516 = true then ((lsf_Between.f kj17 l2 l3 a4).bind fun bt517 => (if (l2.length : Int) = (l3.length : Int) then (if (l2.length : Int) > 64 then (madrigallaw6_LsfSays.j2 kj17 a0 l2 l3 a4 bt517.1 bt517.2 true) else (if a4 < 0 then (madrigallaw6_LsfSays.j2 kj17 a0 l2 l3 a4 bt517.1 bt517.2 true) else (madrigallaw6_LsfSays.j2 kj17 a0 l2 l3 a4 bt517.1 bt517.2 (decide (a4 > 4))))) else (madrigallaw6_LsfSays.j2 kj17 a0 l2 l3 a4 bt517.1 bt517.2 true))) else (none))))) else (none)) = some r := by first | (rw [hy504]; with_reducible exact H) | (have H2_ := (Option.bind_some _ _).symm.trans H; rw [hy504]; with_reducible exact H2_) | (have H2_ := (Option.bind_some _ _).symm.trans H; with_reducible exact H2_) | with_reducible exact H | (rw [hy504]; exact H) | exact H
                  have Ny504 := Aside0.mk hy504
                  clear hy504
                  by_cases c53 : y504.length + l2.length < 17592186044416
                  · rw [if_pos c53] at H
                    have LMc53 := Aside0.mk c53
                    clear c53
                    obtain ⟨y507, hy507⟩ : ∃ y_ : List Int, y_ = (y504 ++ l2) := ⟨_, rfl⟩
                    replace H : ((lsf_Steady.f kj17 y507).bind fun t510 => ((madrigalref6_Steady.f kj17 l2).bind fun t513 => ((madrigallaw6_same.f kj17 t510 t513).bind fun t516 => (if t516 = true then ((lsf_Between.f kj17 l2 l3 a4).bind fun bt517 => (if (l2.length : Int) = (l3.length : Int) then (if (l2.length : Int) > 64 then (madrigallaw6_LsfSays.j2 kj17 a0 l2 l3 a4 bt517.1 bt517.2 true) else (if a4 < 0 then (madrigallaw6_LsfSays.j2 kj17 a0 l2 l3 a4 bt517.1 bt517.2 true) else (madrigallaw6_LsfSays.j2 kj17 a0 l2 l3 a4 bt517.1 bt517.2 (decide (a4 > 4))))) else (madrigallaw6_LsfSays.j2 kj17 a0 l2 l3 a4 bt517.1 bt517.2 true))) else (none))))) = some r := by first | (rw [hy507]; with_reducible exact H) | (have H2_ := (Option.bind_some _ _).symm.trans H; rw [hy507]; with_reducible exact H2_) | (have H2_ := (Option.bind_some _ _).symm.trans H; with_reducible exact H2_) | with_reducible exact H | (rw [hy507]; exact H) | exact H
                    have Ny507 := Aside0.mk hy507
                    clear hy507
                    replace H := Option.bind_eq_some_iff.mp H
                    obtain ⟨t510, A540, H⟩ := H
                    replace H : ((madrigalref6_Steady.f kj17 l2).bind fun t513 => ((madrigallaw6_same.f kj17 t510 t513).bind fun t516 => (if t516 = true then ((lsf_Between.f kj17 l2 l3 a4).bind fun bt517 => (if (l2.length : Int) = (l3.length : Int) then (if (l2.length : Int) > 64 then (madrigallaw6_LsfSays.j2 kj17 a0 l2 l3 a4 bt517.1 bt517.2 true) else (if a4 < 0 then (madrigallaw6_LsfSays.j2 kj17 a0 l2 l3 a4 bt517.1 bt517.2 true) else (madrigallaw6_LsfSays.j2 kj17 a0 l2 l3 a4 bt517.1 bt517.2 (decide (a4 > 4))))) else (madrigallaw6_LsfSays.j2 kj17 a0 l2 l3 a4 bt517.1 bt517.2 true))) else (none)))) = some r := H
                    have A54 := Aside0.mk A540
                    clear A540
                    replace H := Option.bind_eq_some_iff.mp H
                    obtain ⟨t513, A550, H⟩ := H
                    replace H : ((madrigallaw6_same.f kj17 t510 t513).bind fun t516 => (if t516 = true then ((lsf_Between.f kj17 l2 l3 a4).bind fun bt517 => (if (l2.length : Int) = (l3.length : Int) then (if (l2.length : Int) > 64 then (madrigallaw6_LsfSays.j2 kj17 a0 l2 l3 a4 bt517.1 bt517.2 true) else (if a4 < 0 then (madrigallaw6_LsfSays.j2 kj17 a0 l2 l3 a4 bt517.1 bt517.2 true) else (madrigallaw6_LsfSays.j2 kj17 a0 l2 l3 a4 bt517.1 bt517.2 (decide (a4 > 4))))) else (madrigallaw6_LsfSays.j2 kj17 a0 l2 l3 a4 bt517.1 bt517.2 true))) else (none))) = some r := H
                    have A55 := Aside0.mk A550
                    clear A550
                    replace H := Option.bind_eq_some_iff.mp H
                    obtain ⟨t516, A560, H⟩ := H
                    replace H : (if t516 = true then ((lsf_Between.f kj17 l2 l3 a4).bind fun bt517 => (if (l2.length : Int) = (l3.length : Int) then (if (l2.length : Int) > 64 then (madrigallaw6_LsfSays.j2 kj17 a0 l2 l3 a4 bt517.1 bt517.2 true) else (if a4 < 0 then (madrigallaw6_LsfSays.j2 kj17 a0 l2 l3 a4 bt517.1 bt517.2 true) else (madrigallaw6_LsfSays.j2 kj17 a0 l2 l3 a4 bt517.1 bt517.2 (decide (a4 > 4))))) else (madrigallaw6_LsfSays.j2 kj17 a0 l2 l3 a4 bt517.1 bt517.2 true))) else (none)) = some r := H
                    have A56 := Aside0.mk A560
                    clear A560
                    by_cases c57 : t516 = true
                    · subst c57
                      have H1 : ((lsf_Between.f kj17 l2 l3 a4).bind fun bt517 => (if (l2.length : Int) = (l3.length : Int) then (if (l2.length : Int) > 64 then (madrigallaw6_LsfSays.j2 kj17 a0 l2 l3 a4 bt517.1 bt517.2 true) else (if a4 < 0 then (madrigallaw6_LsfSays.j2 kj17 a0 l2 l3 a4 bt517.1 bt517.2 true) else (madrigallaw6_LsfSays.j2 kj17 a0 l2 l3 a4 bt517.1 bt517.2 (decide (a4 > 4))))) else (madrigallaw6_LsfSays.j2 kj17 a0 l2 l3 a4 bt517.1 bt517.2 true))) = some r := by rw [if_pos rfl] at H; exact H
                      clear H
                      have H := H1
                      clear H1
                      replace H := Option.bind_eq_some_iff.mp H
                      obtain ⟨⟨t517, t518⟩, A580, H⟩ := H
                      replace H : (if (l2.length : Int) = (l3.length : Int) then (if (l2.length : Int) > 64 then (madrigallaw6_LsfSays.j2 kj17 a0 l2 l3 a4 t517 t518 true) else (if a4 < 0 then (madrigallaw6_LsfSays.j2 kj17 a0 l2 l3 a4 t517 t518 true) else (madrigallaw6_LsfSays.j2 kj17 a0 l2 l3 a4 t517 t518 (decide (a4 > 4))))) else (madrigallaw6_LsfSays.j2 kj17 a0 l2 l3 a4 t517 t518 true)) = some r := H
                      have A58 := Aside0.mk A580
                      clear A580
                      have HC59 := Aside0.mk H
                      clear H
                      go_upto_region 12 with (first | ((with_reducible refine gate_dst (N := 93) rfl ?_); (try (refine gate_guard (by rfl) ?_; dsimp only)); refine Kd.R_lit (Kd.int .i64) _ 2 ?hg (N := 93) ?hd (xs := ([] : List Int)) (inner := []) (ok := fun _ => True) (okp := fun _ => True) ?hr ?hp (fun _ hk => hk) trivial (Below.refl _ _) (Nat.le_refl _) (by simp) ?_; (case hd => rfl); (case hg => rfl); (case hr => first | (go_simp; done) | (go_simp; rfl)); (case hp => exact (Reps.none _ _)); intro v505 w60 ho61 hb hg_ hnew_; clear hg_ hnew_; (first | rw [← Ny504.out] at ho61 | (simp only [Int.reduceToNat] at ho61; rw [← Ny504.out] at ho61)); have n0_ := Aside0.mk (Kd.R_lower ho61 (below_size (by repeat (first | (with_reducible first | exact HB.out | apply below_alloc | apply pw_below_drewN | apply below_drew1 | refine below_set ?_ GE486.out) | exact HB.out)))); have n1_ := Aside0.mk (blk_below (g := gb486) (o := .cells #[.int .i64 a1_0, .slice A1_1 l1_1.length c1_1] 42 (0, 0)) (by (with_reducible repeat (first | refine blk_drewN ?_ _ | refine blk_drew ?_ | refine blk_alloc ?_ _)); exact BK486.out) hb); have n2_ := Aside0.mk (below_step (by repeat (first | (with_reducible first | exact HB.out | apply below_alloc | apply pw_below_drewN | apply below_drew1 | refine below_set ?_ GE486.out) | exact HB.out)) hb); clear BK486; clear HB; have HO506 := n0_; have BK486 := n1_; have HB := n2_; clear n0_ n1_ n2_; clear hb ho61) | ((with_reducible refine gate_builtin (b := .append) (xs := #[.tmp 93, .tmp 94]) rfl ?_); (try (refine gate_guard (by rfl) ?_; dsimp only)); at_builtin; refine Kd.R_append_rows (Kd.int .i64) (w0 := w) w.heap.size rfl (.tmp 93) (.tmp 94) 28 2 (.int .i64 0) 8 rfl Try.underlying28 info2 rfl (by decide) (by omega) v505 y504 l2 _ _ _ (fun _ => True) (fun _ => False) rfl rfl ?aO ?aR (fun _ _ h => h) (fun _ h => h.elim) ?aF ?aB ?aS ?aL ?_; (case aR => repeat (first | exact (Kd.C_below HR2.out HB.out) | (with_reducible refine Kd.C_alloc ?_ _) | (with_reducible refine Kd.C_drewN ?_ _) | (with_reducible refine Kd.C_drew ?_))); (case aB => exact (by repeat (first | (with_reducible first | exact HB.out | apply below_alloc | apply pw_below_drewN | apply below_drew1 | refine below_set ?_ GE486.out) | exact HB.out))); (case aF => exact (fun _ _ => trivial)); (case aO => exact (by (with_reducible repeat (first | apply Kd.R_alloc | apply Kd.R_drewN | apply Kd.R_drew)); exact HO506.out)); (case aS => exact (below_size (by repeat (first | (with_reducible first | exact HB.out | apply below_alloc | apply pw_below_drewN | apply below_drew1 | refine below_set ?_ GE486.out) | exact HB.out)))); (case aL => have := LMc53.out; omega); intro v508 w62 ho hb hg hat; rw [← Ny507.out] at ho; have n0_ := Aside0.mk (blk_grown (g := gb486) (o := .cells #[.int .i64 a1_0, .slice A1_1 l1_1.length c1_1] 42 (0, 0)) (by (with_reducible repeat (first | refine blk_drewN ?_ _ | refine blk_drew ?_ | refine blk_alloc ?_ _)); exact BK486.out) hg (Kd.R_ne HO506.out BK486.out (by decide))); have n1_ := Aside0.mk (hb); have n2_ := Aside0.mk (ho); clear BK486; clear HB; clear HO506; have BK486 := n0_; have HB := n1_; have HO509 := n2_; clear n0_ n1_ n2_; clear ho hb hg hat; obtain ⟨Ao63, co63, eo63⟩ := Kd.R_slice HO509.out; subst eo63) | ((with_reducible refine gate_callee (f := 27) rfl ?_); refine goesL_ (some 96) rfl rfl Try.func27 (by kernel_rfl) rfl #[.slice Ao63 y507.length co63] rfl (by (try simp only [List.map_toArray, List.map_cons, List.map_nil]); first | done | rfl | (simp only [List.length_drop, List.length_take]; rfl)) ?_; (with_reducible refine (lsf_Steady.calls kj17 _ _ y507 t510 _ ?side1 ?side2 A54.out).mono ?_); (case side1 => repeat (first | exact (Kd.R_reads' HO509.out).2.2 | (with_reducible refine Kd.C_alloc ?_ _) | (with_reducible refine Kd.C_drewN ?_ _) | (with_reducible refine Kd.C_drew ?_))); (case side2 => exact (Kd.R_reads' HO509.out).2.1); rintro e w64 ⟨v511, rfl, ho0, hb⟩; refine ⟨_, rfl, ?_⟩; have n0_ := Aside0.mk (Kd.R_elder' (by (with_reducible repeat (first | apply Kd.R_alloc | apply Kd.R_drewN | apply Kd.R_drew)); exact HO509.out) (Kd.R_base ho0) hb); have n1_ := Aside0.mk (Kd.R_lower (Kd.R_new' ho0 (Kd.R_lt (by (with_reducible repeat (first | apply Kd.R_alloc | apply Kd.R_drewN | apply Kd.R_drew)); exact HO509.out))) (below_size (by repeat (first | (with_reducible first | exact HB.out | apply below_alloc | apply pw_below_drewN | apply below_drew1 | refine below_set ?_ GE486.out) | exact HB.out)))); have n2_ := Aside0.mk (blk_below (g := gb486) (o := .cells #[.int .i64 a1_0, .slice A1_1 l1_1.length c1_1] 42 (0, 0)) (by (with_reducible repeat (first | refine blk_drewN ?_ _ | refine blk_drew ?_ | refine blk_alloc ?_ _)); exact BK486.out) hb); have n3_ := Aside0.mk (below_step (by repeat (first | (with_reducible first | exact HB.out | apply below_alloc | apply pw_below_drewN | apply below_drew1 | refine below_set ?_ GE486.out) | exact HB.out)) hb); clear HO509; clear BK486; clear HB; have HO509 := n0_; have HO512 := n1_; have BK486 := n2_; have HB := n3_; clear n0_ n1_ n2_ n3_; (try clear hb); (try clear hb2); (try clear hk); (try clear hi); (try clear hge); (try clear ho0)) | ((with_reducible refine gate_callee (f := 31) rfl ?_); refine goesL_ (some 98) rfl rfl Try.func31 (by kernel_rfl) rfl #[.slice A2 l2.length c2] rfl (by (try simp only [List.map_toArray, List.map_cons, List.map_nil]); first | done | rfl | (simp only [List.length_drop, List.length_take]; rfl)) ?_; (with_reducible refine (madrigalref6_Steady.calls kj17 _ _ l2 t513 _ ?side1 ?side2 A55.out).mono ?_); (case side1 => repeat (first | exact (Kd.C_below HR2.out HB.out) | (with_reducible refine Kd.C_alloc ?_ _) | (with_reducible refine Kd.C_drewN ?_ _) | (with_reducible refine Kd.C_drew ?_))); (case side2 => exact HC2.out); rintro e w65 ⟨v514, rfl, ho0, hb⟩; refine ⟨_, rfl, ?_⟩; have n0_ := Aside0.mk (Kd.R_elder' (by (with_reducible repeat (first | apply Kd.R_alloc | apply Kd.R_drewN | apply Kd.R_drew)); exact HO509.out) (Kd.R_base ho0) hb); have n1_ := Aside0.mk (Kd.R_elder' (by (with_reducible repeat (first | apply Kd.R_alloc | apply Kd.R_drewN | apply Kd.R_drew)); exact HO512.out) (Kd.R_base ho0) hb); have n2_ := Aside0.mk (Kd.R_lower (Kd.R_new' (Kd.R_new' ho0 (Kd.R_lt (by (with_reducible repeat (first | apply Kd.R_alloc | apply Kd.R_drewN | apply Kd.R_drew)); exact HO509.out))) (Kd.R_lt (by (with_reducible repeat (first | apply Kd.R_alloc | apply Kd.R_drewN | apply Kd.R_drew)); exact HO512.out))) (below_size (by repeat (first | (with_reducible first | exact HB.out | apply below_alloc | apply pw_below_drewN | apply below_drew1 | refine below_set ?_ GE486.out) | exact HB.out)))); have n3_ := Aside0.mk (blk_below (g := gb486) (o := .cells #[.int .i64 a1_0, .slice A1_1 l1_1.length c1_1] 42 (0, 0)) (by (with_reducible repeat (first | refine blk_drewN ?_ _ | refine blk_drew ?_ | refine blk_alloc ?_ _)); exact BK486.out) hb); have n4_ := Aside0.mk (below_step (by repeat (first | (with_reducible first | exact HB.out | apply below_alloc | apply pw_below_drewN | apply below_drew1 | refine below_set ?_ GE486.out) | exact HB.out)) hb); clear HO509; clear HO512; clear BK486; clear HB; have HO509 := n0_; have HO512 := n1_; have HO515 := n2_; have BK486 := n3_; have HB := n4_; clear n0_ n1_ n2_ n3_ n4_; (try clear hb); (try clear hb2); (try clear hk); (try clear hi); (try clear hge); (try clear ho0); obtain ⟨Ao66, co66, eo66⟩ := Kd.R_slice HO512.out; subst eo66; obtain ⟨Ao67, co67, eo67⟩ := Kd.R_slice HO515.out; subst eo67) | ((with_reducible refine gate_callee (f := 29) rfl ?_); refine goesL_ (some 99) rfl rfl Try.func29 (by kernel_rfl) rfl #[.slice Ao66 t510.length co66, .slice Ao67 t513.length co67] rfl (by (try simp only [List.map_toArray, List.map_cons, List.map_nil]); first | done | rfl | (simp only [List.length_drop, List.length_take]; rfl)) ?_; (with_reducible refine (madrigallaw6_same.calls kj17 _ _ t510 _ _ t513 true _ ?side1 ?side2 ?side3 ?side4 A56.out).mono ?_); (case side1 => repeat (first | exact (Kd.R_reads' HO512.out).2.2 | (with_reducible refine Kd.C_alloc ?_ _) | (with_reducible refine Kd.C_drewN ?_ _) | (with_reducible refine Kd.C_drew ?_))); (case side2 => exact (Kd.R_reads' HO512.out).2.1); (case side3 => repeat (first | exact (Kd.R_reads' HO515.out).2.2 | (with_reducible refine Kd.C_alloc ?_ _) | (with_reducible refine Kd.C_drewN ?_ _) | (with_reducible refine Kd.C_drew ?_))); (case side4 => exact (Kd.R_reads' HO515.out).2.1); rintro e w' ⟨rfl, ⟨nd, rfl⟩⟩; refine ⟨_, rfl, ?_⟩) | ((with_reducible refine gate_callee (f := 24) rfl ?_); refine goesL_ (some 105) rfl rfl Try.func24 (by kernel_rfl) rfl #[.slice A2 l2.length c2, .slice A3 l3.length c3, .int .i64 a4] rfl (by (try simp only [List.map_toArray, List.map_cons, List.map_nil]); first | done | rfl | (simp only [List.length_drop, List.length_take]; rfl)) ?_; (with_reducible refine (lsf_Between.calls kj17 _ _ l2 _ _ l3 a4 t517 t518 _ ?side1 ?side2 ?side3 ?side4 A58.out).mono ?_); (case side1 => repeat (first | exact (Kd.C_below HR2.out (by repeat (first | (with_reducible first | exact HB.out | apply below_alloc | apply pw_below_drewN | apply below_drew1 | refine below_set ?_ GE486.out) | exact HB.out))) | (with_reducible refine Kd.C_alloc ?_ _) | (with_reducible refine Kd.C_drewN ?_ _) | (with_reducible refine Kd.C_drew ?_))); (case side2 => exact HC2.out); (case side3 => repeat (first | exact (Kd.C_below HR3.out (by repeat (first | (with_reducible first | exact HB.out | apply below_alloc | apply pw_below_drewN | apply below_drew1 | refine below_set ?_ GE486.out) | exact HB.out))) | (with_reducible refine Kd.C_alloc ?_ _) | (with_reducible refine Kd.C_drewN ?_ _) | (with_reducible refine Kd.C_drew ?_))); (case side4 => exact HC3.out); rintro e w68 ⟨v519, rfl, ho0, hb⟩; refine ⟨_, rfl, ?_⟩; have n0_ := Aside0.mk (Kd.R_elder' (by (with_reducible repeat (first | apply Kd.R_alloc | apply Kd.R_drewN | apply Kd.R_drew)); exact HO509.out) (Kd.R_base ho0) hb); have n1_ := Aside0.mk (Kd.R_elder' (by (with_reducible repeat (first | apply Kd.R_alloc | apply Kd.R_drewN | apply Kd.R_drew)); exact HO512.out) (Kd.R_base ho0) hb); have n2_ := Aside0.mk (Kd.R_elder' (by (with_reducible repeat (first | apply Kd.R_alloc | apply Kd.R_drewN | apply Kd.R_drew)); exact HO515.out) (Kd.R_base ho0) hb); have n3_ := Aside0.mk (Kd.R_lower (Kd.R_new' (Kd.R_new' (Kd.R_new' ho0 (Kd.R_lt (by (with_reducible repeat (first | apply Kd.R_alloc | apply Kd.R_drewN | apply Kd.R_drew)); exact HO509.out))) (Kd.R_lt (by (with_reducible repeat (first | apply Kd.R_alloc | apply Kd.R_drewN | apply Kd.R_drew)); exact HO512.out))) (Kd.R_lt (by (with_reducible repeat (first | apply Kd.R_alloc | apply Kd.R_drewN | apply Kd.R_drew)); exact HO515.out))) (below_size (by repeat (first | (with_reducible first | exact HB.out | apply below_alloc | apply pw_below_drewN | apply below_drew1 | refine below_set ?_ GE486.out) | exact HB.out)))); have n4_ := Aside0.mk (blk_below (g := gb486) (o := .cells #[.int .i64 a1_0, .slice A1_1 l1_1.length c1_1] 42 (0, 0)) (by (with_reducible repeat (first | refine blk_drewN ?_ _ | refine blk_drew ?_ | refine blk_alloc ?_ _)); exact BK486.out) hb); have n5_ := Aside0.mk (below_step (by repeat (first | (with_reducible first | exact HB.out | apply below_alloc | apply pw_below_drewN | apply below_drew1 | refine below_set ?_ GE486.out) | exact HB.out)) hb); clear HO509; clear HO512; clear HO515; clear BK486; clear HB; have HO509 := n0_; have HO512 := n1_; have HO515 := n2_; have HO520 := n3_; have BK486 := n4_; have HB := n5_; clear n0_ n1_ n2_ n3_ n4_ n5_; (try clear hb); (try clear hb2); (try clear hk); (try clear hi); (try clear hge); (try clear ho0)))
                      (try simp only [Act.put, List.setIfInBounds_toArray, List.set_cons_zero, List.set_cons_succ])
                      go_cut [125] (fun v125 wc => ∃ (kq : Nat) (x125_58 : Bool), v125 = .bool x125_58 ∧ Aside0 (madrigallaw6_LsfSays.j2 kq a0 l2 l3 a4 t517 t518 x125_58 = some r) ∧ Aside0 (kq ≤ kj17) ∧ Aside0 (Kd.R (Kd.int .i64) 2 wc w.heap.size (fun _ => True) v519 t517) ∧ Aside0 (wc.heap[gb486]? = some (.cells #[.int .i64 a1_0, (.slice A1_1 l1_1.length c1_1)] 42 (0, 0))) ∧ Aside0 (Below w.heap.size w wc))
                      case first =>
                        have H := HC59.out
                        clear HC59
                        by_cases c69 : (l2.length : Int) = (l3.length : Int)
                        · rw [if_pos c69] at H
                          have c69b0 : ((l2.length : Int) == (l3.length : Int)) = true := beq_iff_eq.mpr c69
                          have c69b1 : ((l2.length : Int) != (l3.length : Int)) = false := bne_eq_false_iff_eq.mpr c69
                          have c69b2 : (l2.length == l3.length) = true := by first | simpa using c69 | (simp at c69 ⊢; omega)
                          clear c69
                          (first | rw [c69b0] | (simp only [i64_w, i32_w]; rw [c69b0]) | skip)
                          by_cases c70 : (l2.length : Int) > 64
                          · rw [if_pos c70] at H
                            have c70b0 : decide (64 < (l2.length : Int)) = true := decide_eq_true c70
                            have c70b1 : decide (64 < l2.length) = true := decide_eq_true (by omega)
                            clear c70
                            have H' := Aside0.mk H
                            clear H
                            go_wp2
                            go_meet
                            case rel => exact ⟨_, (true), (by first | rfl | (simp; done) | (simp [*]; done)), H', ⟨by have := HJ7.out; have := HJ17.out; first | omega | exact Nat.le_refl _⟩, ⟨by (with_reducible repeat (first | apply Kd.R_alloc | apply Kd.R_drewN | apply Kd.R_drew)); exact Kd.R_mono HO520.out (fun _ hk => trivial)⟩, ⟨by (with_reducible repeat (first | refine blk_drewN ?_ _ | refine blk_drew ?_ | refine blk_alloc ?_ _)); exact BK486.out⟩, ⟨by repeat (first | (with_reducible first | exact HB.out | apply below_alloc | apply pw_below_drewN | apply below_drew1 | refine below_set ?_ GE486.out) | exact HB.out)⟩⟩
                          · rw [if_neg c70] at H
                            have c70b0 : decide (64 < (l2.length : Int)) = false := decide_eq_false c70
                            have c70b1 : decide (64 < l2.length) = false := decide_eq_false (by omega)
                            clear c70
                            by_cases c71 : a4 < 0
                            · rw [if_pos c71] at H
                              have c71b0 : decide (a4 < 0) = true := decide_eq_true c71
                              clear c71
                              have H' := Aside0.mk H
                              clear H
                              go_wp2
                              go_meet
                              case rel => exact ⟨_, (true), (by first | rfl | (simp; done) | (simp [*]; done)), H', ⟨by have := HJ7.out; have := HJ17.out; first | omega | exact Nat.le_refl _⟩, ⟨by (with_reducible repeat (first | apply Kd.R_alloc | apply Kd.R_drewN | apply Kd.R_drew)); exact Kd.R_mono HO520.out (fun _ hk => trivial)⟩, ⟨by (with_reducible repeat (first | refine blk_drewN ?_ _ | refine blk_drew ?_ | refine blk_alloc ?_ _)); exact BK486.out⟩, ⟨by repeat (first | (with_reducible first | exact HB.out | apply below_alloc | apply pw_below_drewN | apply below_drew1 | refine below_set ?_ GE486.out) | exact HB.out)⟩⟩
                            · rw [if_neg c71] at H
                              have c71b0 : decide (a4 < 0) = false := decide_eq_false c71
                              clear c71
                              have H' := Aside0.mk H
                              clear H
                              go_wp2
                              go_meet
                              case rel => exact ⟨_, (decide (a4 > 4)), (by first | rfl | (simp; done) | (simp [*]; done)), H', ⟨by have := HJ7.out; have := HJ17.out; first | omega | exact Nat.le_refl _⟩, ⟨by (with_reducible repeat (first | apply Kd.R_alloc | apply Kd.R_drewN | apply Kd.R_drew)); exact Kd.R_mono HO520.out (fun _ hk => trivial)⟩, ⟨by (with_reducible repeat (first | refine blk_drewN ?_ _ | refine blk_drew ?_ | refine blk_alloc ?_ _)); exact BK486.out⟩, ⟨by repeat (first | (with_reducible first | exact HB.out | apply below_alloc | apply pw_below_drewN | apply below_drew1 | refine below_set ?_ GE486.out) | exact HB.out)⟩⟩
                        · rw [if_neg c69] at H
                          have c69b0 : ((l2.length : Int) == (l3.length : Int)) = false := beq_eq_false_iff_ne.mpr c69
                          have c69b1 : ((l2.length : Int) != (l3.length : Int)) = true := bne_iff_ne.mpr c69
                          have c69b2 : (l2.length == l3.length) = false := by first | simpa using c69 | (simp at c69 ⊢; omega)
                          (first | rw [c69b0] | (simp only [i64_w, i32_w]; rw [c69b0]) | skip)
                          have H' := Aside0.mk H
                          clear H
                          go_wp2
                          go_meet
                          case rel => exact ⟨_, (true), (by first | rfl | (simp; done) | (simp [*]; done)), H', ⟨by have := HJ7.out; have := HJ17.out; first | omega | exact Nat.le_refl _⟩, ⟨by (with_reducible repeat (first | apply Kd.R_alloc | apply Kd.R_drewN | apply Kd.R_drew)); exact Kd.R_mono HO520.out (fun _ hk => trivial)⟩, ⟨by (with_reducible repeat (first | refine blk_drewN ?_ _ | refine blk_drew ?_ | refine blk_alloc ?_ _)); exact BK486.out⟩, ⟨by repeat (first | (with_reducible first | exact HB.out | apply below_alloc | apply pw_below_drewN | apply below_drew1 | refine below_set ?_ GE486.out) | exact HB.out)⟩⟩
                      case rest => as_aux_lemma =>
                        clear HC59
                        try clear c1
                        try clear c2
                        try clear p2
                        try clear c3
                        try clear c4
                        try clear c5
                        try clear c6
                        try clear c7
                        try clear c8
                        try clear c11
                        try clear c11b0
                        try clear c11b1
                        try clear c12
                        try clear c12b0
                        try clear c12b1
                        try clear c14
                        try clear c16
                        try clear c22
                        try clear c23
                        try clear c24
                        try clear c26
                        try clear c27
                        try clear c27b0
                        try clear c27b1
                        try clear c27b2
                        try clear c28
                        try clear c29
                        try clear c30
                        try clear c30b0
                        try clear c30b1
                        try clear c30b2
                        try clear c31
                        try clear c33
                        try clear c42
                        try clear c42b0
                        try clear c42b1
                        try clear c43
                        try clear c43b0
                        try clear c43b1
                        try clear c43b2
                        try clear c52
                        try clear c53
                        try clear c57
                        try clear c69
                        try clear c69b0
                        try clear c69b1
                        try clear c69b2
                        try clear c70
                        try clear c70b0
                        try clear c70b1
                        try clear c71
                        try clear c71b0
                        try clear hcz13_0
                        try clear hcz13_1
                        try clear hcz19_0
                        try clear hcz19_1
                        try clear hcz28_0
                        try clear hcz28_1
                        try clear hcz31_0
                        try clear hcz31_1
                        try clear hcz36_0
                        try clear hcz36_1
                        try clear hcz38_0
                        try clear hcz38_1
                        try clear hcz44_0
                        try clear hcz44_1
                        try clear hcz47_0
                        try clear hcz47_1
                        try clear hcz50_0
                        try clear hcz50_1
                        try clear hfz13_0
                        try clear hfz13_1
                        try clear hfz19_0
                        try clear hfz19_1
                        try clear hfz28_0
                        try clear hfz28_1
                        try clear hfz31_0
                        try clear hfz31_1
                        try clear hfz36_0
                        try clear hfz36_1
                        try clear hfz38_0
                        try clear hfz38_1
                        try clear hfz44_0
                        try clear hfz44_1
                        try clear hfz47_0
                        try clear hfz47_1
                        try clear hfz50_0
                        try clear hfz50_1
                        try clear p2
                        obtain ⟨kq, x125_58, rfl, HA, HJ58, HO_14, BK486, HB⟩ := hcut
                        (try simp only [i64_w, i32_w])
                        cases kq with
                        | zero => exact absurd HA.out (by simp [madrigallaw6_LsfSays.j2])
                        | succ kj58 =>
                          have H := HA.out
                          clear HA
                          simp only [madrigallaw6_LsfSays.j2] at H
                          have HC72 := Aside0.mk H
                          clear H
                          go_upto_if 125 with (fail)
                          go_cut [] (fun wc => ∃ (kq : Nat), Aside0 (madrigallaw6_LsfSays.j3 kq a0 l2 = some r) ∧ Aside0 (kq ≤ kj58) ∧ Aside0 (wc.heap[gb486]? = some (.cells #[.int .i64 a1_0, (.slice A1_1 l1_1.length c1_1)] 42 (0, 0))) ∧ Aside0 (Below w.heap.size w wc))
                          case first =>
                            have H := HC72.out
                            clear HC72
                            by_cases c73 : x125_58 = true
                            · subst c73
                              have H1 : (if t518 = 1 then (if (t517.length : Int) = 0 then (madrigallaw6_LsfSays.j3 kj58 a0 l2) else (none)) else (none)) = some r := by rw [if_pos rfl] at H; exact H
                              clear H
                              have H := H1
                              clear H1
                              by_cases c74 : t518 = 1
                              · rw [if_pos c74] at H
                                have c74b0 : (t518 == 1) = true := beq_iff_eq.mpr c74
                                have c74b1 : (t518 != 1) = false := bne_eq_false_iff_eq.mpr c74
                                clear c74
                                (first | rw [c74b0] | (simp only [i64_w, i32_w]; rw [c74b0]) | skip)
                                by_cases c75 : (t517.length : Int) = 0
                                · rw [if_pos c75] at H
                                  have c75b0 : ((t517.length : Int) == 0) = true := beq_iff_eq.mpr c75
                                  have c75b1 : ((t517.length : Int) != 0) = false := bne_eq_false_iff_eq.mpr c75
                                  clear c75
                                  have H' := Aside0.mk H
                                  clear H
                                  obtain ⟨Ao76, co76, eo76⟩ := Kd.R_slice HO_14.out
                                  subst eo76
                                  go_wp2
                                  go_meet
                                  case rel => exact ⟨_, H', ⟨by have := HJ7.out; have := HJ17.out; have := HJ58.out; first | omega | exact Nat.le_refl _⟩, ⟨by (with_reducible repeat (first | refine blk_drewN ?_ _ | refine blk_drew ?_ | refine blk_alloc ?_ _)); exact BK486.out⟩, ⟨by repeat (first | (with_reducible first | exact HB.out | apply below_alloc | apply pw_below_drewN | apply below_drew1 | refine below_set ?_ GE486.out) | exact HB.out)⟩⟩
                                · rw [if_neg c75] at H
                                  exact absurd H (by simp)
                              · rw [if_neg c74] at H
                                exact absurd H (by simp)
                            · replace c73 := Bool.eq_false_iff.mpr c73
                              subst c73
                              have H1 : (if t518 = 0 then ((madrigalref6_Between.f kj58 l2 l3 a4).bind fun t521 => ((madrigallaw6_same.f kj58 t517 t521).bind fun t524 => (if t524 = true then (madrigallaw6_LsfSays.j3 kj58 a0 l2) else (none)))) else (none)) = some r := by rw [if_neg (show ¬ (false = true) by decide)] at H; exact H
                              clear H
                              have H := H1
                              clear H1
                              by_cases c77 : t518 = 0
                              · rw [if_pos c77] at H
                                have c77b0 : (t518 == 0) = true := beq_iff_eq.mpr c77
                                have c77b1 : (t518 != 0) = false := bne_eq_false_iff_eq.mpr c77
                                clear c77
                                replace H := Option.bind_eq_some_iff.mp H
                                obtain ⟨t521, A780, H⟩ := H
                                replace H : ((madrigallaw6_same.f kj58 t517 t521).bind fun t524 => (if t524 = true then (madrigallaw6_LsfSays.j3 kj58 a0 l2) else (none))) = some r := H
                                have A78 := Aside0.mk A780
                                clear A780
                                replace H := Option.bind_eq_some_iff.mp H
                                obtain ⟨t524, A790, H⟩ := H
                                replace H : (if t524 = true then (madrigallaw6_LsfSays.j3 kj58 a0 l2) else (none)) = some r := H
                                have A79 := Aside0.mk A790
                                clear A790
                                by_cases c80 : t524 = true
                                · subst c80
                                  have H1 : (madrigallaw6_LsfSays.j3 kj58 a0 l2) = some r := by rw [if_pos rfl] at H; exact H
                                  clear H
                                  have H := H1
                                  clear H1
                                  have H' := Aside0.mk H
                                  clear H
                                  go_wp2_with (first | (go_at_call 32; (with_reducible refine (madrigalref6_Between.calls kj58 _ _ l2 _ _ l3 a4 t521 _ ?side1 ?side2 ?side3 ?side4 A78.out).mono ?_); (case side1 => repeat (first | exact (Kd.C_below HR2.out HB.out) | (with_reducible refine Kd.C_alloc ?_ _) | (with_reducible refine Kd.C_drewN ?_ _) | (with_reducible refine Kd.C_drew ?_))); (case side2 => exact HC2.out); (case side3 => repeat (first | exact (Kd.C_below HR3.out HB.out) | (with_reducible refine Kd.C_alloc ?_ _) | (with_reducible refine Kd.C_drewN ?_ _) | (with_reducible refine Kd.C_drew ?_))); (case side4 => exact HC3.out); rintro e w81 ⟨v522, rfl, ho0, hb⟩; have n0_ := Aside0.mk (Kd.R_elder' (by (with_reducible repeat (first | apply Kd.R_alloc | apply Kd.R_drewN | apply Kd.R_drew)); exact HO_14.out) (Kd.R_base ho0) hb); have n1_ := Aside0.mk (Kd.R_lower (Kd.R_new' ho0 (Kd.R_lt (by (with_reducible repeat (first | apply Kd.R_alloc | apply Kd.R_drewN | apply Kd.R_drew)); exact HO_14.out))) (below_size (by repeat (first | (with_reducible first | exact HB.out | apply below_alloc | apply pw_below_drewN | apply below_drew1 | refine below_set ?_ GE486.out) | exact HB.out)))); have n2_ := Aside0.mk (blk_below (g := gb486) (o := .cells #[.int .i64 a1_0, .slice A1_1 l1_1.length c1_1] 42 (0, 0)) (by (with_reducible repeat (first | refine blk_drewN ?_ _ | refine blk_drew ?_ | refine blk_alloc ?_ _)); exact BK486.out) hb); have n3_ := Aside0.mk (below_step (by repeat (first | (with_reducible first | exact HB.out | apply below_alloc | apply pw_below_drewN | apply below_drew1 | refine below_set ?_ GE486.out) | exact HB.out)) hb); clear HO_14; clear BK486; clear HB; have HO_14 := n0_; have HO523 := n1_; have BK486 := n2_; have HB := n3_; clear n0_ n1_ n2_ n3_; (try clear hb); (try clear hb2); (try clear hk); (try clear hi); (try clear hge); (try clear ho0); obtain ⟨Ao82, co82, eo82⟩ := Kd.R_slice HO_14.out; subst eo82; obtain ⟨Ao83, co83, eo83⟩ := Kd.R_slice HO523.out; subst eo83) | (go_at_call 29; (with_reducible refine (madrigallaw6_same.calls kj58 _ _ t517 _ _ t521 true _ ?side1 ?side2 ?side3 ?side4 A79.out).mono ?_); (case side1 => repeat (first | exact (Kd.R_reads' HO_14.out).2.2 | (with_reducible refine Kd.C_alloc ?_ _) | (with_reducible refine Kd.C_drewN ?_ _) | (with_reducible refine Kd.C_drew ?_))); (case side2 => exact (Kd.R_reads' HO_14.out).2.1); (case side3 => repeat (first | exact (Kd.R_reads' HO523.out).2.2 | (with_reducible refine Kd.C_alloc ?_ _) | (with_reducible refine Kd.C_drewN ?_ _) | (with_reducible refine Kd.C_drew ?_))); (case side4 => exact (Kd.R_reads' HO523.out).2.1); rintro e w' ⟨rfl, ⟨nd, rfl⟩⟩))
                                  go_meet
                                  case rel => exact ⟨_, H', ⟨by have := HJ7.out; have := HJ17.out; have := HJ58.out; first | omega | exact Nat.le_refl _⟩, ⟨by (with_reducible repeat (first | refine blk_drewN ?_ _ | refine blk_drew ?_ | refine blk_alloc ?_ _)); exact BK486.out⟩, ⟨by repeat (first | (with_reducible first | exact HB.out | apply below_alloc | apply pw_below_drewN | apply below_drew1 | refine below_set ?_ GE486.out) | exact HB.out)⟩⟩
                                · replace c80 := Bool.eq_false_iff.mpr c80
                                  subst c80
                                  have H1 : (none) = some r := by rw [if_neg (show ¬ (false = true) by decide)] at H; exact H
                                  clear H
                                  have H := H1
                                  clear H1
                                  exact absurd H (by simp)
                              · rw [if_neg c77] at H
                                exact absurd H (by simp)
                          case rest => as_aux_lemma =>
                            clear HC72
                            try clear c1
                            try clear c2
                            try clear p2
                            try clear c3
                            try clear c4
                            try clear c5
                            try clear c6
                            try clear c7
                            try clear c8
                            try clear c11
                            try clear c11b0
                            try clear c11b1
                            try clear c12
                            try clear c12b0
                            try clear c12b1
                            try clear c14
                            try clear c16
                            try clear c22
                            try clear c23
                            try clear c24
                            try clear c26
                            try clear c27
                            try clear c27b0
                            try clear c27b1
                            try clear c27b2
                            try clear c28
                            try clear c29
                            try clear c30
                            try clear c30b0
                            try clear c30b1
                            try clear c30b2
                            try clear c31
                            try clear c33
                            try clear c42
                            try clear c42b0
                            try clear c42b1
                            try clear c43
                            try clear c43b0
                            try clear c43b1
                            try clear c43b2
                            try clear c52
                            try clear c53
                            try clear c57
                            try clear c69
                            try clear c69b0
                            try clear c69b1
                            try clear c69b2
                            try clear c70
                            try clear c70b0
                            try clear c70b1
                            try clear c71
                            try clear c71b0
                            try clear c73
                            try clear c74
                            try clear c74b0
                            try clear c74b1
                            try clear c75
                            try clear c75b0
                            try clear c75b1
                            try clear c77
                            try clear c77b0
                            try clear c77b1
                            try clear c80
                            try clear hcz13_0
                            try clear hcz13_1
                            try clear hcz19_0
                            try clear hcz19_1
                            try clear hcz28_0
                            try clear hcz28_1
                            try clear hcz31_0
                            try clear hcz31_1
                            try clear hcz36_0
                            try clear hcz36_1
                            try clear hcz38_0
                            try clear hcz38_1
                            try clear hcz44_0
                            try clear hcz44_1
                            try clear hcz47_0
                            try clear hcz47_1
                            try clear hcz50_0
                            try clear hcz50_1
                            try clear hfz13_0
                            try clear hfz13_1
                            try clear hfz19_0
                            try clear hfz19_1
                            try clear hfz28_0
                            try clear hfz28_1
                            try clear hfz31_0
                            try clear hfz31_1
                            try clear hfz36_0
                            try clear hfz36_1
                            try clear hfz38_0
                            try clear hfz38_1
                            try clear hfz44_0
                            try clear hfz44_1
                            try clear hfz47_0
                            try clear hfz47_1
                            try clear hfz50_0
                            try clear hfz50_1
                            try clear p2
                            obtain ⟨kq, HA, HJ71, BK486, HB⟩ := hcut
                            (try simp only [i64_w, i32_w])
                            cases kq with
                            | zero => exact absurd HA.out (by simp [madrigallaw6_LsfSays.j3])
                            | succ kj71 =>
                              have H := HA.out
                              clear HA
                              simp only [madrigallaw6_LsfSays.j3] at H
                              replace H := Option.bind_eq_some_iff.mp H
                              obtain ⟨⟨t525, t526, t529⟩, A840, H⟩ := H
                              replace H : (if a0 = 10 then (madrigallaw6_LsfSays.j4 kj71 a0 l2 t529 ((l2.length : Int) != a0) t525 t526) else (if a0 = 16 then (madrigallaw6_LsfSays.j4 kj71 a0 l2 t529 ((l2.length : Int) != a0) t525 t526) else (madrigallaw6_LsfSays.j4 kj71 a0 l2 t529 true t525 t526))) = some r := H
                              have A84 := Aside0.mk A840
                              clear A840
                              have HC85 := Aside0.mk H
                              clear H
                              go_upto_region 18 with (first | ((with_reducible refine gate_callee (f := 25) rfl ?_); refine goesL_ (some 147) rfl rfl Try.func25 (by kernel_rfl) rfl #[.int .i64 a0, .slice A2 l2.length c2] rfl (by (try simp only [List.map_toArray, List.map_cons, List.map_nil]); first | done | rfl | (simp only [List.length_drop, List.length_take]; rfl)) ?_; (with_reducible refine (lsf_Search.calls kj71 a0 _ _ l2 t525 t526 t529 _ ?side1 ?side2 A84.out).mono ?_); (case side1 => repeat (first | exact (Kd.C_below HR2.out HB.out) | (with_reducible refine Kd.C_alloc ?_ _) | (with_reducible refine Kd.C_drewN ?_ _) | (with_reducible refine Kd.C_drew ?_))); (case side2 => exact HC2.out); rintro e w86 ⟨v527, rfl, ho0, hb⟩; refine ⟨_, rfl, ?_⟩; have n0_ := Aside0.mk (Kd.R_lower ho0 (below_size (by repeat (first | (with_reducible first | exact HB.out | apply below_alloc | apply pw_below_drewN | apply below_drew1 | refine below_set ?_ GE486.out) | exact HB.out)))); have n1_ := Aside0.mk (blk_below (g := gb486) (o := .cells #[.int .i64 a1_0, .slice A1_1 l1_1.length c1_1] 42 (0, 0)) (by (with_reducible repeat (first | refine blk_drewN ?_ _ | refine blk_drew ?_ | refine blk_alloc ?_ _)); exact BK486.out) hb); have n2_ := Aside0.mk (below_step (by repeat (first | (with_reducible first | exact HB.out | apply below_alloc | apply pw_below_drewN | apply below_drew1 | refine below_set ?_ GE486.out) | exact HB.out)) hb); clear BK486; clear HB; have HO528 := n0_; have BK486 := n1_; have HB := n2_; clear n0_ n1_ n2_; (try clear hb); (try clear hb2); (try clear hk); (try clear hi); (try clear hge); (try clear ho0)) | ((with_reducible refine gate_dst (N := 16) rfl ?_); (try (refine gate_guard (by rfl) ?_; dsimp only)); refine box_event ?hg (N := 16) ?hd (cs := #[.int .i64 0, .slice none 0 0]) (t := 42) ?hr ?_; (case hd => rfl); (case hg => rfl); (case hr => first | (go_simp; done) | (go_simp; rfl)); intro gb530 hg w87 hbox hb; have n0_ := Aside0.mk (Kd.R_below (by (with_reducible repeat (first | apply Kd.R_alloc | apply Kd.R_drewN | apply Kd.R_drew)); exact HO528.out) hb); have n1_ := Aside0.mk (blk_below (g := gb486) (o := .cells #[.int .i64 a1_0, .slice A1_1 l1_1.length c1_1] 42 (0, 0)) (by (with_reducible repeat (first | refine blk_drewN ?_ _ | refine blk_drew ?_ | refine blk_alloc ?_ _)); exact BK486.out) hb); have n2_ := Aside0.mk (below_step (by repeat (first | (with_reducible first | exact HB.out | apply below_alloc | apply pw_below_drewN | apply below_drew1 | refine below_set ?_ GE486.out) | exact HB.out)) hb); have n3_ := Aside0.mk (hbox); have n4_ := Aside0.mk ((by rw [hg]; exact (below_size (by repeat (first | (with_reducible first | exact HB.out | apply below_alloc | apply pw_below_drewN | apply below_drew1 | refine below_set ?_ GE486.out) | exact HB.out))) : w.heap.size ≤ gb530)); have n5_ := Aside0.mk ((by rw [hg]; exact (below_size (by repeat (first | (with_reducible first | exact HB.out | apply below_alloc | apply pw_below_drewN | apply below_drew1 | refine below_set ?_ GE486.out) | exact HB.out))) : w.heap.size ≤ gb530)); have n6_ := Aside0.mk ((by rw [hg]; exact Nat.ne_of_lt (blk_lt (g := gb486) (o := .cells #[.int .i64 a1_0, .slice A1_1 l1_1.length c1_1] 42 (0, 0)) (by (with_reducible repeat (first | refine blk_drewN ?_ _ | refine blk_drew ?_ | refine blk_alloc ?_ _)); exact BK486.out)) : gb486 ≠ gb530)); have n7_ := Aside0.mk ((by rw [hg]; exact Nat.ne_of_gt (blk_lt (g := gb486) (o := .cells #[.int .i64 a1_0, .slice A1_1 l1_1.length c1_1] 42 (0, 0)) (by (with_reducible repeat (first | refine blk_drewN ?_ _ | refine blk_drew ?_ | refine blk_alloc ?_ _)); exact BK486.out)) : gb530 ≠ gb486)); clear HO528; clear BK486; clear HB; have HO528 := n0_; have BK486 := n1_; have HB := n2_; have BK530 := n3_; have GW530 := n4_; have GE530 := n5_; have NB486_530 := n6_; have NB530_486 := n7_; clear n0_ n1_ n2_ n3_ n4_ n5_ n6_ n7_; clear hb hbox hg; have hnb88 := NB530_486.out; have hnc88 := NB486_530.out; have hcz89_0 : w87.cell? ⟨gb530, 0, none⟩ = some (.int .i64 0) := (blk_cell BK530.out 0).trans rfl; have hcz89_1 : w87.cell? ⟨gb530, 1, none⟩ = some (.slice none 0 0) := (blk_cell BK530.out 1).trans rfl; have hfz89_0 := blk_frozen BK530.out 0; have hfz89_1 := blk_frozen BK530.out 1; obtain ⟨Ao90, co90, eo90⟩ := Kd.R_slice HO528.out; subst eo90))
                              (try simp only [Act.put, List.setIfInBounds_toArray, List.set_cons_zero, List.set_cons_succ])
                              go_cut [161] (fun v161 wc => ∃ (kq : Nat) (x161_84 : Bool), v161 = .bool x161_84 ∧ Aside0 (madrigallaw6_LsfSays.j4 kq a0 l2 t529 x161_84 t525 t526 = some r) ∧ Aside0 (kq ≤ kj71) ∧ Aside0 (Kd.R (Kd.int .i64) 3 wc w.heap.size (fun _ => True) (.slice Ao90 t526.length co90) t526) ∧ Aside0 (wc.heap[gb486]? = some (.cells #[.int .i64 a1_0, (.slice A1_1 l1_1.length c1_1)] 42 (0, 0))) ∧ Aside0 (wc.heap[gb530]? = some (.cells #[.int .i64 t525, (.slice Ao90 t526.length co90)] 42 (0, 0))) ∧ Aside0 (Below w.heap.size w wc))
                              case first =>
                                have H := HC85.out
                                clear HC85
                                by_cases c91 : a0 = 10
                                · rw [if_pos c91] at H
                                  have c91b0 : (a0 == 10) = true := beq_iff_eq.mpr c91
                                  have c91b1 : (a0 != 10) = false := bne_eq_false_iff_eq.mpr c91
                                  clear c91
                                  (first | rw [c91b0] | (simp only [i64_w, i32_w]; rw [c91b0]) | skip)
                                  have H' := Aside0.mk H
                                  clear H
                                  go_wp2
                                  go_meet
                                  case rel => exact ⟨_, (((l2.length : Int) != a0)), (by first | rfl | (simp; done) | (simp [*]; done)), H', ⟨by have := HJ7.out; have := HJ17.out; have := HJ58.out; have := HJ71.out; first | omega | exact Nat.le_refl _⟩, ⟨by (with_reducible repeat (first | apply Kd.R_alloc | apply Kd.R_drewN | apply Kd.R_drew)); exact Kd.R_mono (Kd.R_far (p := ⟨gb530, 1, none⟩) (Kd.R_far (p := ⟨gb530, 0, none⟩) (Kd.R_types HO528.out BK530.out (by decide)) (fun _ hk => hk.2) (.int .i64 t525)) (fun _ hk => hk.2) (.slice Ao90 t526.length co90)) (fun _ hk => trivial)⟩, ⟨by (with_reducible repeat (first | refine blk_drewN ?_ _ | refine blk_drew ?_ | refine blk_alloc ?_ _)); refine blk_far ?_ NB486_530.out _; (with_reducible repeat (first | refine blk_drewN ?_ _ | refine blk_drew ?_ | refine blk_alloc ?_ _)); refine blk_far ?_ NB486_530.out _; (with_reducible repeat (first | refine blk_drewN ?_ _ | refine blk_drew ?_ | refine blk_alloc ?_ _)); exact BK486.out⟩, ⟨by (with_reducible repeat (first | refine blk_drewN ?_ _ | refine blk_drew ?_ | refine blk_alloc ?_ _)); refine blk_put (cs := #[.int .i64 t525, .slice none 0 0]) ?_ 1 _ rfl; (with_reducible repeat (first | refine blk_drewN ?_ _ | refine blk_drew ?_ | refine blk_alloc ?_ _)); refine blk_put (cs := #[.int .i64 0, .slice none 0 0]) ?_ 0 _ rfl; (with_reducible repeat (first | refine blk_drewN ?_ _ | refine blk_drew ?_ | refine blk_alloc ?_ _)); exact BK530.out⟩, ⟨by repeat (first | (with_reducible first | exact HB.out | apply below_alloc | apply pw_below_drewN | apply below_drew1 | refine below_set ?_ GE486.out | refine below_set ?_ GE530.out) | exact HB.out)⟩⟩
                                · rw [if_neg c91] at H
                                  have c91b0 : (a0 == 10) = false := beq_eq_false_iff_ne.mpr c91
                                  have c91b1 : (a0 != 10) = true := bne_iff_ne.mpr c91
                                  (first | rw [c91b0] | (simp only [i64_w, i32_w]; rw [c91b0]) | skip)
                                  by_cases c92 : a0 = 16
                                  · rw [if_pos c92] at H
                                    have c92b0 : (a0 == 16) = true := beq_iff_eq.mpr c92
                                    have c92b1 : (a0 != 16) = false := bne_eq_false_iff_eq.mpr c92
                                    clear c92
                                    have H' := Aside0.mk H
                                    clear H
                                    go_wp2
                                    go_meet
                                    case rel => exact ⟨_, (((l2.length : Int) != a0)), (by first | rfl | (simp; done) | (simp [*]; done)), H', ⟨by have := HJ7.out; have := HJ17.out; have := HJ58.out; have := HJ71.out; first | omega | exact Nat.le_refl _⟩, ⟨by (with_reducible repeat (first | apply Kd.R_alloc | apply Kd.R_drewN | apply Kd.R_drew)); exact Kd.R_mono (Kd.R_far (p := ⟨gb530, 1, none⟩) (Kd.R_far (p := ⟨gb530, 0, none⟩) (Kd.R_types HO528.out BK530.out (by decide)) (fun _ hk => hk.2) (.int .i64 t525)) (fun _ hk => hk.2) (.slice Ao90 t526.length co90)) (fun _ hk => trivial)⟩, ⟨by (with_reducible repeat (first | refine blk_drewN ?_ _ | refine blk_drew ?_ | refine blk_alloc ?_ _)); refine blk_far ?_ NB486_530.out _; (with_reducible repeat (first | refine blk_drewN ?_ _ | refine blk_drew ?_ | refine blk_alloc ?_ _)); refine blk_far ?_ NB486_530.out _; (with_reducible repeat (first | refine blk_drewN ?_ _ | refine blk_drew ?_ | refine blk_alloc ?_ _)); exact BK486.out⟩, ⟨by (with_reducible repeat (first | refine blk_drewN ?_ _ | refine blk_drew ?_ | refine blk_alloc ?_ _)); refine blk_put (cs := #[.int .i64 t525, .slice none 0 0]) ?_ 1 _ rfl; (with_reducible repeat (first | refine blk_drewN ?_ _ | refine blk_drew ?_ | refine blk_alloc ?_ _)); refine blk_put (cs := #[.int .i64 0, .slice none 0 0]) ?_ 0 _ rfl; (with_reducible repeat (first | refine blk_drewN ?_ _ | refine blk_drew ?_ | refine blk_alloc ?_ _)); exact BK530.out⟩, ⟨by repeat (first | (with_reducible first | exact HB.out | apply below_alloc | apply pw_below_drewN | apply below_drew1 | refine below_set ?_ GE486.out | refine below_set ?_ GE530.out) | exact HB.out)⟩⟩
                                  · rw [if_neg c92] at H
                                    have c92b0 : (a0 == 16) = false := beq_eq_false_iff_ne.mpr c92
                                    have c92b1 : (a0 != 16) = true := bne_iff_ne.mpr c92
                                    have H' := Aside0.mk H
                                    clear H
                                    go_wp2
                                    go_meet
                                    case rel => exact ⟨_, (true), (by first | rfl | (simp; done) | (simp [*]; done)), H', ⟨by have := HJ7.out; have := HJ17.out; have := HJ58.out; have := HJ71.out; first | omega | exact Nat.le_refl _⟩, ⟨by (with_reducible repeat (first | apply Kd.R_alloc | apply Kd.R_drewN | apply Kd.R_drew)); exact Kd.R_mono (Kd.R_far (p := ⟨gb530, 1, none⟩) (Kd.R_far (p := ⟨gb530, 0, none⟩) (Kd.R_types HO528.out BK530.out (by decide)) (fun _ hk => hk.2) (.int .i64 t525)) (fun _ hk => hk.2) (.slice Ao90 t526.length co90)) (fun _ hk => trivial)⟩, ⟨by (with_reducible repeat (first | refine blk_drewN ?_ _ | refine blk_drew ?_ | refine blk_alloc ?_ _)); refine blk_far ?_ NB486_530.out _; (with_reducible repeat (first | refine blk_drewN ?_ _ | refine blk_drew ?_ | refine blk_alloc ?_ _)); refine blk_far ?_ NB486_530.out _; (with_reducible repeat (first | refine blk_drewN ?_ _ | refine blk_drew ?_ | refine blk_alloc ?_ _)); exact BK486.out⟩, ⟨by (with_reducible repeat (first | refine blk_drewN ?_ _ | refine blk_drew ?_ | refine blk_alloc ?_ _)); refine blk_put (cs := #[.int .i64 t525, .slice none 0 0]) ?_ 1 _ rfl; (with_reducible repeat (first | refine blk_drewN ?_ _ | refine blk_drew ?_ | refine blk_alloc ?_ _)); refine blk_put (cs := #[.int .i64 0, .slice none 0 0]) ?_ 0 _ rfl; (with_reducible repeat (first | refine blk_drewN ?_ _ | refine blk_drew ?_ | refine blk_alloc ?_ _)); exact BK530.out⟩, ⟨by repeat (first | (with_reducible first | exact HB.out | apply below_alloc | apply pw_below_drewN | apply below_drew1 | refine below_set ?_ GE486.out | refine below_set ?_ GE530.out) | exact HB.out)⟩⟩
                              case rest => as_aux_lemma =>
                                clear HC85
                                try clear c1
                                try clear c2
                                try clear p2
                                try clear c3
                                try clear c4
                                try clear c5
                                try clear c6
                                try clear c7
                                try clear c8
                                try clear c9
                                try clear c11
                                try clear c11b0
                                try clear c11b1
                                try clear c12
                                try clear c12b0
                                try clear c12b1
                                try clear c14
                                try clear c16
                                try clear c22
                                try clear c23
                                try clear c24
                                try clear c25
                                try clear c26
                                try clear c27
                                try clear c27b0
                                try clear c27b1
                                try clear c27b2
                                try clear c28
                                try clear c29
                                try clear c30
                                try clear c30b0
                                try clear c30b1
                                try clear c30b2
                                try clear c31
                                try clear c33
                                try clear c42
                                try clear c42b0
                                try clear c42b1
                                try clear c43
                                try clear c43b0
                                try clear c43b1
                                try clear c43b2
                                try clear c52
                                try clear c53
                                try clear c57
                                try clear c69
                                try clear c69b0
                                try clear c69b1
                                try clear c69b2
                                try clear c70
                                try clear c70b0
                                try clear c70b1
                                try clear c71
                                try clear c71b0
                                try clear c73
                                try clear c74
                                try clear c74b0
                                try clear c74b1
                                try clear c75
                                try clear c75b0
                                try clear c75b1
                                try clear c77
                                try clear c77b0
                                try clear c77b1
                                try clear c80
                                try clear c88
                                try clear c91
                                try clear c91b0
                                try clear c91b1
                                try clear c92
                                try clear c92b0
                                try clear c92b1
                                try clear hcz13_0
                                try clear hcz13_1
                                try clear hcz19_0
                                try clear hcz19_1
                                try clear hcz28_0
                                try clear hcz28_1
                                try clear hcz31_0
                                try clear hcz31_1
                                try clear hcz36_0
                                try clear hcz36_1
                                try clear hcz38_0
                                try clear hcz38_1
                                try clear hcz44_0
                                try clear hcz44_1
                                try clear hcz47_0
                                try clear hcz47_1
                                try clear hcz50_0
                                try clear hcz50_1
                                try clear hcz89_0
                                try clear hcz89_1
                                try clear hfz13_0
                                try clear hfz13_1
                                try clear hfz19_0
                                try clear hfz19_1
                                try clear hfz28_0
                                try clear hfz28_1
                                try clear hfz31_0
                                try clear hfz31_1
                                try clear hfz36_0
                                try clear hfz36_1
                                try clear hfz38_0
                                try clear hfz38_1
                                try clear hfz44_0
                                try clear hfz44_1
                                try clear hfz47_0
                                try clear hfz47_1
                                try clear hfz50_0
                                try clear hfz50_1
                                try clear hfz89_0
                                try clear hfz89_1
                                try clear p2
                                obtain ⟨kq, x161_84, rfl, HA, HJ84, HO_531001, BK486, BK530, HB⟩ := hcut
                                (try simp only [i64_w, i32_w])
                                cases kq with
                                | zero => exact absurd HA.out (by simp [madrigallaw6_LsfSays.j4])
                                | succ kj84 =>
                                  have H := HA.out
                                  clear HA
                                  simp only [madrigallaw6_LsfSays.j4] at H
                                  by_cases c93 : x161_84 = true
                                  · subst c93
                                    have H1 : (if t529 = 1 then (if (t526.length : Int) = 0 then (some (t525 == 0)) else (none)) else (none)) = some r := by rw [if_pos rfl] at H; exact H
                                    clear H
                                    have H := H1
                                    clear H1
                                    by_cases c94 : t529 = 1
                                    · rw [if_pos c94] at H
                                      have c94b0 : (t529 == 1) = true := beq_iff_eq.mpr c94
                                      have c94b1 : (t529 != 1) = false := bne_eq_false_iff_eq.mpr c94
                                      clear c94
                                      by_cases c95 : (t526.length : Int) = 0
                                      · rw [if_pos c95] at H
                                        have c95b0 : ((t526.length : Int) == 0) = true := beq_iff_eq.mpr c95
                                        have c95b1 : ((t526.length : Int) != 0) = false := bne_eq_false_iff_eq.mpr c95
                                        clear c95
                                        obtain rfl := Option.some.inj H
                                        have hnb96 := NB530_486.out
                                        have hnc96 := NB486_530.out
                                        have hcz97_0 : wc.cell? ⟨gb530, 0, none⟩ = some (.int .i64 t525) := (blk_cell BK530.out 0).trans rfl
                                        have hcz97_1 : wc.cell? ⟨gb530, 1, none⟩ = some (.slice Ao90 t526.length co90) := (blk_cell BK530.out 1).trans rfl
                                        have hfz97_0 := blk_frozen BK530.out 0
                                        have hfz97_1 := blk_frozen BK530.out 1
                                        go_wp2
                                        go_ret
                                        exact ⟨by first | rfl | (simp [errW_none, errW_some] <;> rfl) | (simp [*, errW_none, errW_some] <;> rfl), by repeat (first | (with_reducible first | exact HB.out | apply below_alloc | apply pw_below_drewN | apply below_drew1 | refine below_set ?_ GE486.out | refine below_set ?_ GE530.out) | exact HB.out)⟩
                                      · rw [if_neg c95] at H
                                        exact absurd H (by simp)
                                    · rw [if_neg c94] at H
                                      exact absurd H (by simp)
                                  · replace c93 := Bool.eq_false_iff.mpr c93
                                    subst c93
                                    have H1 : ((madrigalref6_Search.f kj84 a0 l2).bind fun bt531 => (if t529 = 0 then (if t525 = bt531.1 then (madrigallaw6_LsfSays.j5 kj84 bt531.2 ((t526.length : Int) != (bt531.2.length : Int)) t525 t526) else (madrigallaw6_LsfSays.j5 kj84 bt531.2 true t525 t526)) else (madrigallaw6_LsfSays.j5 kj84 bt531.2 true t525 t526))) = some r := by rw [if_neg (show ¬ (false = true) by decide)] at H; exact H
                                    clear H
                                    have H := H1
                                    clear H1
                                    replace H := Option.bind_eq_some_iff.mp H
                                    obtain ⟨⟨t531, t532⟩, A980, H⟩ := H
                                    replace H : (if t529 = 0 then (if t525 = t531 then (madrigallaw6_LsfSays.j5 kj84 t532 ((t526.length : Int) != (t532.length : Int)) t525 t526) else (madrigallaw6_LsfSays.j5 kj84 t532 true t525 t526)) else (madrigallaw6_LsfSays.j5 kj84 t532 true t525 t526)) = some r := H
                                    have A98 := Aside0.mk A980
                                    clear A980
                                    have HC99 := Aside0.mk H
                                    clear H
                                    go_upto_region 21 with (first | ((with_reducible refine gate_callee (f := 33) rfl ?_); refine goesL_ (some 178) rfl rfl Try.func33 (by kernel_rfl) rfl #[.int .i64 a0, .slice A2 l2.length c2] rfl (by (try simp only [List.map_toArray, List.map_cons, List.map_nil]); first | done | rfl | (simp only [List.length_drop, List.length_take]; rfl)) ?_; (with_reducible refine (madrigalref6_Search.calls kj84 a0 _ _ l2 t531 t532 _ ?side1 ?side2 A98.out).mono ?_); (case side1 => repeat (first | exact (Kd.C_below HR2.out HB.out) | (with_reducible refine Kd.C_alloc ?_ _) | (with_reducible refine Kd.C_drewN ?_ _) | (with_reducible refine Kd.C_drew ?_))); (case side2 => exact HC2.out); rintro e w100 ⟨v533, rfl, ho0, hb⟩; refine ⟨_, rfl, ?_⟩; have n0_ := Aside0.mk (Kd.R_elder' (by (with_reducible repeat (first | apply Kd.R_alloc | apply Kd.R_drewN | apply Kd.R_drew)); exact HO_531001.out) (Kd.R_base ho0) hb); have n1_ := Aside0.mk (Kd.R_lower (Kd.R_new' ho0 (Kd.R_lt (by (with_reducible repeat (first | apply Kd.R_alloc | apply Kd.R_drewN | apply Kd.R_drew)); exact HO_531001.out))) (below_size (by repeat (first | (with_reducible first | exact HB.out | apply below_alloc | apply pw_below_drewN | apply below_drew1 | refine below_set ?_ GE486.out | refine below_set ?_ GE530.out) | exact HB.out)))); have n2_ := Aside0.mk (blk_below (g := gb486) (o := .cells #[.int .i64 a1_0, .slice A1_1 l1_1.length c1_1] 42 (0, 0)) (by (with_reducible repeat (first | refine blk_drewN ?_ _ | refine blk_drew ?_ | refine blk_alloc ?_ _)); exact BK486.out) hb); have n3_ := Aside0.mk (blk_below (g := gb530) (o := .cells #[.int .i64 t525, .slice Ao90 t526.length co90] 42 (0, 0)) (by (with_reducible repeat (first | refine blk_drewN ?_ _ | refine blk_drew ?_ | refine blk_alloc ?_ _)); exact BK530.out) hb); have n4_ := Aside0.mk (below_step (by repeat (first | (with_reducible first | exact HB.out | apply below_alloc | apply pw_below_drewN | apply below_drew1 | refine below_set ?_ GE486.out | refine below_set ?_ GE530.out) | exact HB.out)) hb); clear HO_531001; clear BK486; clear BK530; clear HB; have HO_531001 := n0_; have HO534 := n1_; have BK486 := n2_; have BK530 := n3_; have HB := n4_; clear n0_ n1_ n2_ n3_ n4_; (try clear hb); (try clear hb2); (try clear hk); (try clear hi); (try clear hge); (try clear ho0)))
                                    (try simp only [Act.put, List.setIfInBounds_toArray, List.set_cons_zero, List.set_cons_succ])
                                    go_cut [196] (fun v196 wc => ∃ (kq : Nat) (x196_98 : Bool), v196 = .bool x196_98 ∧ Aside0 (madrigallaw6_LsfSays.j5 kq t532 x196_98 t525 t526 = some r) ∧ Aside0 (kq ≤ kj84) ∧ Aside0 (Kd.R (Kd.int .i64) 3 wc w.heap.size (fun k_ => some k_ ≠ ((.slice Ao90 t526.length co90) : Value).ownBlock) v533 t532) ∧ Aside0 (Kd.R (Kd.int .i64) 3 wc w.heap.size (fun k_ => some k_ ≠ (v533 : Value).ownBlock) (.slice Ao90 t526.length co90) t526) ∧ Aside0 (wc.heap[gb486]? = some (.cells #[.int .i64 a1_0, (.slice A1_1 l1_1.length c1_1)] 42 (0, 0))) ∧ Aside0 (wc.heap[gb530]? = some (.cells #[.int .i64 t525, (.slice Ao90 t526.length co90)] 42 (0, 0))) ∧ Aside0 (Below w.heap.size w wc))
                                    case first =>
                                      have H := HC99.out
                                      clear HC99
                                      by_cases c101 : t529 = 0
                                      · rw [if_pos c101] at H
                                        have c101b0 : (t529 == 0) = true := beq_iff_eq.mpr c101
                                        have c101b1 : (t529 != 0) = false := bne_eq_false_iff_eq.mpr c101
                                        clear c101
                                        (first | rw [c101b0] | (simp only [i64_w, i32_w]; rw [c101b0]) | skip)
                                        by_cases c102 : t525 = t531
                                        · rw [if_pos c102] at H
                                          have c102b0 : (t525 == t531) = true := beq_iff_eq.mpr c102
                                          have c102b1 : (t525 != t531) = false := bne_eq_false_iff_eq.mpr c102
                                          clear c102
                                          have H' := Aside0.mk H
                                          clear H
                                          have hnb103 := NB530_486.out
                                          have hnc103 := NB486_530.out
                                          have hcz104_0 : w100.cell? ⟨gb530, 0, none⟩ = some (.int .i64 t525) := (blk_cell BK530.out 0).trans rfl
                                          have hcz104_1 : w100.cell? ⟨gb530, 1, none⟩ = some (.slice Ao90 t526.length co90) := (blk_cell BK530.out 1).trans rfl
                                          have hfz104_0 := blk_frozen BK530.out 0
                                          have hfz104_1 := blk_frozen BK530.out 1
                                          obtain ⟨Ao105, co105, eo105⟩ := Kd.R_slice HO534.out
                                          subst eo105
                                          go_wp2
                                          go_meet
                                          case rel => exact ⟨_, (((t526.length : Int) != (t532.length : Int))), (by first | rfl | (simp; done) | (simp [*]; done)), H', ⟨by have := HJ7.out; have := HJ17.out; have := HJ58.out; have := HJ71.out; have := HJ84.out; first | omega | exact Nat.le_refl _⟩, ⟨by (with_reducible repeat (first | apply Kd.R_alloc | apply Kd.R_drewN | apply Kd.R_drew)); exact Kd.R_mono HO534.out (fun _ hk => hk.2)⟩, ⟨by (with_reducible repeat (first | apply Kd.R_alloc | apply Kd.R_drewN | apply Kd.R_drew)); exact Kd.R_mono HO_531001.out (fun _ hk => hk.2)⟩, ⟨by (with_reducible repeat (first | refine blk_drewN ?_ _ | refine blk_drew ?_ | refine blk_alloc ?_ _)); exact BK486.out⟩, ⟨by (with_reducible repeat (first | refine blk_drewN ?_ _ | refine blk_drew ?_ | refine blk_alloc ?_ _)); exact BK530.out⟩, ⟨by repeat (first | (with_reducible first | exact HB.out | apply below_alloc | apply pw_below_drewN | apply below_drew1 | refine below_set ?_ GE486.out | refine below_set ?_ GE530.out) | exact HB.out)⟩⟩
                                        · rw [if_neg c102] at H
                                          have c102b0 : (t525 == t531) = false := beq_eq_false_iff_ne.mpr c102
                                          have c102b1 : (t525 != t531) = true := bne_iff_ne.mpr c102
                                          have H' := Aside0.mk H
                                          clear H
                                          have hnb106 := NB530_486.out
                                          have hnc106 := NB486_530.out
                                          have hcz107_0 : w100.cell? ⟨gb530, 0, none⟩ = some (.int .i64 t525) := (blk_cell BK530.out 0).trans rfl
                                          have hcz107_1 : w100.cell? ⟨gb530, 1, none⟩ = some (.slice Ao90 t526.length co90) := (blk_cell BK530.out 1).trans rfl
                                          have hfz107_0 := blk_frozen BK530.out 0
                                          have hfz107_1 := blk_frozen BK530.out 1
                                          go_wp2
                                          go_meet
                                          case rel => exact ⟨_, (true), (by first | rfl | (simp; done) | (simp [*]; done)), H', ⟨by have := HJ7.out; have := HJ17.out; have := HJ58.out; have := HJ71.out; have := HJ84.out; first | omega | exact Nat.le_refl _⟩, ⟨by (with_reducible repeat (first | apply Kd.R_alloc | apply Kd.R_drewN | apply Kd.R_drew)); exact Kd.R_mono HO534.out (fun _ hk => hk.2)⟩, ⟨by (with_reducible repeat (first | apply Kd.R_alloc | apply Kd.R_drewN | apply Kd.R_drew)); exact Kd.R_mono HO_531001.out (fun _ hk => hk.2)⟩, ⟨by (with_reducible repeat (first | refine blk_drewN ?_ _ | refine blk_drew ?_ | refine blk_alloc ?_ _)); exact BK486.out⟩, ⟨by (with_reducible repeat (first | refine blk_drewN ?_ _ | refine blk_drew ?_ | refine blk_alloc ?_ _)); exact BK530.out⟩, ⟨by repeat (first | (with_reducible first | exact HB.out | apply below_alloc | apply pw_below_drewN | apply below_drew1 | refine below_set ?_ GE486.out | refine below_set ?_ GE530.out) | exact HB.out)⟩⟩
                                      · rw [if_neg c101] at H
                                        have c101b0 : (t529 == 0) = false := beq_eq_false_iff_ne.mpr c101
                                        have c101b1 : (t529 != 0) = true := bne_iff_ne.mpr c101
                                        (first | rw [c101b0] | (simp only [i64_w, i32_w]; rw [c101b0]) | skip)
                                        have H' := Aside0.mk H
                                        clear H
                                        go_wp2
                                        go_meet
                                        case rel => exact ⟨_, (true), (by first | rfl | (simp; done) | (simp [*]; done)), H', ⟨by have := HJ7.out; have := HJ17.out; have := HJ58.out; have := HJ71.out; have := HJ84.out; first | omega | exact Nat.le_refl _⟩, ⟨by (with_reducible repeat (first | apply Kd.R_alloc | apply Kd.R_drewN | apply Kd.R_drew)); exact Kd.R_mono HO534.out (fun _ hk => hk.2)⟩, ⟨by (with_reducible repeat (first | apply Kd.R_alloc | apply Kd.R_drewN | apply Kd.R_drew)); exact Kd.R_mono HO_531001.out (fun _ hk => hk.2)⟩, ⟨by (with_reducible repeat (first | refine blk_drewN ?_ _ | refine blk_drew ?_ | refine blk_alloc ?_ _)); exact BK486.out⟩, ⟨by (with_reducible repeat (first | refine blk_drewN ?_ _ | refine blk_drew ?_ | refine blk_alloc ?_ _)); exact BK530.out⟩, ⟨by repeat (first | (with_reducible first | exact HB.out | apply below_alloc | apply pw_below_drewN | apply below_drew1 | refine below_set ?_ GE486.out | refine below_set ?_ GE530.out) | exact HB.out)⟩⟩
                                    case rest => as_aux_lemma =>
                                      clear HC99
                                      try clear c1
                                      try clear c2
                                      try clear p2
                                      try clear c3
                                      try clear c4
                                      try clear c5
                                      try clear c6
                                      try clear c7
                                      try clear c8
                                      try clear c9
                                      try clear c10
                                      try clear c11
                                      try clear c11b0
                                      try clear c11b1
                                      try clear c12
                                      try clear c12b0
                                      try clear c12b1
                                      try clear c14
                                      try clear c16
                                      try clear c22
                                      try clear c23
                                      try clear c24
                                      try clear c25
                                      try clear c26
                                      try clear c27
                                      try clear c27b0
                                      try clear c27b1
                                      try clear c27b2
                                      try clear c28
                                      try clear c29
                                      try clear c30
                                      try clear c30b0
                                      try clear c30b1
                                      try clear c30b2
                                      try clear c31
                                      try clear c33
                                      try clear c42
                                      try clear c42b0
                                      try clear c42b1
                                      try clear c43
                                      try clear c43b0
                                      try clear c43b1
                                      try clear c43b2
                                      try clear c52
                                      try clear c53
                                      try clear c57
                                      try clear c69
                                      try clear c69b0
                                      try clear c69b1
                                      try clear c69b2
                                      try clear c70
                                      try clear c70b0
                                      try clear c70b1
                                      try clear c71
                                      try clear c71b0
                                      try clear c73
                                      try clear c74
                                      try clear c74b0
                                      try clear c74b1
                                      try clear c75
                                      try clear c75b0
                                      try clear c75b1
                                      try clear c77
                                      try clear c77b0
                                      try clear c77b1
                                      try clear c80
                                      try clear c88
                                      try clear c91
                                      try clear c91b0
                                      try clear c91b1
                                      try clear c92
                                      try clear c92b0
                                      try clear c92b1
                                      try clear c93
                                      try clear c94
                                      try clear c94b0
                                      try clear c94b1
                                      try clear c95
                                      try clear c95b0
                                      try clear c95b1
                                      try clear c96
                                      try clear c101
                                      try clear c101b0
                                      try clear c101b1
                                      try clear c102
                                      try clear c102b0
                                      try clear c102b1
                                      try clear c103
                                      try clear c106
                                      try clear hcz104_0
                                      try clear hcz104_1
                                      try clear hcz107_0
                                      try clear hcz107_1
                                      try clear hcz13_0
                                      try clear hcz13_1
                                      try clear hcz19_0
                                      try clear hcz19_1
                                      try clear hcz28_0
                                      try clear hcz28_1
                                      try clear hcz31_0
                                      try clear hcz31_1
                                      try clear hcz36_0
                                      try clear hcz36_1
                                      try clear hcz38_0
                                      try clear hcz38_1
                                      try clear hcz44_0
                                      try clear hcz44_1
                                      try clear hcz47_0
                                      try clear hcz47_1
                                      try clear hcz50_0
                                      try clear hcz50_1
                                      try clear hcz89_0
                                      try clear hcz89_1
                                      try clear hcz97_0
                                      try clear hcz97_1
                                      try clear hfz104_0
                                      try clear hfz104_1
                                      try clear hfz107_0
                                      try clear hfz107_1
                                      try clear hfz13_0
                                      try clear hfz13_1
                                      try clear hfz19_0
                                      try clear hfz19_1
                                      try clear hfz28_0
                                      try clear hfz28_1
                                      try clear hfz31_0
                                      try clear hfz31_1
                                      try clear hfz36_0
                                      try clear hfz36_1
                                      try clear hfz38_0
                                      try clear hfz38_1
                                      try clear hfz44_0
                                      try clear hfz44_1
                                      try clear hfz47_0
                                      try clear hfz47_1
                                      try clear hfz50_0
                                      try clear hfz50_1
                                      try clear hfz89_0
                                      try clear hfz89_1
                                      try clear hfz97_0
                                      try clear hfz97_1
                                      try clear p2
                                      obtain ⟨kq, x196_98, rfl, HA, HJ98, HO_19, HO_531001, BK486, BK530, HB⟩ := hcut
                                      (try simp only [i64_w, i32_w])
                                      cases kq with
                                      | zero => exact absurd HA.out (by simp [madrigallaw6_LsfSays.j5])
                                      | succ kj98 =>
                                        have H := HA.out
                                        clear HA
                                        simp only [madrigallaw6_LsfSays.j5] at H
                                        by_cases c108 : x196_98 = true
                                        · subst c108
                                          have H1 : (none) = some r := by rw [if_pos rfl] at H; exact H
                                          clear H
                                          have H := H1
                                          clear H1
                                          exact absurd H (by simp)
                                        · replace c108 := Bool.eq_false_iff.mpr c108
                                          subst c108
                                          have H1 : (madrigallaw6_LsfSays.l0 kj98 t532 0 t525 t526) = some r := by rw [if_neg (show ¬ (false = true) by decide)] at H; exact H
                                          clear H
                                          have H := H1
                                          clear H1
                                          have H' := Aside0.mk H
                                          clear H
                                          go_wp2
                                          go_loopg [20] kj98 (fun kq v20 w' => ∃ (x20_7 : Int), v20 = .int .i64 x20_7 ∧ Aside0 (madrigallaw6_LsfSays.l0 kq t532 x20_7 t525 t526 = some r) ∧ Aside0 (kq ≤ kj98) ∧ Aside0 (Kd.R (Kd.int .i64) 3 w' w.heap.size (fun k_ => some k_ ≠ ((.slice Ao90 t526.length co90) : Value).ownBlock) v533 t532) ∧ Aside0 (Kd.R (Kd.int .i64) 3 w' w.heap.size (fun k_ => some k_ ≠ (v533 : Value).ownBlock) (.slice Ao90 t526.length co90) t526) ∧ Aside0 (w'.heap[gb486]? = some (.cells #[.int .i64 a1_0, (.slice A1_1 l1_1.length c1_1)] 42 (0, 0))) ∧ Aside0 (w'.heap[gb530]? = some (.cells #[.int .i64 t525, (.slice Ao90 t526.length co90)] 42 (0, 0))) ∧ Aside0 (Below w.heap.size w w'))
                                          case atStart => exact ⟨(0), (by first | rfl | (simp; done) | (simp [*]; done)), H', ⟨Nat.le_refl _⟩, ⟨by (with_reducible repeat (first | apply Kd.R_alloc | apply Kd.R_drewN | apply Kd.R_drew)); exact HO_19.out⟩, ⟨by (with_reducible repeat (first | apply Kd.R_alloc | apply Kd.R_drewN | apply Kd.R_drew)); exact HO_531001.out⟩, ⟨by (with_reducible repeat (first | refine blk_drewN ?_ _ | refine blk_drew ?_ | refine blk_alloc ?_ _)); exact BK486.out⟩, ⟨by (with_reducible repeat (first | refine blk_drewN ?_ _ | refine blk_drew ?_ | refine blk_alloc ?_ _)); exact BK530.out⟩, ⟨by repeat (first | (with_reducible first | exact HB.out | apply below_alloc | apply pw_below_drewN | apply below_drew1 | refine below_set ?_ GE486.out | refine below_set ?_ GE530.out) | exact HB.out)⟩⟩
                                          case round => as_aux_lemma =>
                                            clear H'
                                            try clear c1
                                            try clear c2
                                            try clear p2
                                            try clear c3
                                            try clear c4
                                            try clear c5
                                            try clear c6
                                            try clear c7
                                            try clear c8
                                            try clear c9
                                            try clear c10
                                            try clear c11
                                            try clear c11b0
                                            try clear c11b1
                                            try clear c12
                                            try clear c12b0
                                            try clear c12b1
                                            try clear c14
                                            try clear c16
                                            try clear c22
                                            try clear c23
                                            try clear c24
                                            try clear c25
                                            try clear c26
                                            try clear c27
                                            try clear c27b0
                                            try clear c27b1
                                            try clear c27b2
                                            try clear c28
                                            try clear c29
                                            try clear c30
                                            try clear c30b0
                                            try clear c30b1
                                            try clear c30b2
                                            try clear c31
                                            try clear c33
                                            try clear c42
                                            try clear c42b0
                                            try clear c42b1
                                            try clear c43
                                            try clear c43b0
                                            try clear c43b1
                                            try clear c43b2
                                            try clear c52
                                            try clear c53
                                            try clear c57
                                            try clear c69
                                            try clear c69b0
                                            try clear c69b1
                                            try clear c69b2
                                            try clear c70
                                            try clear c70b0
                                            try clear c70b1
                                            try clear c71
                                            try clear c71b0
                                            try clear c73
                                            try clear c74
                                            try clear c74b0
                                            try clear c74b1
                                            try clear c75
                                            try clear c75b0
                                            try clear c75b1
                                            try clear c77
                                            try clear c77b0
                                            try clear c77b1
                                            try clear c80
                                            try clear c88
                                            try clear c91
                                            try clear c91b0
                                            try clear c91b1
                                            try clear c92
                                            try clear c92b0
                                            try clear c92b1
                                            try clear c93
                                            try clear c94
                                            try clear c94b0
                                            try clear c94b1
                                            try clear c95
                                            try clear c95b0
                                            try clear c95b1
                                            try clear c96
                                            try clear c101
                                            try clear c101b0
                                            try clear c101b1
                                            try clear c102
                                            try clear c102b0
                                            try clear c102b1
                                            try clear c103
                                            try clear c106
                                            try clear c108
                                            try clear hcz104_0
                                            try clear hcz104_1
                                            try clear hcz107_0
                                            try clear hcz107_1
                                            try clear hcz13_0
                                            try clear hcz13_1
                                            try clear hcz19_0
                                            try clear hcz19_1
                                            try clear hcz28_0
                                            try clear hcz28_1
                                            try clear hcz31_0
                                            try clear hcz31_1
                                            try clear hcz36_0
                                            try clear hcz36_1
                                            try clear hcz38_0
                                            try clear hcz38_1
                                            try clear hcz44_0
                                            try clear hcz44_1
                                            try clear hcz47_0
                                            try clear hcz47_1
                                            try clear hcz50_0
                                            try clear hcz50_1
                                            try clear hcz89_0
                                            try clear hcz89_1
                                            try clear hcz97_0
                                            try clear hcz97_1
                                            try clear hfz104_0
                                            try clear hfz104_1
                                            try clear hfz107_0
                                            try clear hfz107_1
                                            try clear hfz13_0
                                            try clear hfz13_1
                                            try clear hfz19_0
                                            try clear hfz19_1
                                            try clear hfz28_0
                                            try clear hfz28_1
                                            try clear hfz31_0
                                            try clear hfz31_1
                                            try clear hfz36_0
                                            try clear hfz36_1
                                            try clear hfz38_0
                                            try clear hfz38_1
                                            try clear hfz44_0
                                            try clear hfz44_1
                                            try clear hfz47_0
                                            try clear hfz47_1
                                            try clear hfz50_0
                                            try clear hfz50_1
                                            try clear hfz89_0
                                            try clear hfz89_1
                                            try clear hfz97_0
                                            try clear hfz97_1
                                            try clear p2
                                            obtain ⟨x20_7, rfl, HA, HK7, HO_19, HO_531001, BK486, BK530, HB⟩ := hrel
                                            (try simp only [i64_w, i32_w])
                                            cases gk with
                                            | zero => exact absurd HA.out (by simp [madrigallaw6_LsfSays.l0])
                                            | succ k7 =>
                                              have H := HA.out
                                              clear HA
                                              simp only [madrigallaw6_LsfSays.l0] at H
                                              by_cases c109 : x20_7 < (t532.length : Int)
                                              · rw [if_pos c109] at H
                                                have c109b0 : decide (x20_7 < (t532.length : Int)) = true := decide_eq_true c109
                                                clear c109
                                                by_cases c110 : 0 ≤ x20_7
                                                · rw [if_pos c110] at H
                                                  have c110b0 : decide (0 ≤ x20_7) = true := decide_eq_true c110
                                                  clear c110
                                                  by_cases c111 : x20_7 < (t526.length : Int)
                                                  · rw [if_pos c111] at H
                                                    have c111b0 : decide (x20_7 < (t526.length : Int)) = true := decide_eq_true c111
                                                    clear c111
                                                    by_cases c112 : (rd t526 x20_7) = (rd t532 x20_7)
                                                    · rw [if_pos c112] at H
                                                      have c112b0 : ((rd t526 x20_7) == (rd t532 x20_7)) = true := beq_iff_eq.mpr c112
                                                      have c112b1 : ((rd t526 x20_7) != (rd t532 x20_7)) = false := bne_eq_false_iff_eq.mpr c112
                                                      clear c112
                                                      have H' := Aside0.mk H
                                                      clear H
                                                      obtain ⟨Ao113, co113, eo113⟩ := Kd.R_slice HO_19.out
                                                      subst eo113
                                                      try go_wp2
                                                      have n0_ := Aside0.mk (Kd.R_drew HO_19.out)
                                                      have n1_ := Aside0.mk (Kd.R_drew HO_531001.out)
                                                      have n2_ := Aside0.mk (blk_drew BK486.out)
                                                      have n3_ := Aside0.mk (blk_drew BK530.out)
                                                      have n4_ := Aside0.mk (below_drew1 HB.out)
                                                      clear HO_19
                                                      clear HO_531001
                                                      clear BK486
                                                      clear BK530
                                                      clear HB
                                                      have HO_19 := n0_
                                                      have HO_531001 := n1_
                                                      have BK486 := n2_
                                                      have BK530 := n3_
                                                      have HB := n4_
                                                      clear n0_ n1_ n2_ n3_ n4_
                                                      have p535 : 0 ≤ (x20_7 : Int) := of_decide_eq_true (by first | (with_reducible assumption) | assumption)
                                                      have q535 : x20_7 < (t526.length : Int) := of_decide_eq_true (by first | (with_reducible assumption) | assumption)
                                                      obtain ⟨ad535, e535, hx535_0⟩ := Kd.at_int (Kd.R_reads' HO_531001.out).2.2 x20_7 p535 q535
                                                      cases e535
                                                      replace p535 := eq_true p535
                                                      replace q535 := eq_true q535
                                                      have p536 : 0 ≤ (x20_7 : Int) := of_decide_eq_true (by first | (with_reducible assumption) | assumption)
                                                      have q536 : x20_7 < (t532.length : Int) := of_decide_eq_true (by first | (with_reducible assumption) | assumption)
                                                      obtain ⟨ad536, e536, hx536_0⟩ := Kd.at_int (Kd.R_reads' HO_19.out).2.2 x20_7 p536 q536
                                                      cases e536
                                                      replace p536 := eq_true p536
                                                      replace q536 := eq_true q536
                                                      refine start_ (n := 10) (S := fun w' => w'.cell? ⟨gb530, 0, none⟩ = some (.int .i64 t525) ∧ w'.cell? ⟨gb530, 1, none⟩ = some (.slice (some ad535) t526.length co90) ∧ w'.cell? (ad535.add (x20_7).toNat) = some (.int .i64 (rd t526 x20_7)) ∧ w'.cell? (ad536.add (x20_7).toNat) = some (.int .i64 (rd t532 x20_7))) (ds := []) #[false, false, false, false, false, false, false, false, false, false] (by kernel_rfl) rfl rfl ⟨(blk_cell BK530.out 0).trans rfl, (blk_cell BK530.out 1).trans rfl, hx535_0, hx536_0⟩ (fun hHeld => ?_); refine with_tabW madrigallaw6_LsfSays.tab26 madrigallaw6_LsfSays.bits26 (fun HT_ HW_ => ?_)
                                                      generalize wr.drew = w114 at HO_19 HO_531001 BK486 BK530 HB hx535_0 hx536_0 hHeld ⊢
                                                      refine pure_ (i := 0) (N := some 203) (v := ?_) (a' := ?_) #[true, false, false, false, false, false, false, false, false, false] rfl rfl (any_of HT_.out (by kernel_rfl)) (fun _ _ _ h => h) (Or.inl ⟨by rfl, ?_⟩) ?_ ?_
                                                      rotate_left
                                                      · intro w'
                                                        go_simp
                                                        with_reducible rfl
                                                      rotate_left
                                                      · simp only [Act.put, List.setIfInBounds_toArray, List.set_cons_zero, List.set_cons_succ, i64_w, i32_w]
                                                        rfl
                                                      refine pure_ (i := 2) (N := some 205) (v := ?_) (a' := ?_) #[true, false, true, false, false, false, false, false, false, false] rfl rfl (any_of HT_.out (by kernel_rfl)) (fun _ _ _ h => h) (Or.inl ⟨by rfl, ?_⟩) ?_ ?_
                                                      rotate_left
                                                      · intro w'
                                                        go_simp
                                                        with_reducible rfl
                                                      rotate_left
                                                      · simp only [Act.put, List.setIfInBounds_toArray, List.set_cons_zero, List.set_cons_succ, i64_w, i32_w]
                                                        rfl
                                                      refine pure_ (i := 5) (N := some 208) (v := ?_) (a' := ?_) #[true, false, true, false, false, true, false, false, false, false] rfl rfl (any_of HT_.out (by kernel_rfl)) (fun _ _ _ h => h) (Or.inl ⟨by rfl, ?_⟩) ?_ ?_
                                                      rotate_left
                                                      · intro w'
                                                        go_simp
                                                        with_reducible rfl
                                                      rotate_left
                                                      · simp only [Act.put, List.setIfInBounds_toArray, List.set_cons_zero, List.set_cons_succ, i64_w, i32_w]
                                                        rfl
                                                      refine pure_ (i := 6) (N := some 209) (v := ?_) (a' := ?_) #[true, false, true, false, false, true, true, false, false, false] rfl rfl (any_of HT_.out (by kernel_rfl)) (fun _ _ _ h => h) (Or.inl ⟨by rfl, ?_⟩) ?_ ?_
                                                      rotate_left
                                                      · intro w'
                                                        go_simp
                                                        with_reducible rfl
                                                      rotate_left
                                                      · simp only [Act.put, List.setIfInBounds_toArray, List.set_cons_zero, List.set_cons_succ, i64_w, i32_w]
                                                        rfl
                                                      refine pure_ (i := 7) (N := some 210) (v := ?_) (a' := ?_) #[true, false, true, false, false, true, true, true, false, false] rfl rfl (any_of HT_.out (by kernel_rfl)) (fun _ _ _ h => h) (Or.inl ⟨by rfl, ?_⟩) ?_ ?_
                                                      rotate_left
                                                      · intro w'
                                                        go_simp
                                                        with_reducible rfl
                                                      rotate_left
                                                      · simp only [Act.put, List.setIfInBounds_toArray, List.set_cons_zero, List.set_cons_succ, i64_w, i32_w]
                                                        rfl
                                                      refine take_ (i := 1) (N := some 204) (v := ?_) (a' := ?_) #[true, true, true, false, false, true, true, true, false, false] rfl rfl (take_ofW HT_.out HW_.out (by kernel_rfl)) (fun _ _ _ h => h) (Or.inl ⟨by rfl, ?_⟩) hHeld ?_ ?_
                                                      rotate_left
                                                      · rintro w' ⟨s0, s1, s2, s3⟩
                                                        go_simp
                                                        with_reducible rfl
                                                      rotate_left
                                                      · simp only [Act.put, List.setIfInBounds_toArray, List.set_cons_zero, List.set_cons_succ, i64_w, i32_w]
                                                        rfl
                                                      refine pure_ (i := 3) (N := some 206) (v := ?_) (a' := ?_) #[true, true, true, true, false, true, true, true, false, false] rfl rfl (any_of HT_.out (by kernel_rfl)) (fun _ _ _ h => h) (Or.inl ⟨by rfl, ?_⟩) ?_ ?_
                                                      rotate_left
                                                      · intro w'
                                                        go_simp
                                                        with_reducible rfl
                                                      rotate_left
                                                      · simp only [Act.put, List.setIfInBounds_toArray, List.set_cons_zero, List.set_cons_succ, i64_w, i32_w]
                                                        rfl
                                                      refine take_ (i := 4) (N := some 207) (v := ?_) (a' := ?_) #[true, true, true, true, true, true, true, true, false, false] rfl rfl (take_ofW HT_.out HW_.out (by kernel_rfl)) (fun _ _ _ h => h) (Or.inl ⟨by rfl, ?_⟩) hHeld ?_ ?_
                                                      rotate_left
                                                      · rintro w' ⟨s0, s1, s2, s3⟩
                                                        go_simp
                                                        with_reducible rfl
                                                      rotate_left
                                                      · simp only [Act.put, List.setIfInBounds_toArray, List.set_cons_zero, List.set_cons_succ, i64_w, i32_w]
                                                        rfl
                                                      refine take_ (i := 8) (N := some 211) (v := ?_) (a' := ?_) #[true, true, true, true, true, true, true, true, true, false] rfl rfl (take_ofW HT_.out HW_.out (by kernel_rfl)) (fun _ _ _ h => h) (Or.inl ⟨by rfl, ?_⟩) hHeld ?_ ?_
                                                      rotate_left
                                                      · rintro w' ⟨s0, s1, s2, s3⟩
                                                        go_simp
                                                        with_reducible rfl
                                                      rotate_left
                                                      · simp only [Act.put, List.setIfInBounds_toArray, List.set_cons_zero, List.set_cons_succ, i64_w, i32_w]
                                                        rfl
                                                      refine pure_ (i := 9) (N := some 212) (v := ?_) (a' := ?_) #[true, true, true, true, true, true, true, true, true, true] rfl rfl (any_of HT_.out (by kernel_rfl)) (fun _ _ _ h => h) (Or.inl ⟨by rfl, ?_⟩) ?_ ?_
                                                      rotate_left
                                                      · intro w'
                                                        go_simp
                                                        with_reducible rfl
                                                      rotate_left
                                                      · simp only [Act.put, List.setIfInBounds_toArray, List.set_cons_zero, List.set_cons_succ, i64_w, i32_w]
                                                        rfl
                                                      refine done_ (done_of HT_.out (by kernel_rfl)) ?_
                                                      try go_wp2
                                                      go_roundg k7
                                                      case measure => have := HJ7.out; have := HJ17.out; have := HJ58.out; have := HJ71.out; have := HJ84.out; have := HJ98.out; have := HK7.out; omega
                                                      case rel => exact ⟨(wrap64 (x20_7 + 1)), (by first | rfl | (simp; done) | (simp [*]; done)), H', ⟨by have := HJ7.out; have := HJ17.out; have := HJ58.out; have := HJ71.out; have := HJ84.out; have := HJ98.out; have := HK7.out; omega⟩, ⟨by (with_reducible repeat (first | apply Kd.R_alloc | apply Kd.R_drewN | apply Kd.R_drew)); exact HO_19.out⟩, ⟨by (with_reducible repeat (first | apply Kd.R_alloc | apply Kd.R_drewN | apply Kd.R_drew)); exact HO_531001.out⟩, ⟨by (with_reducible repeat (first | refine blk_drewN ?_ _ | refine blk_drew ?_ | refine blk_alloc ?_ _)); exact BK486.out⟩, ⟨by (with_reducible repeat (first | refine blk_drewN ?_ _ | refine blk_drew ?_ | refine blk_alloc ?_ _)); exact BK530.out⟩, ⟨by repeat (first | (with_reducible first | exact HB.out | apply below_alloc | apply pw_below_drewN | apply below_drew1 | refine below_set ?_ GE486.out | refine below_set ?_ GE530.out) | exact HB.out)⟩⟩
                                                    · rw [if_neg c112] at H
                                                      exact absurd H (by simp)
                                                  · rw [if_neg c111] at H
                                                    exact absurd H (by simp)
                                                · rw [if_neg c110] at H
                                                  exact absurd H (by simp)
                                              · rw [if_neg c109] at H
                                                have c109b0 : decide (x20_7 < (t532.length : Int)) = false := decide_eq_false c109
                                                clear c109
                                                obtain rfl := Option.some.inj H
                                                obtain ⟨Ao115, co115, eo115⟩ := Kd.R_slice HO_19.out
                                                subst eo115
                                                go_wp2
                                                go_ret
                                                exact ⟨by first | rfl | (simp [errW_none, errW_some] <;> rfl) | (simp [*, errW_none, errW_some] <;> rfl), by repeat (first | (with_reducible first | exact HB.out | apply below_alloc | apply pw_below_drewN | apply below_drew1 | refine below_set ?_ GE486.out | refine below_set ?_ GE530.out) | exact HB.out)⟩
                    · replace c57 := Bool.eq_false_iff.mpr c57
                      subst c57
                      have H1 : (none) = some r := by rw [if_neg (show ¬ (false = true) by decide)] at H; exact H
                      clear H
                      have H := H1
                      clear H1
                      exact absurd H (by simp)
                  · rw [if_neg c53] at H
                    exact absurd H (by simp)
          · rw [if_neg c16] at H
            exact absurd H (by simp)
  · replace c7 := Bool.eq_false_iff.mpr c7
    subst c7
    have H1 : (none) = some r := by rw [if_neg (show ¬ (false = true) by decide)] at H; exact H
    clear H
    have H := H1
    clear H1
    exact absurd H (by simp)

/-- THE ONE PURE STATEMENT of madrigallaw6_LsfSays. -/
def madrigallaw6_LsfSays.Pure : Prop := ∀ (a0 : Int) (a1_0 : Int) (l1_1 : List Int) (l2 : List Int) (l3 : List Int) (a4 : Int), (Lit.int .i64 a0).wf = true → (Lit.int .i64 a1_0).wf = true → l1_1.length ≤ maxLen → (∀ x ∈ l1_1, (Lit.int .i64 x).wf = true) → l2.length ≤ maxLen → l2.length * 8 ≤ 140737488351232 → (∀ x ∈ l2, (Lit.int .i64 x).wf = true) → l3.length ≤ maxLen → l3.length * 8 ≤ 140737488351232 → (∀ x ∈ l3, (Lit.int .i64 x).wf = true) → (Lit.int .i64 a4).wf = true → ∃ k, madrigallaw6_LsfSays.f k a0 a1_0 l1_1 l2 l3 a4 = some true
theorem madrigallaw6_LsfSays.walk (P : madrigallaw6_LsfSays.Pure) (a0 : Int) (a1_0 : Int) (a1 : Option Addr) (len1 cap1 : Nat) (z1 : List Int) (a2 : Option Addr) (len2 cap2 : Nat) (z2 : List Int) (a3 : Option Addr) (len3 cap3 : Nat) (z3 : List Int) (a4 : Int) (w : World) (w0 : (Lit.int .i64 a0).wf = true) (v1 : (Lit.int .i64 a1_0).wf = true) (w1 : (a1 = none ∧ len1 = 0 ∧ cap1 = 0 ∧ z1 = []) ∨ ∃ x, a1 = some x ∧ len1 ≤ cap1 ∧ cap1 ≤ maxLen ∧ z1.length = cap1 ∧ (∀ i, i < z1.length → w.cell? (x.add i) = some (.int .i64 (z1.getD i 0))) ∧ ∀ n ∈ z1, (Lit.int .i64 n).wf = true) (w2 : (a2 = none ∧ len2 = 0 ∧ cap2 = 0 ∧ z2 = []) ∨ ∃ x, a2 = some x ∧ len2 ≤ cap2 ∧ cap2 ≤ maxLen ∧ z2.length = cap2 ∧ (∀ i, i < z2.length → w.cell? (x.add i) = some (.int .i64 (z2.getD i 0))) ∧ ∀ n ∈ z2, (Lit.int .i64 n).wf = true) (y2 : len2 * 8 ≤ 140737488351232) (w3 : (a3 = none ∧ len3 = 0 ∧ cap3 = 0 ∧ z3 = []) ∨ ∃ x, a3 = some x ∧ len3 ≤ cap3 ∧ cap3 ≤ maxLen ∧ z3.length = cap3 ∧ (∀ i, i < z3.length → w.cell? (x.add i) = some (.int .i64 (z3.getD i 0))) ∧ ∀ n ∈ z3, (Lit.int .i64 n).wf = true) (y3 : len3 * 8 ≤ 140737488351232) (w4 : (Lit.int .i64 a4).wf = true) :
    Calls Try.prog 8 #[.int .i64 a0, .agg #[.int .i64 a1_0, .slice a1 len1 cap1], .slice a2 len2 cap2, .slice a3 len3 cap3, .int .i64 a4] w fun e w' => e = .returned (.bool true) ∧ Below w.heap.size w w' := by
  obtain ⟨l1, rfl, hr1, hm1, hw1, hc1⟩ := ReadsInt.ofRowC w1
  obtain ⟨l2, rfl, hr2, hm2, hw2, hc2⟩ := ReadsInt.ofRowC w2
  obtain ⟨l3, rfl, hr3, hm3, hw3, hc3⟩ := ReadsInt.ofRowC w3
  obtain ⟨k, h⟩ := P a0 a1_0 l1 l2 l3 a4 w0 v1 hm1 hw1 hm2 y2 hw2 hm3 y3 hw3 w4
  refine (madrigallaw6_LsfSays.calls k a0 a1_0 _ _ l1 _ _ l2 _ _ l3 a4 true w (Kd.C_of_reads (d := (0 : Int)) (h1 := fun _ => rfl) hr1) hc1 (Kd.C_of_reads (d := (0 : Int)) (h1 := fun _ => rfl) hr2) hc2 (Kd.C_of_reads (d := (0 : Int)) (h1 := fun _ => rfl) hr3) hc3 h).mono ?_
  rintro e w' ⟨rfl, hd⟩
  exact ⟨rfl, hd⟩

end Go.Proofs.Ytdchabinakboeaa.P
