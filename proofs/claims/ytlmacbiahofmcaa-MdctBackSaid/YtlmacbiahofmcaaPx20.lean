/- The machine side of the laws of one chapter, without conditions: each call of a Go function comes to what the Lean function of its name answers. Written for this claim by a program of the prover. -/
import Derived.Test.YtlmacbiahofmcaaPx0
import Derived.Test.YtlmacbiahofmcaaPx1
import Derived.Test.YtlmacbiahofmcaaPx8
import Derived.Test.YtlmacbiahofmcaaPx10
import Derived.Test.YtlmacbiahofmcaaPx12
import Derived.Test.YtlmacbiahofmcaaPx13
import Derived.Test.YtlmacbiahofmcaaPx14
import Derived.Test.YtlmacbiahofmcaaPx15
import Derived.Test.YtlmacbiahofmcaaPx16
import Derived.Test.YtlmacbiahofmcaaPx18
import Derived.Test.YtlmacbiahofmcaaPx19
namespace Go.Proofs.Ytlmacbiahofmcaa.P
open Go.RowKit Go.Proofs.YtlmacbiahofmcaaW.PrintWords Go.Proofs.YtlmacbiahofmcaaW.PrintLast Go.Proofs.YtlmacbiahofmcaaW.PrintMore
attribute [local go_sem] max2_int min2_int max_two min_two max_three min_three max_four min_four   -- for this text's walks alone
set_option linter.unusedVariables false
set_option linter.unusedSimpArgs false

/-! ### madrigallaw15_awake: function 9 -/
def madrigallaw15_awake.f (k : Nat)  : Option (Bool):=(mdct_Shape.f k 4 2).bind fun bt215 => (if 8 ≤ 35184372088832 then ((mdct_Forward.f k (List.replicate 8 0) 2).bind fun bt222 => ((mdct_Inverse.f k (([1000,0,0,0] : List Int)) 2).bind fun bt229 => (if mdct_Good.f 4 2 = some true then ((mdct_New1.f 4 2).bind fun bt233 => ((mdct_Joiner_Next.f k bt233.1 bt233.2.1 bt233.2.2.1 (([1000,0,0,0] : List Int))).bind fun bt241 => ((mdct_Joiner_Copy.f bt241.2.2.1 bt241.2.2.2.1 bt241.2.2.2.2).bind fun bt248 => ((mdct_Joiner_Reset.f bt241.2.2.1 bt241.2.2.2.1 bt241.2.2.2.2).bind fun bt252 => ((mdct_Good.f 80 20).bind fun t255 => (if t255 = true then ((mdct_Good.f 80 21).bind fun t256 => (if t256 = true then (none) else (if bt215.2 = 0 then (if (bt215.1.length : Int) = 8 then (if 3 < (bt215.1.length : Int) then (if (rd bt215.1 3) = 32768 then (if bt222.2 = 0 then (if 4 ≤ 35184372088832 then ((madrigallaw15_same.f k bt222.1 (List.replicate 4 0)).bind fun t261 => (if t261 = true then (if bt229.2 = 0 then (if (bt229.1.length : Int) = 8 then (if 3 < (bt229.1.length : Int) then (if (rd bt229.1 3) = 0 then (none) else (if bt241.2.1 = 0 then (if (bt241.1.length : Int) = 4 then ((mdct_Joiner_Same.f k bt248.1 bt248.2.1 bt248.2.2 bt252.1 bt252.2.1 bt252.2.2).bind fun t263 => (some (!t263))) else (none)) else (none))) else (none)) else (none)) else (none)) else (none))) else (none)) else (none)) else (none)) else (none)) else (none)) else (none)))) else (none))))))) else ((mdct_New0.f 4 2).bind fun t265 => (none))))) else (none))
theorem madrigallaw15_awake.mono : ∀ k,LeO (madrigallaw15_awake.f k ) (madrigallaw15_awake.f (k + 1) ):=by
 intro  k
 unfold madrigallaw15_awake.f
 repeat' first|(with_reducible first|exact madrigallaw15_same.mono _ _ _|exact mdct_Forward.mono _ _ _|exact mdct_Inverse.mono _ _ _|exact mdct_Joiner_Next.mono _ _ _ _ _|exact mdct_Joiner_Same.mono _ _ _ _ _ _ _|exact mdct_Shape.mono _ _ _|exact LeO.refl _|exact LeO.none _|refine LeO.ite ?_ ?_|refine LeO.bind ?_ (fun _ => ?_))|exact madrigallaw15_same.mono _ _ _|exact mdct_Forward.mono _ _ _|exact mdct_Inverse.mono _ _ _|exact mdct_Joiner_Next.mono _ _ _ _ _|exact mdct_Joiner_Same.mono _ _ _ _ _ _ _|exact mdct_Shape.mono _ _ _|exact LeO.none _|refine LeO.ite ?_ ?_|refine LeO.bind ?_ (fun _ => ?_)
set_option maxHeartbeats 8000000 in
set_option maxRecDepth 100000 in
theorem madrigallaw15_awake.calls (k : Nat)  (r : Bool) (w : World) (h : madrigallaw15_awake.f k  = some r) :
  Calls Try.prog 9 #[] w fun e w' => e = .returned (.bool r) ∧ Below w.heap.size w w':=by
 have HB:=ak_ (Below.refl w.heap.size w)
 have H : ((mdct_Shape.f k 4 2).bind fun bt215 => (if 8 ≤ 35184372088832 then ((mdct_Forward.f k (List.replicate 8 0) 2).bind fun bt222 => ((mdct_Inverse.f k (([1000,0,0,0] : List Int)) 2).bind fun bt229 => (if mdct_Good.f 4 2 = some true then ((mdct_New1.f 4 2).bind fun bt233 => ((mdct_Joiner_Next.f k bt233.1 bt233.2.1 bt233.2.2.1 (([1000,0,0,0] : List Int))).bind fun bt241 => ((mdct_Joiner_Copy.f bt241.2.2.1 bt241.2.2.2.1 bt241.2.2.2.2).bind fun bt248 => ((mdct_Joiner_Reset.f bt241.2.2.1 bt241.2.2.2.1 bt241.2.2.2.2).bind fun bt252 => ((mdct_Good.f 80 20).bind fun t255 => (if t255 = true then ((mdct_Good.f 80 21).bind fun t256 => (if t256 = true then (none) else (if bt215.2 = 0 then (if (bt215.1.length : Int) = 8 then (if 3 < (bt215.1.length : Int) then (if (rd bt215.1 3) = 32768 then (if bt222.2 = 0 then (if 4 ≤ 35184372088832 then ((madrigallaw15_same.f k bt222.1 (List.replicate 4 0)).bind fun t261 => (if t261 = true then (if bt229.2 = 0 then (if (bt229.1.length : Int) = 8 then (if 3 < (bt229.1.length : Int) then (if (rd bt229.1 3) = 0 then (none) else (if bt241.2.1 = 0 then (if (bt241.1.length : Int) = 4 then ((mdct_Joiner_Same.f k bt248.1 bt248.2.1 bt248.2.2 bt252.1 bt252.2.1 bt252.2.2).bind fun t263 => (some (!t263))) else (none)) else (none))) else (none)) else (none)) else (none)) else (none))) else (none)) else (none)) else (none)) else (none)) else (none)) else (none)))) else (none))))))) else ((mdct_New0.f 4 2).bind fun t265 => (none))))) else (none))) = some r:=h
 clear h
 replace H:=Option.bind_eq_some_iff.mp H
 obtain ⟨⟨t215,t216⟩,A10,H⟩:=H
 (try dsimp only at H)
 have A1:=ak_ A10
 clear A10
 by_cases c2 : 8 ≤ 35184372088832
 ·rw [if_pos c2] at H
  have c2b0:=eq_true c2
  have c2b1 : decide (8 ≤ 35184372088832) = true:=decide_eq_true c2
  clear c2
  obtain ⟨y219,hy219⟩ : ∃ y_ : List Int,y_ = (List.replicate 8 0):=⟨_,rfl⟩
  replace H : ((mdct_Forward.f k y219 2).bind fun bt222 => ((mdct_Inverse.f k (([1000,0,0,0] : List Int)) 2).bind fun bt229 => (if mdct_Good.f 4 2 = some true then ((mdct_New1.f 4 2).bind fun bt233 => ((mdct_Joiner_Next.f k bt233.1 bt233.2.1 bt233.2.2.1 (([1000,0,0,0] : List Int))).bind fun bt241 => ((mdct_Joiner_Copy.f bt241.2.2.1 bt241.2.2.2.1 bt241.2.2.2.2).bind fun bt248 => ((mdct_Joiner_Reset.f bt241.2.2.1 bt241.2.2.2.1 bt241.2.2.2.2).bind fun bt252 => ((mdct_Good.f 80 20).bind fun t255 => (if t255 = true then ((mdct_Good.f 80 21).bind fun t256 => (if t256 = true then (none) else (if t216 = 0 then (if (t215.length : Int) = 8 then (if 3 < (t215.length : Int) then (if (rd t215 3) = 32768 then (if bt222.2 = 0 then (if 4 ≤ 35184372088832 then ((madrigallaw15_same.f k bt222.1 (List.replicate 4 0)).bind fun t261 => (if t261 = true then (if bt229.2 = 0 then (if (bt229.1.length : Int) = 8 then (if 3 < (bt229.1.length : Int) then (if (rd bt229.1 3) = 0 then (none) else (if bt241.2.1 = 0 then (if (bt241.1.length : Int) = 4 then ((mdct_Joiner_Same.f k bt248.1 bt248.2.1 bt248.2.2 bt252.1 bt252.2.1 bt252.2.2).bind fun t263 => (some (!t263))) else (none)) else (none))) else (none)) else (none)) else (none)) else (none))) else (none)) else (none)) else (none)) else (none)) else (none)) else (none)))) else (none))))))) else ((mdct_New0.f 4 2).bind fun t265 => (none))))) = some r:=by first|(rw [hy219];with_reducible exact H)|(have H2_:=(Option.bind_some _ _).symm.trans H;rw [hy219];with_reducible exact H2_)|(have H2_:=(Option.bind_some _ _).symm.trans H;with_reducible exact H2_)|with_reducible exact H|(rw [hy219];exact H)|exact H
  have Ny219:=ak_ hy219
  clear hy219
  replace H:=Option.bind_eq_some_iff.mp H
  obtain ⟨⟨t222,t223⟩,A30,H⟩:=H
  (try dsimp only at H)
  have A3:=ak_ A30
  clear A30
  obtain ⟨y226,hy226⟩ : ∃ y_ : List Int,y_ = (([1000,0,0,0] : List Int)):=⟨_,rfl⟩
  replace H : ((mdct_Inverse.f k y226 2).bind fun bt229 => (if mdct_Good.f 4 2 = some true then ((mdct_New1.f 4 2).bind fun bt233 => ((mdct_Joiner_Next.f k bt233.1 bt233.2.1 bt233.2.2.1 (([1000,0,0,0] : List Int))).bind fun bt241 => ((mdct_Joiner_Copy.f bt241.2.2.1 bt241.2.2.2.1 bt241.2.2.2.2).bind fun bt248 => ((mdct_Joiner_Reset.f bt241.2.2.1 bt241.2.2.2.1 bt241.2.2.2.2).bind fun bt252 => ((mdct_Good.f 80 20).bind fun t255 => (if t255 = true then ((mdct_Good.f 80 21).bind fun t256 => (if t256 = true then (none) else (if t216 = 0 then (if (t215.length : Int) = 8 then (if 3 < (t215.length : Int) then (if (rd t215 3) = 32768 then (if t223 = 0 then (if 4 ≤ 35184372088832 then ((madrigallaw15_same.f k t222 (List.replicate 4 0)).bind fun t261 => (if t261 = true then (if bt229.2 = 0 then (if (bt229.1.length : Int) = 8 then (if 3 < (bt229.1.length : Int) then (if (rd bt229.1 3) = 0 then (none) else (if bt241.2.1 = 0 then (if (bt241.1.length : Int) = 4 then ((mdct_Joiner_Same.f k bt248.1 bt248.2.1 bt248.2.2 bt252.1 bt252.2.1 bt252.2.2).bind fun t263 => (some (!t263))) else (none)) else (none))) else (none)) else (none)) else (none)) else (none))) else (none)) else (none)) else (none)) else (none)) else (none)) else (none)))) else (none))))))) else ((mdct_New0.f 4 2).bind fun t265 => (none)))) = some r:=by first|(rw [hy226];with_reducible exact H)|(have H2_:=(Option.bind_some _ _).symm.trans H;rw [hy226];with_reducible exact H2_)|(have H2_:=(Option.bind_some _ _).symm.trans H;with_reducible exact H2_)|with_reducible exact H|(rw [hy226];exact H)|exact H
  have Ny226:=ak_ hy226
  clear hy226
  replace H:=Option.bind_eq_some_iff.mp H
  obtain ⟨⟨t229,t230⟩,A40,H⟩:=H
  (try dsimp only at H)
  have A4:=ak_ A40
  clear A40
  by_cases c5 : mdct_Good.f 4 2 = some true
  ·rw [if_pos c5] at H
   have c5b0 : (mdct_Good.f 4 2 == some true) = true:=beq_iff_eq.mpr c5
   have c5b1 : (mdct_Good.f 4 2 != some true) = false:=bne_eq_false_iff_eq.mpr c5
   clear c5
   replace H:=Option.bind_eq_some_iff.mp H
   obtain ⟨⟨t233,t234,t235,t237⟩,A60,H⟩:=H
   (try dsimp only at H)
   have A6:=ak_ A60
   clear A60
   obtain ⟨y238,hy238⟩ : ∃ y_ : List Int,y_ = (([1000,0,0,0] : List Int)):=⟨_,rfl⟩
   replace H : ((mdct_Joiner_Next.f k t233 t234 t235 y238).bind fun bt241 => ((mdct_Joiner_Copy.f bt241.2.2.1 bt241.2.2.2.1 bt241.2.2.2.2).bind fun bt248 => ((mdct_Joiner_Reset.f bt241.2.2.1 bt241.2.2.2.1 bt241.2.2.2.2).bind fun bt252 => ((mdct_Good.f 80 20).bind fun t255 => (if t255 = true then ((mdct_Good.f 80 21).bind fun t256 => (if t256 = true then (none) else (if t216 = 0 then (if (t215.length : Int) = 8 then (if 3 < (t215.length : Int) then (if (rd t215 3) = 32768 then (if t223 = 0 then (if 4 ≤ 35184372088832 then ((madrigallaw15_same.f k t222 (List.replicate 4 0)).bind fun t261 => (if t261 = true then (if t230 = 0 then (if (t229.length : Int) = 8 then (if 3 < (t229.length : Int) then (if (rd t229 3) = 0 then (none) else (if bt241.2.1 = 0 then (if (bt241.1.length : Int) = 4 then ((mdct_Joiner_Same.f k bt248.1 bt248.2.1 bt248.2.2 bt252.1 bt252.2.1 bt252.2.2).bind fun t263 => (some (!t263))) else (none)) else (none))) else (none)) else (none)) else (none)) else (none))) else (none)) else (none)) else (none)) else (none)) else (none)) else (none)))) else (none)))))) = some r:=by first|(rw [hy238];with_reducible exact H)|(have H2_:=(Option.bind_some _ _).symm.trans H;rw [hy238];with_reducible exact H2_)|(have H2_:=(Option.bind_some _ _).symm.trans H;with_reducible exact H2_)|with_reducible exact H|(rw [hy238];exact H)|exact H
   have Ny238:=ak_ hy238
   clear hy238
   replace H:=Option.bind_eq_some_iff.mp H
   obtain ⟨⟨t241,t244,t245,t246,t247⟩,A70,H⟩:=H
   (try dsimp only at H)
   have A7:=ak_ A70
   clear A70
   replace H:=Option.bind_eq_some_iff.mp H
   obtain ⟨⟨t248,t249,t250⟩,A80,H⟩:=H
   (try dsimp only at H)
   have A8:=ak_ A80
   clear A80
   replace H:=Option.bind_eq_some_iff.mp H
   obtain ⟨⟨t252,t253,t254⟩,A90,H⟩:=H
   (try dsimp only at H)
   have A9:=ak_ A90
   clear A90
   replace H:=Option.bind_eq_some_iff.mp H
   obtain ⟨t255,A100,H⟩:=H
   (try dsimp only at H)
   have A10:=ak_ A100
   clear A100
   by_cases c11 : t255 = true
   ·subst c11
    have H1 : ((mdct_Good.f 80 21).bind fun t256 => (if t256 = true then (none) else (if t216 = 0 then (if (t215.length : Int) = 8 then (if 3 < (t215.length : Int) then (if (rd t215 3) = 32768 then (if t223 = 0 then (if 4 ≤ 35184372088832 then ((madrigallaw15_same.f k t222 (List.replicate 4 0)).bind fun t261 => (if t261 = true then (if t230 = 0 then (if (t229.length : Int) = 8 then (if 3 < (t229.length : Int) then (if (rd t229 3) = 0 then (none) else (if t244 = 0 then (if (t241.length : Int) = 4 then ((mdct_Joiner_Same.f k t248 t249 t250 t252 t253 t254).bind fun t263 => (some (!t263))) else (none)) else (none))) else (none)) else (none)) else (none)) else (none))) else (none)) else (none)) else (none)) else (none)) else (none)) else (none)))) = some r:=by rw [if_pos rfl] at H;exact H
    clear H
    have H:=H1
    clear H1
    replace H:=Option.bind_eq_some_iff.mp H
    obtain ⟨t256,A120,H⟩:=H
    (try dsimp only at H)
    have A12:=ak_ A120
    clear A120
    by_cases c13 : t256 = true
    ·subst c13
     have H1 : (none) = some r:=by rw [if_pos rfl] at H;exact H
     clear H
     have H:=H1
     clear H1
     exact absurd H (by simp)
    ·replace c13:=Bool.eq_false_iff.mpr c13
     subst c13
     have H1 : (if t216 = 0 then (if (t215.length : Int) = 8 then (if 3 < (t215.length : Int) then (if (rd t215 3) = 32768 then (if t223 = 0 then (if 4 ≤ 35184372088832 then ((madrigallaw15_same.f k t222 (List.replicate 4 0)).bind fun t261 => (if t261 = true then (if t230 = 0 then (if (t229.length : Int) = 8 then (if 3 < (t229.length : Int) then (if (rd t229 3) = 0 then (none) else (if t244 = 0 then (if (t241.length : Int) = 4 then ((mdct_Joiner_Same.f k t248 t249 t250 t252 t253 t254).bind fun t263 => (some (!t263))) else (none)) else (none))) else (none)) else (none)) else (none)) else (none))) else (none)) else (none)) else (none)) else (none)) else (none)) else (none)) = some r:=by rw [if_neg (show ¬ (false = true) by decide)] at H;exact H
     clear H
     have H:=H1
     clear H1
     by_cases c14 : t216 = 0
     ·rw [if_pos c14] at H
      have c14b0 : (t216 == 0) = true:=beq_iff_eq.mpr c14
      have c14b1 : (t216 != 0) = false:=bne_eq_false_iff_eq.mpr c14
      clear c14
      by_cases c15 : (t215.length : Int) = 8
      ·rw [if_pos c15] at H
       have c15b0 : ((t215.length : Int) == 8) = true:=beq_iff_eq.mpr c15
       have c15b1 : ((t215.length : Int) != 8) = false:=bne_eq_false_iff_eq.mpr c15
       clear c15
       by_cases c16 : 3 < (t215.length : Int)
       ·rw [if_pos c16] at H
        have c16b0:=decide_eq_true c16
        have c16b1 : decide (3 < t215.length) = true:=decide_eq_true (by omega)
        clear c16
        by_cases c17 : (rd t215 3) = 32768
        ·rw [if_pos c17] at H
         have c17b0 : ((rd t215 3) == 32768) = true:=beq_iff_eq.mpr c17
         have c17b1 : ((rd t215 3) != 32768) = false:=bne_eq_false_iff_eq.mpr c17
         clear c17
         by_cases c18 : t223 = 0
         ·rw [if_pos c18] at H
          have c18b0 : (t223 == 0) = true:=beq_iff_eq.mpr c18
          have c18b1 : (t223 != 0) = false:=bne_eq_false_iff_eq.mpr c18
          clear c18
          by_cases c19 : 4 ≤ 35184372088832
          ·rw [if_pos c19] at H
           have c19b0:=eq_true c19
           have c19b1 : decide (4 ≤ 35184372088832) = true:=decide_eq_true c19
           clear c19
           obtain ⟨y258,hy258⟩ : ∃ y_ : List Int,y_ = (List.replicate 4 0):=⟨_,rfl⟩
           replace H : ((madrigallaw15_same.f k t222 y258).bind fun t261 => (if t261 = true then (if t230 = 0 then (if (t229.length : Int) = 8 then (if 3 < (t229.length : Int) then (if (rd t229 3) = 0 then (none) else (if t244 = 0 then (if (t241.length : Int) = 4 then ((mdct_Joiner_Same.f k t248 t249 t250 t252 t253 t254).bind fun t263 => (some (!t263))) else (none)) else (none))) else (none)) else (none)) else (none)) else (none))) = some r:=by first|(rw [hy258];with_reducible exact H)|(have H2_:=(Option.bind_some _ _).symm.trans H;rw [hy258];with_reducible exact H2_)|(have H2_:=(Option.bind_some _ _).symm.trans H;with_reducible exact H2_)|with_reducible exact H|(rw [hy258];exact H)|exact H
           have Ny258:=ak_ hy258
           clear hy258
           replace H:=Option.bind_eq_some_iff.mp H
           obtain ⟨t261,A200,H⟩:=H
           (try dsimp only at H)
           have A20:=ak_ A200
           clear A200
           by_cases c21 : t261 = true
           ·subst c21
            have H1 : (if t230 = 0 then (if (t229.length : Int) = 8 then (if 3 < (t229.length : Int) then (if (rd t229 3) = 0 then (none) else (if t244 = 0 then (if (t241.length : Int) = 4 then ((mdct_Joiner_Same.f k t248 t249 t250 t252 t253 t254).bind fun t263 => (some (!t263))) else (none)) else (none))) else (none)) else (none)) else (none)) = some r:=by rw [if_pos rfl] at H;exact H
            clear H
            have H:=H1
            clear H1
            by_cases c22 : t230 = 0
            ·rw [if_pos c22] at H
             have c22b0 : (t230 == 0) = true:=beq_iff_eq.mpr c22
             have c22b1 : (t230 != 0) = false:=bne_eq_false_iff_eq.mpr c22
             clear c22
             by_cases c23 : (t229.length : Int) = 8
             ·rw [if_pos c23] at H
              have c23b0 : ((t229.length : Int) == 8) = true:=beq_iff_eq.mpr c23
              have c23b1 : ((t229.length : Int) != 8) = false:=bne_eq_false_iff_eq.mpr c23
              clear c23
              by_cases c24 : 3 < (t229.length : Int)
              ·rw [if_pos c24] at H
               have c24b0:=decide_eq_true c24
               have c24b1 : decide (3 < t229.length) = true:=decide_eq_true (by omega)
               clear c24
               by_cases c25 : (rd t229 3) = 0
               ·rw [if_pos c25] at H
                exact absurd H (by simp)
               ·rw [if_neg c25] at H
                have c25b0 : ((rd t229 3) == 0) = false:=beq_eq_false_iff_ne.mpr c25
                have c25b1 : ((rd t229 3) != 0) = true:=bne_iff_ne.mpr c25
                by_cases c26 : t244 = 0
                ·rw [if_pos c26] at H
                 have c26b0 : (t244 == 0) = true:=beq_iff_eq.mpr c26
                 have c26b1 : (t244 != 0) = false:=bne_eq_false_iff_eq.mpr c26
                 clear c26
                 by_cases c27 : (t241.length : Int) = 4
                 ·rw [if_pos c27] at H
                  have c27b0 : ((t241.length : Int) == 4) = true:=beq_iff_eq.mpr c27
                  have c27b1 : ((t241.length : Int) != 4) = false:=bne_eq_false_iff_eq.mpr c27
                  clear c27
                  replace H:=Option.bind_eq_some_iff.mp H
                  obtain ⟨t263,A280,H⟩:=H
                  (try dsimp only at H)
                  have A28:=ak_ A280
                  clear A280
                  obtain rfl:=Option.some.inj H
                  go_enter Try.func9,Try.ntmps9
                  go_wp2_with (first|((with_reducible refine gate_callee (f:=10) rfl ?_);refine goesL_ (some 13) rfl rfl Try.func10 (by kernel_rfl) rfl #[.int .i64 4,.int .i64 2] rfl (by (try simp only [List.map_toArray,List.map_cons,List.map_nil]);first|done|rfl|(simp only [List.length_drop,List.length_take];rfl)) ?_;(with_reducible refine (mdct_Shape.calls k 4 2 t215 t216 _ A1.out).mono ?_);rintro e w29 ⟨v217,rfl,ho0,hb⟩;refine ⟨_,rfl,?_⟩;have n0_:=ak_ (Kd.R_lower ho0 (below_size (by repeat (first|(with_reducible first|exact HB.out|apply ba_|apply bb_|apply bc_)|exact HB.out))));have n1_:=ak_ (below_step (by repeat (first|(with_reducible first|exact HB.out|apply ba_|apply bb_|apply bc_)|exact HB.out)) hb);clear HB;have HO218:=n0_;have HB:=n1_;clear n0_ n1_;(try clear hb);(try clear ho0))|((with_reducible refine gate_dst (N:=17) rfl ?_);(try (refine gate_guard (by rfl) ?_;dsimp only));refine Kd.R_make (Kd.int .i64) _ 2 rfl (N:=17) rfl 23 _ _ rfl 8 rfl rfl Try.underlying23 (.int .i64 0) 8 info2 rfl (by decide) (by omega) 0 (ok:=fun _ => True) (okp:=fun _ => True) rfl (fun _ hk => hk) trivial (by omega) (by omega) (Below.refl _ _) (Nat.le_refl _) ?_;intro v220 w30 ho31 hb hg_ hnew_;clear hg_ hnew_;(first|rw [← Ny219.out] at ho31|(simp only [Int.reduceToNat] at ho31;rw [← Ny219.out] at ho31));have n0_:=ak_ (Kd.R_elder' (by (with_reducible repeat (first|apply ra_|apply rb_|apply rc_));exact HO218.out) (Kd.R_base ho31) hb);have n1_:=ak_ (Kd.R_lower (Kd.R_new' ho31 (Kd.R_lt (by (with_reducible repeat (first|apply ra_|apply rb_|apply rc_));exact HO218.out))) (below_size (by repeat (first|(with_reducible first|exact HB.out|apply ba_|apply bb_|apply bc_)|exact HB.out))));have n2_:=ak_ (below_step (by repeat (first|(with_reducible first|exact HB.out|apply ba_|apply bb_|apply bc_)|exact HB.out)) hb);clear HO218;clear HB;have HO218:=n0_;have HO221:=n1_;have HB:=n2_;clear n0_ n1_ n2_;clear hb ho31;obtain ⟨Ao32,co32,eo32⟩:=Kd.R_slice HO221.out;subst eo32)|((with_reducible refine gate_callee (f:=11) rfl ?_);refine goesL_ (some 18) rfl rfl Try.func11 (by kernel_rfl) rfl #[.slice Ao32 y219.length co32,.int .i64 2] rfl (by (try simp only [List.map_toArray,List.map_cons,List.map_nil]);first|done|rfl|(simp only [List.length_drop,List.length_take];rfl)) ?_;(with_reducible refine (mdct_Forward.calls k _ _ y219 2 t222 t223 _ ?side1 ?side2 A3.out).mono ?_);(case side1 => repeat (first|exact (Kd.R_reads' HO221.out).2.2|(with_reducible refine Kd.C_alloc ?_ _)|(with_reducible refine Kd.C_drewN ?_ _)|(with_reducible refine Kd.C_drew ?_)));(case side2 => exact (Kd.R_reads' HO221.out).2.1);rintro e w33 ⟨v224,rfl,ho0,hb⟩;refine ⟨_,rfl,?_⟩;have n0_:=ak_ (Kd.R_elder' (by (with_reducible repeat (first|apply ra_|apply rb_|apply rc_));exact HO218.out) (Kd.R_base ho0) hb);have n1_:=ak_ (Kd.R_elder' (by (with_reducible repeat (first|apply ra_|apply rb_|apply rc_));exact HO221.out) (Kd.R_base ho0) hb);have n2_:=ak_ (Kd.R_lower (Kd.R_new' (Kd.R_new' ho0 (Kd.R_lt (by (with_reducible repeat (first|apply ra_|apply rb_|apply rc_));exact HO218.out))) (Kd.R_lt (by (with_reducible repeat (first|apply ra_|apply rb_|apply rc_));exact HO221.out))) (below_size (by repeat (first|(with_reducible first|exact HB.out|apply ba_|apply bb_|apply bc_)|exact HB.out))));have n3_:=ak_ (below_step (by repeat (first|(with_reducible first|exact HB.out|apply ba_|apply bb_|apply bc_)|exact HB.out)) hb);clear HO218;clear HO221;clear HB;have HO218:=n0_;have HO221:=n1_;have HO225:=n2_;have HB:=n3_;clear n0_ n1_ n2_ n3_;(try clear hb);(try clear ho0))|((with_reducible refine gate_dst (N:=22) rfl ?_);(try (refine gate_guard (by rfl) ?_;dsimp only));refine Kd.R_lit (Kd.int .i64) _ 2 ?hg (N:=22) ?hd (xs:=([1000,0,0,0] : List Int)) (inner:=[.int .i64 1000,.int .i64 0,.int .i64 0,.int .i64 0]) (ok:=fun _ => True) (okp:=fun _ => True) ?hr ?hp (fun _ hk => hk) trivial (Below.refl _ _) (Nat.le_refl _) (by simp) ?_;(case hd => rfl);(case hg => rfl);(case hr => first|(go_simp;done)|(go_simp;rfl));(case hp => exact (Reps.one (show Kd.M (Kd.int .i64) _ _ _ 1000 [.int .i64 1000] from rfl) (Reps.one (show Kd.M (Kd.int .i64) _ _ _ 0 [.int .i64 0] from rfl) (Reps.one (show Kd.M (Kd.int .i64) _ _ _ 0 [.int .i64 0] from rfl) (Reps.one (show Kd.M (Kd.int .i64) _ _ _ 0 [.int .i64 0] from rfl) (Reps.none _ _))))));intro v227 w34 ho35 hb hg_ hnew_;clear hg_ hnew_;(first|rw [← Ny226.out] at ho35|(simp only [Int.reduceToNat] at ho35;rw [← Ny226.out] at ho35));have n0_:=ak_ (Kd.R_elder' (by (with_reducible repeat (first|apply ra_|apply rb_|apply rc_));exact HO218.out) (Kd.R_base ho35) hb);have n1_:=ak_ (Kd.R_elder' (by (with_reducible repeat (first|apply ra_|apply rb_|apply rc_));exact HO221.out) (Kd.R_base ho35) hb);have n2_:=ak_ (Kd.R_elder' (by (with_reducible repeat (first|apply ra_|apply rb_|apply rc_));exact HO225.out) (Kd.R_base ho35) hb);have n3_:=ak_ (Kd.R_lower (Kd.R_new' (Kd.R_new' (Kd.R_new' ho35 (Kd.R_lt (by (with_reducible repeat (first|apply ra_|apply rb_|apply rc_));exact HO218.out))) (Kd.R_lt (by (with_reducible repeat (first|apply ra_|apply rb_|apply rc_));exact HO221.out))) (Kd.R_lt (by (with_reducible repeat (first|apply ra_|apply rb_|apply rc_));exact HO225.out))) (below_size (by repeat (first|(with_reducible first|exact HB.out|apply ba_|apply bb_|apply bc_)|exact HB.out))));have n4_:=ak_ (below_step (by repeat (first|(with_reducible first|exact HB.out|apply ba_|apply bb_|apply bc_)|exact HB.out)) hb);clear HO218;clear HO221;clear HO225;clear HB;have HO218:=n0_;have HO221:=n1_;have HO225:=n2_;have HO228:=n3_;have HB:=n4_;clear n0_ n1_ n2_ n3_ n4_;clear hb ho35;obtain ⟨Ao36,co36,eo36⟩:=Kd.R_slice HO228.out;subst eo36)|((with_reducible refine gate_callee (f:=12) rfl ?_);refine goesL_ (some 23) rfl rfl Try.func12 (by kernel_rfl) rfl #[.slice Ao36 y226.length co36,.int .i64 2] rfl (by (try simp only [List.map_toArray,List.map_cons,List.map_nil]);first|done|rfl|(simp only [List.length_drop,List.length_take];rfl)) ?_;(with_reducible refine (mdct_Inverse.calls k _ _ y226 2 t229 t230 _ ?side1 ?side2 A4.out).mono ?_);(case side1 => repeat (first|exact (Kd.R_reads' HO228.out).2.2|(with_reducible refine Kd.C_alloc ?_ _)|(with_reducible refine Kd.C_drewN ?_ _)|(with_reducible refine Kd.C_drew ?_)));(case side2 => exact (Kd.R_reads' HO228.out).2.1);rintro e w37 ⟨v231,rfl,ho0,hb⟩;refine ⟨_,rfl,?_⟩;have n0_:=ak_ (Kd.R_elder' (by (with_reducible repeat (first|apply ra_|apply rb_|apply rc_));exact HO218.out) (Kd.R_base ho0) hb);have n1_:=ak_ (Kd.R_elder' (by (with_reducible repeat (first|apply ra_|apply rb_|apply rc_));exact HO221.out) (Kd.R_base ho0) hb);have n2_:=ak_ (Kd.R_elder' (by (with_reducible repeat (first|apply ra_|apply rb_|apply rc_));exact HO225.out) (Kd.R_base ho0) hb);have n3_:=ak_ (Kd.R_elder' (by (with_reducible repeat (first|apply ra_|apply rb_|apply rc_));exact HO228.out) (Kd.R_base ho0) hb);have n4_:=ak_ (Kd.R_lower (Kd.R_new' (Kd.R_new' (Kd.R_new' (Kd.R_new' ho0 (Kd.R_lt (by (with_reducible repeat (first|apply ra_|apply rb_|apply rc_));exact HO218.out))) (Kd.R_lt (by (with_reducible repeat (first|apply ra_|apply rb_|apply rc_));exact HO221.out))) (Kd.R_lt (by (with_reducible repeat (first|apply ra_|apply rb_|apply rc_));exact HO225.out))) (Kd.R_lt (by (with_reducible repeat (first|apply ra_|apply rb_|apply rc_));exact HO228.out))) (below_size (by repeat (first|(with_reducible first|exact HB.out|apply ba_|apply bb_|apply bc_)|exact HB.out))));have n5_:=ak_ (below_step (by repeat (first|(with_reducible first|exact HB.out|apply ba_|apply bb_|apply bc_)|exact HB.out)) hb);clear HO218;clear HO221;clear HO225;clear HO228;clear HB;have HO218:=n0_;have HO221:=n1_;have HO225:=n2_;have HO228:=n3_;have HO232:=n4_;have HB:=n5_;clear n0_ n1_ n2_ n3_ n4_ n5_;(try clear hb);(try clear ho0))|((with_reducible refine gate_callee (f:=13) rfl ?_);refine goesL_ (some 27) rfl rfl Try.func13 (by kernel_rfl) rfl #[.int .i64 4,.int .i64 2] rfl (by (try simp only [List.map_toArray,List.map_cons,List.map_nil]);first|done|rfl|(simp only [List.length_drop,List.length_take];rfl)) ?_;(with_reducible refine (mdct_New1.calls 4 2 t233 t234 t235 t237 w _ ?side1 A6.out).mono ?_);(case side1 => repeat (first|(with_reducible first|exact HB.out|apply ba_|apply bb_|apply bc_)|exact HB.out));rintro e w38 ⟨g236,rfl,hi,hb,hb2,hge⟩;refine ⟨_,rfl,?_⟩;have n0_:=ak_ (Kd.R_below (by (with_reducible repeat (first|apply ra_|apply rb_|apply rc_));exact HO218.out) hb2);have n1_:=ak_ (Kd.R_below (by (with_reducible repeat (first|apply ra_|apply rb_|apply rc_));exact HO221.out) hb2);have n2_:=ak_ (Kd.R_below (by (with_reducible repeat (first|apply ra_|apply rb_|apply rc_));exact HO225.out) hb2);have n3_:=ak_ (Kd.R_below (by (with_reducible repeat (first|apply ra_|apply rb_|apply rc_));exact HO228.out) hb2);have n4_:=ak_ (Kd.R_below (by (with_reducible repeat (first|apply ra_|apply rb_|apply rc_));exact HO232.out) hb2);have n5_:=ak_ (hb);have n6_:=ak_ (hi);clear HO218;clear HO221;clear HO225;clear HO228;clear HO232;clear HB;have HO218:=n0_;have HO221:=n1_;have HO225:=n2_;have HO228:=n3_;have HO232:=n4_;have HB:=n5_;have HI236:=n6_;clear n0_ n1_ n2_ n3_ n4_ n5_ n6_;(try clear hb);(try clear hb2);(try clear hi);(try clear hge))|((with_reducible refine gate_dst (N:=38) rfl ?_);(try (refine gate_guard (by rfl) ?_;dsimp only));refine Kd.R_lit (Kd.int .i64) _ 2 ?hg (N:=38) ?hd (xs:=([1000,0,0,0] : List Int)) (inner:=[.int .i64 1000,.int .i64 0,.int .i64 0,.int .i64 0]) (ok:=fun _ => True) (okp:=fun _ => True) ?hr ?hp (fun _ hk => hk) trivial (Below.refl _ _) (Nat.le_refl _) (by simp) ?_;(case hd => rfl);(case hg => rfl);(case hr => first|(go_simp;done)|(go_simp;rfl));(case hp => exact (Reps.one (show Kd.M (Kd.int .i64) _ _ _ 1000 [.int .i64 1000] from rfl) (Reps.one (show Kd.M (Kd.int .i64) _ _ _ 0 [.int .i64 0] from rfl) (Reps.one (show Kd.M (Kd.int .i64) _ _ _ 0 [.int .i64 0] from rfl) (Reps.one (show Kd.M (Kd.int .i64) _ _ _ 0 [.int .i64 0] from rfl) (Reps.none _ _))))));intro v239 w39 ho40 hb hg_ hnew_;clear hg_ hnew_;(first|rw [← Ny238.out] at ho40|(simp only [Int.reduceToNat] at ho40;rw [← Ny238.out] at ho40));have n0_:=ak_ (Kd.R_elder' (by (with_reducible repeat (first|apply ra_|apply rb_|apply rc_));exact HO218.out) (Kd.R_base ho40) hb);have n1_:=ak_ (Kd.R_elder' (by (with_reducible repeat (first|apply ra_|apply rb_|apply rc_));exact HO221.out) (Kd.R_base ho40) hb);have n2_:=ak_ (Kd.R_elder' (by (with_reducible repeat (first|apply ra_|apply rb_|apply rc_));exact HO225.out) (Kd.R_base ho40) hb);have n3_:=ak_ (Kd.R_elder' (by (with_reducible repeat (first|apply ra_|apply rb_|apply rc_));exact HO228.out) (Kd.R_base ho40) hb);have n4_:=ak_ (Kd.R_elder' (by (with_reducible repeat (first|apply ra_|apply rb_|apply rc_));exact HO232.out) (Kd.R_base ho40) hb);have n5_:=ak_ (Kd.R_lower (Kd.R_new' (Kd.R_new' (Kd.R_new' (Kd.R_new' (Kd.R_new' ho40 (Kd.R_lt (by (with_reducible repeat (first|apply ra_|apply rb_|apply rc_));exact HO218.out))) (Kd.R_lt (by (with_reducible repeat (first|apply ra_|apply rb_|apply rc_));exact HO221.out))) (Kd.R_lt (by (with_reducible repeat (first|apply ra_|apply rb_|apply rc_));exact HO225.out))) (Kd.R_lt (by (with_reducible repeat (first|apply ra_|apply rb_|apply rc_));exact HO228.out))) (Kd.R_lt (by (with_reducible repeat (first|apply ra_|apply rb_|apply rc_));exact HO232.out))) (below_size (by repeat (first|(with_reducible first|exact HB.out|apply ba_|apply bb_|apply bc_|refine below_set ?_ (IsS52.ge HI236.out))|exact HB.out))));have n6_:=ak_ (IsS52.below (by repeat (first|(with_reducible first|exact HI236.out|apply IsS52.alloc|apply IsS52.drewN|apply IsS52.drew)|exact HI236.out)) hb);have n7_:=ak_ (below_step (by repeat (first|(with_reducible first|exact HB.out|apply ba_|apply bb_|apply bc_|refine below_set ?_ (IsS52.ge HI236.out))|exact HB.out)) hb);clear HO218;clear HO221;clear HO225;clear HO228;clear HO232;clear HI236;clear HB;have HO218:=n0_;have HO221:=n1_;have HO225:=n2_;have HO228:=n3_;have HO232:=n4_;have HO240:=n5_;have HI236:=n6_;have HB:=n7_;clear n0_ n1_ n2_ n3_ n4_ n5_ n6_ n7_;clear hb ho40;obtain ⟨Ao41,co41,eo41⟩:=Kd.R_slice HO240.out;subst eo41)|((with_reducible refine gate_callee (f:=14) rfl ?_);refine goesL_ (some 39) rfl rfl Try.func14 (by kernel_rfl) rfl #[.pointer (some ⟨g236,0,none⟩),.slice Ao41 y238.length co41] rfl (by (try simp only [List.map_toArray,List.map_cons,List.map_nil]);first|done|rfl|(simp only [List.length_drop,List.length_take];rfl)) ?_;(with_reducible refine (mdct_Joiner_Next.calls k g236 t233 t234 t235 _ _ y238 t241 t244 t245 t246 t247 w _ ?side1 ?side2 ?side3 ?side4 ?side5 A7.out).mono ?_);(case side1 => repeat (first|(with_reducible first|exact HI236.out|apply IsS52.alloc|apply IsS52.drewN|apply IsS52.drew)|exact HI236.out));(case side2 => repeat (first|(with_reducible first|exact HB.out|apply ba_|apply bb_|apply bc_|refine below_set ?_ (IsS52.ge HI236.out))|exact HB.out));(case side3 => repeat (first|exact (Kd.R_reads' HO240.out).2.2|(with_reducible refine Kd.C_alloc ?_ _)|(with_reducible refine Kd.C_drewN ?_ _)|(with_reducible refine Kd.C_drew ?_)));(case side4 => exact (Kd.R_reads' HO240.out).2.1);(case side5 => exact far_slice (IsS52.own_ne HI236.out HO240.out (by decide)));rintro e w42 ⟨v242,rfl,ho0,hi,hb,hk⟩;refine ⟨_,rfl,?_⟩;have n0_:=ak_ (Kd.R_mono (Kd.R_told (Kd.R_oldK (IsS52.apart (show IsS52 w _ g236 t233 t234 t235 from by repeat (first|(with_reducible first|exact HI236.out|apply IsS52.alloc|apply IsS52.drewN|apply IsS52.drew)|exact HI236.out)) (by (with_reducible repeat (first|apply ra_|apply rb_|apply rc_));exact HO218.out) (by decide)) hk) (Kd.R_base ho0)) (fun _ h_ => h_.1));have n1_:=ak_ (Kd.R_mono (Kd.R_told (Kd.R_oldK (IsS52.apart (show IsS52 w _ g236 t233 t234 t235 from by repeat (first|(with_reducible first|exact HI236.out|apply IsS52.alloc|apply IsS52.drewN|apply IsS52.drew)|exact HI236.out)) (by (with_reducible repeat (first|apply ra_|apply rb_|apply rc_));exact HO221.out) (by decide)) hk) (Kd.R_base ho0)) (fun _ h_ => h_.1));have n2_:=ak_ (Kd.R_mono (Kd.R_told (Kd.R_oldK (IsS52.apart (show IsS52 w _ g236 t233 t234 t235 from by repeat (first|(with_reducible first|exact HI236.out|apply IsS52.alloc|apply IsS52.drewN|apply IsS52.drew)|exact HI236.out)) (by (with_reducible repeat (first|apply ra_|apply rb_|apply rc_));exact HO225.out) (by decide)) hk) (Kd.R_base ho0)) (fun _ h_ => h_.1));have n3_:=ak_ (Kd.R_mono (Kd.R_told (Kd.R_oldK (IsS52.apart (show IsS52 w _ g236 t233 t234 t235 from by repeat (first|(with_reducible first|exact HI236.out|apply IsS52.alloc|apply IsS52.drewN|apply IsS52.drew)|exact HI236.out)) (by (with_reducible repeat (first|apply ra_|apply rb_|apply rc_));exact HO228.out) (by decide)) hk) (Kd.R_base ho0)) (fun _ h_ => h_.1));have n4_:=ak_ (Kd.R_mono (Kd.R_told (Kd.R_oldK (IsS52.apart (show IsS52 w _ g236 t233 t234 t235 from by repeat (first|(with_reducible first|exact HI236.out|apply IsS52.alloc|apply IsS52.drewN|apply IsS52.drew)|exact HI236.out)) (by (with_reducible repeat (first|apply ra_|apply rb_|apply rc_));exact HO232.out) (by decide)) hk) (Kd.R_base ho0)) (fun _ h_ => h_.1));have n5_:=ak_ (Kd.R_mono (Kd.R_told (Kd.R_oldK (IsS52.apart (show IsS52 w _ g236 t233 t234 t235 from by repeat (first|(with_reducible first|exact HI236.out|apply IsS52.alloc|apply IsS52.drewN|apply IsS52.drew)|exact HI236.out)) (by (with_reducible repeat (first|apply ra_|apply rb_|apply rc_));exact HO240.out) (by decide)) hk) (Kd.R_base ho0)) (fun _ h_ => h_.1));have n6_:=ak_ (Kd.R_lower (Kd.R_new' (Kd.R_new' (Kd.R_new' (Kd.R_new' (Kd.R_new' (Kd.R_new' ho0 (Kd.R_lt (by (with_reducible repeat (first|apply ra_|apply rb_|apply rc_));exact HO218.out))) (Kd.R_lt (by (with_reducible repeat (first|apply ra_|apply rb_|apply rc_));exact HO221.out))) (Kd.R_lt (by (with_reducible repeat (first|apply ra_|apply rb_|apply rc_));exact HO225.out))) (Kd.R_lt (by (with_reducible repeat (first|apply ra_|apply rb_|apply rc_));exact HO228.out))) (Kd.R_lt (by (with_reducible repeat (first|apply ra_|apply rb_|apply rc_));exact HO232.out))) (Kd.R_lt (by (with_reducible repeat (first|apply ra_|apply rb_|apply rc_));exact HO240.out))) (below_size (by repeat (first|(with_reducible first|exact HB.out|apply ba_|apply bb_|apply bc_|refine below_set ?_ (IsS52.ge HI236.out))|exact HB.out))));have n7_:=ak_ (hb);have n8_:=ak_ (hi);clear HO218;clear HO221;clear HO225;clear HO228;clear HO232;clear HO240;clear HB;clear HI236;have HO218:=n0_;have HO221:=n1_;have HO225:=n2_;have HO228:=n3_;have HO232:=n4_;have HO240:=n5_;have HO243:=n6_;have HB:=n7_;have HI236:=n8_;clear n0_ n1_ n2_ n3_ n4_ n5_ n6_ n7_ n8_;(try clear hb);(try clear hk);(try clear hi);(try clear ho0))|((with_reducible refine gate_callee (f:=22) rfl ?_);refine goesL_ (some 43) rfl rfl Try.func22 (by kernel_rfl) rfl #[.pointer (some ⟨g236,0,none⟩)] rfl (by (try simp only [List.map_toArray,List.map_cons,List.map_nil]);first|done|rfl|(simp only [List.length_drop,List.length_take];rfl)) ?_;(with_reducible refine (mdct_Joiner_Copy.calls g236 t245 t246 t247 t248 t249 t250 w _ ?side1 ?side2 A8.out).mono ?_);(case side1 => repeat (first|(with_reducible first|exact HI236.out|apply IsS52.alloc|apply IsS52.drewN|apply IsS52.drew)|exact HI236.out));(case side2 => repeat (first|(with_reducible first|exact HB.out|apply ba_|apply bb_|apply bc_|refine below_set ?_ (IsS52.ge HI236.out))|exact HB.out));rintro e w43 ⟨g251,rfl,hi,hb,hb2,hge⟩;refine ⟨_,rfl,?_⟩;have n0_:=ak_ (Kd.R_below (by (with_reducible repeat (first|apply ra_|apply rb_|apply rc_));exact HO218.out) hb2);have n1_:=ak_ (Kd.R_below (by (with_reducible repeat (first|apply ra_|apply rb_|apply rc_));exact HO221.out) hb2);have n2_:=ak_ (Kd.R_below (by (with_reducible repeat (first|apply ra_|apply rb_|apply rc_));exact HO225.out) hb2);have n3_:=ak_ (Kd.R_below (by (with_reducible repeat (first|apply ra_|apply rb_|apply rc_));exact HO228.out) hb2);have n4_:=ak_ (Kd.R_below (by (with_reducible repeat (first|apply ra_|apply rb_|apply rc_));exact HO232.out) hb2);have n5_:=ak_ (Kd.R_below (by (with_reducible repeat (first|apply ra_|apply rb_|apply rc_));exact HO240.out) hb2);have n6_:=ak_ (Kd.R_below (by (with_reducible repeat (first|apply ra_|apply rb_|apply rc_));exact HO243.out) hb2);have n7_:=ak_ (IsS52.below (by repeat (first|(with_reducible first|exact HI236.out|apply IsS52.alloc|apply IsS52.drewN|apply IsS52.drew)|exact HI236.out)) hb2);have n8_:=ak_ (Nat.ne_of_gt (Nat.lt_of_lt_of_le (IsS52.lt (show IsS52 w _ g236 t245 t246 t247 from by repeat (first|(with_reducible first|exact HI236.out|apply IsS52.alloc|apply IsS52.drewN|apply IsS52.drew)|exact HI236.out))) hge));have n9_:=ak_ (hb);have n10_:=ak_ (hi);clear HO218;clear HO221;clear HO225;clear HO228;clear HO232;clear HO240;clear HO243;clear HI236;clear HB;have HO218:=n0_;have HO221:=n1_;have HO225:=n2_;have HO228:=n3_;have HO232:=n4_;have HO240:=n5_;have HO243:=n6_;have HI236:=n7_;have NS251_236:=n8_;have HB:=n9_;have HI251:=n10_;clear n0_ n1_ n2_ n3_ n4_ n5_ n6_ n7_ n8_ n9_ n10_;(try clear hb);(try clear hb2);(try clear hi);(try clear hge))|((with_reducible refine gate_callee (f:=25) rfl ?_);refine goesL_ (some 45) rfl rfl Try.func25 (by kernel_rfl) rfl #[.pointer (some ⟨g236,0,none⟩)] rfl (by (try simp only [List.map_toArray,List.map_cons,List.map_nil]);first|done|rfl|(simp only [List.length_drop,List.length_take];rfl)) ?_;(with_reducible refine (mdct_Joiner_Reset.calls g236 t245 t246 t247 t252 t253 t254 w _ ?side1 ?side2 A9.out).mono ?_);(case side1 => repeat (first|(with_reducible first|exact HI236.out|apply IsS52.alloc|apply IsS52.drewN|apply IsS52.drew)|exact HI236.out));(case side2 => repeat (first|(with_reducible first|exact HB.out|apply ba_|apply bb_|apply bc_|refine below_set ?_ (IsS52.ge HI236.out)|refine below_set ?_ (IsS52.ge HI251.out))|exact HB.out));rintro e w44 ⟨rfl,hi,hb,hk⟩;refine ⟨_,rfl,?_⟩;have n0_:=ak_ (Kd.R_mono (Kd.R_keep (IsS52.apart (show IsS52 w _ g236 t245 t246 t247 from by repeat (first|(with_reducible first|exact HI236.out|apply IsS52.alloc|apply IsS52.drewN|apply IsS52.drew)|exact HI236.out)) (by (with_reducible repeat (first|apply ra_|apply rb_|apply rc_));exact HO218.out) (by decide)) hk (fun _ h => h.2)) (fun _ h => h.1));have n1_:=ak_ (Kd.R_mono (Kd.R_keep (IsS52.apart (show IsS52 w _ g236 t245 t246 t247 from by repeat (first|(with_reducible first|exact HI236.out|apply IsS52.alloc|apply IsS52.drewN|apply IsS52.drew)|exact HI236.out)) (by (with_reducible repeat (first|apply ra_|apply rb_|apply rc_));exact HO221.out) (by decide)) hk (fun _ h => h.2)) (fun _ h => h.1));have n2_:=ak_ (Kd.R_mono (Kd.R_keep (IsS52.apart (show IsS52 w _ g236 t245 t246 t247 from by repeat (first|(with_reducible first|exact HI236.out|apply IsS52.alloc|apply IsS52.drewN|apply IsS52.drew)|exact HI236.out)) (by (with_reducible repeat (first|apply ra_|apply rb_|apply rc_));exact HO225.out) (by decide)) hk (fun _ h => h.2)) (fun _ h => h.1));have n3_:=ak_ (Kd.R_mono (Kd.R_keep (IsS52.apart (show IsS52 w _ g236 t245 t246 t247 from by repeat (first|(with_reducible first|exact HI236.out|apply IsS52.alloc|apply IsS52.drewN|apply IsS52.drew)|exact HI236.out)) (by (with_reducible repeat (first|apply ra_|apply rb_|apply rc_));exact HO228.out) (by decide)) hk (fun _ h => h.2)) (fun _ h => h.1));have n4_:=ak_ (Kd.R_mono (Kd.R_keep (IsS52.apart (show IsS52 w _ g236 t245 t246 t247 from by repeat (first|(with_reducible first|exact HI236.out|apply IsS52.alloc|apply IsS52.drewN|apply IsS52.drew)|exact HI236.out)) (by (with_reducible repeat (first|apply ra_|apply rb_|apply rc_));exact HO232.out) (by decide)) hk (fun _ h => h.2)) (fun _ h => h.1));have n5_:=ak_ (Kd.R_mono (Kd.R_keep (IsS52.apart (show IsS52 w _ g236 t245 t246 t247 from by repeat (first|(with_reducible first|exact HI236.out|apply IsS52.alloc|apply IsS52.drewN|apply IsS52.drew)|exact HI236.out)) (by (with_reducible repeat (first|apply ra_|apply rb_|apply rc_));exact HO240.out) (by decide)) hk (fun _ h => h.2)) (fun _ h => h.1));have n6_:=ak_ (Kd.R_mono (Kd.R_keep (IsS52.apart (show IsS52 w _ g236 t245 t246 t247 from by repeat (first|(with_reducible first|exact HI236.out|apply IsS52.alloc|apply IsS52.drewN|apply IsS52.drew)|exact HI236.out)) (by (with_reducible repeat (first|apply ra_|apply rb_|apply rc_));exact HO243.out) (by decide)) hk (fun _ h => h.2)) (fun _ h => h.1));have n7_:=ak_ (IsS52.keepB (show IsS52 w _ g251 t248 t249 t250 from by repeat (first|(with_reducible first|exact HI251.out|apply IsS52.alloc|apply IsS52.drewN|apply IsS52.drew)|exact HI251.out)) hk NS251_236.out (IsS52.typ (show IsS52 w _ g236 t245 t246 t247 from by repeat (first|(with_reducible first|exact HI236.out|apply IsS52.alloc|apply IsS52.drewN|apply IsS52.drew)|exact HI236.out))));have n8_:=ak_ (hb);have n9_:=ak_ (hi);clear HO218;clear HO221;clear HO225;clear HO228;clear HO232;clear HO240;clear HO243;clear HI251;clear HB;clear HI236;have HO218:=n0_;have HO221:=n1_;have HO225:=n2_;have HO228:=n3_;have HO232:=n4_;have HO240:=n5_;have HO243:=n6_;have HI251:=n7_;have HB:=n8_;have HI236:=n9_;clear n0_ n1_ n2_ n3_ n4_ n5_ n6_ n7_ n8_ n9_;(try clear hb);(try clear hk);(try clear hi))|((with_reducible refine gate_callee (f:=16) rfl ?_);refine goesL_ (some 46) rfl rfl Try.func16 (by kernel_rfl) rfl #[.int .i64 80,.int .i64 20] rfl (by (try simp only [List.map_toArray,List.map_cons,List.map_nil]);first|done|rfl|(simp only [List.length_drop,List.length_take];rfl)) ?_;(with_reducible refine (mdct_Good.calls 80 20 true _ A10.out).mono ?_);rintro e w' ⟨rfl,⟨nd,rfl⟩⟩;refine ⟨_,rfl,?_⟩)|(go_at_call 16;(with_reducible refine (mdct_Good.calls 80 21 false _ A12.out).mono ?_);rintro e w' ⟨rfl,⟨nd,rfl⟩⟩;obtain ⟨Ao45,co45,eo45⟩:=Kd.R_slice HO218.out;subst eo45;have p257 : 0 ≤ (3 : Int):=(by omega);have q257 : 3 < (t215.length : Int):=of_decide_eq_true (by first|(with_reducible assumption)|assumption);obtain ⟨ad257,e257,hx257_0⟩:=Kd.at_int (Kd.R_reads' HO218.out).2.2 3 p257 q257;cases e257;(try simp only [show (3 : Int).toNat = 3 from rfl,Nat.reduceMul,Nat.reduceEqDiff,Go.Addr.add,↓reduceIte] at hx257_0);have qi257 : (3 < t215.length) = True:=eq_true (by omega);(try rw [show ((3 : Int)).toNat = 3 from rfl] at hx257_0);replace p257:=eq_true p257;replace q257:=eq_true q257)|((with_reducible refine gate_dst (N:=72) rfl ?_);(try (refine gate_guard (by rfl) ?_;dsimp only));refine Kd.R_make (Kd.int .i64) _ 2 rfl (N:=72) rfl 23 _ _ rfl 4 rfl rfl Try.underlying23 (.int .i64 0) 8 info2 rfl (by decide) (by omega) 0 (ok:=fun _ => True) (okp:=fun _ => True) rfl (fun _ hk => hk) trivial (by omega) (by omega) (Below.refl _ _) (Nat.le_refl _) ?_;intro v259 w46 ho47 hb hg_ hnew_;clear hg_ hnew_;(first|rw [← Ny258.out] at ho47|(simp only [Int.reduceToNat] at ho47;rw [← Ny258.out] at ho47));have n0_:=ak_ (Kd.R_elder' (by (with_reducible repeat (first|apply ra_|apply rb_|apply rc_));exact HO218.out) (Kd.R_base ho47) hb);have n1_:=ak_ (Kd.R_elder' (by (with_reducible repeat (first|apply ra_|apply rb_|apply rc_));exact HO221.out) (Kd.R_base ho47) hb);have n2_:=ak_ (Kd.R_elder' (by (with_reducible repeat (first|apply ra_|apply rb_|apply rc_));exact HO225.out) (Kd.R_base ho47) hb);have n3_:=ak_ (Kd.R_elder' (by (with_reducible repeat (first|apply ra_|apply rb_|apply rc_));exact HO228.out) (Kd.R_base ho47) hb);have n4_:=ak_ (Kd.R_elder' (by (with_reducible repeat (first|apply ra_|apply rb_|apply rc_));exact HO232.out) (Kd.R_base ho47) hb);have n5_:=ak_ (Kd.R_elder' (by (with_reducible repeat (first|apply ra_|apply rb_|apply rc_));exact HO240.out) (Kd.R_base ho47) hb);have n6_:=ak_ (Kd.R_elder' (by (with_reducible repeat (first|apply ra_|apply rb_|apply rc_));exact HO243.out) (Kd.R_base ho47) hb);have n7_:=ak_ (Kd.R_lower (Kd.R_new' (Kd.R_new' (Kd.R_new' (Kd.R_new' (Kd.R_new' (Kd.R_new' (Kd.R_new' ho47 (Kd.R_lt (by (with_reducible repeat (first|apply ra_|apply rb_|apply rc_));exact HO218.out))) (Kd.R_lt (by (with_reducible repeat (first|apply ra_|apply rb_|apply rc_));exact HO221.out))) (Kd.R_lt (by (with_reducible repeat (first|apply ra_|apply rb_|apply rc_));exact HO225.out))) (Kd.R_lt (by (with_reducible repeat (first|apply ra_|apply rb_|apply rc_));exact HO228.out))) (Kd.R_lt (by (with_reducible repeat (first|apply ra_|apply rb_|apply rc_));exact HO232.out))) (Kd.R_lt (by (with_reducible repeat (first|apply ra_|apply rb_|apply rc_));exact HO240.out))) (Kd.R_lt (by (with_reducible repeat (first|apply ra_|apply rb_|apply rc_));exact HO243.out))) (below_size (by repeat (first|(with_reducible first|exact HB.out|apply ba_|apply bb_|apply bc_|refine below_set ?_ (IsS52.ge HI236.out)|refine below_set ?_ (IsS52.ge HI251.out))|exact HB.out))));have n8_:=ak_ (IsS52.below (by repeat (first|(with_reducible first|exact HI236.out|apply IsS52.alloc|apply IsS52.drewN|apply IsS52.drew)|exact HI236.out)) hb);have n9_:=ak_ (IsS52.below (by repeat (first|(with_reducible first|exact HI251.out|apply IsS52.alloc|apply IsS52.drewN|apply IsS52.drew)|exact HI251.out)) hb);have n10_:=ak_ (below_step (by repeat (first|(with_reducible first|exact HB.out|apply ba_|apply bb_|apply bc_|refine below_set ?_ (IsS52.ge HI236.out)|refine below_set ?_ (IsS52.ge HI251.out))|exact HB.out)) hb);clear HO218;clear HO221;clear HO225;clear HO228;clear HO232;clear HO240;clear HO243;clear HI236;clear HI251;clear HB;have HO218:=n0_;have HO221:=n1_;have HO225:=n2_;have HO228:=n3_;have HO232:=n4_;have HO240:=n5_;have HO243:=n6_;have HO260:=n7_;have HI236:=n8_;have HI251:=n9_;have HB:=n10_;clear n0_ n1_ n2_ n3_ n4_ n5_ n6_ n7_ n8_ n9_ n10_;clear hb ho47;obtain ⟨Ao48,co48,eo48⟩:=Kd.R_slice HO225.out;subst eo48;obtain ⟨Ao49,co49,eo49⟩:=Kd.R_slice HO260.out;subst eo49)|(go_at_call 17;(with_reducible refine (madrigallaw15_same.calls k _ _ t222 _ _ y258 true _ ?side1 ?side2 ?side3 ?side4 A20.out).mono ?_);(case side1 => repeat (first|exact (Kd.R_reads' HO225.out).2.2|(with_reducible refine Kd.C_alloc ?_ _)|(with_reducible refine Kd.C_drewN ?_ _)|(with_reducible refine Kd.C_drew ?_)));(case side2 => exact (Kd.R_reads' HO225.out).2.1);(case side3 => repeat (first|exact (Kd.R_reads' HO260.out).2.2|(with_reducible refine Kd.C_alloc ?_ _)|(with_reducible refine Kd.C_drewN ?_ _)|(with_reducible refine Kd.C_drew ?_)));(case side4 => exact (Kd.R_reads' HO260.out).2.1);rintro e w' ⟨rfl,⟨nd,rfl⟩⟩;obtain ⟨Ao50,co50,eo50⟩:=Kd.R_slice HO232.out;subst eo50;have p262 : 0 ≤ (3 : Int):=(by omega);have q262 : 3 < (t229.length : Int):=of_decide_eq_true (by first|(with_reducible assumption)|assumption);obtain ⟨ad262,e262,hx262_0⟩:=Kd.at_int (Kd.R_reads' HO232.out).2.2 3 p262 q262;cases e262;(try simp only [show (3 : Int).toNat = 3 from rfl,Nat.reduceMul,Nat.reduceEqDiff,Go.Addr.add,↓reduceIte] at hx262_0);have qi262 : (3 < t229.length) = True:=eq_true (by omega);(try rw [show ((3 : Int)).toNat = 3 from rfl] at hx262_0);replace p262:=eq_true p262;replace q262:=eq_true q262;obtain ⟨Ao51,co51,eo51⟩:=Kd.R_slice HO243.out;subst eo51)|(go_at_call 23;(with_reducible refine (mdct_Joiner_Same.calls k g251 t248 t249 t250 g236 t252 t253 t254 t263 w _ ?side1 ?side2 ?side3 A28.out).mono ?_);(case side1 => repeat (first|(with_reducible first|exact HI251.out|apply IsS52.alloc|apply IsS52.drewN|apply IsS52.drew)|exact HI251.out));(case side2 => repeat (first|(with_reducible first|exact HI236.out|apply IsS52.alloc|apply IsS52.drewN|apply IsS52.drew)|exact HI236.out));(case side3 => repeat (first|(with_reducible first|exact HB.out|apply ba_|apply bb_|apply bc_|refine below_set ?_ (IsS52.ge HI236.out)|refine below_set ?_ (IsS52.ge HI251.out))|exact HB.out));rintro e w' ⟨rfl,⟨nd,rfl⟩⟩))
                  go_ret
                  exact ⟨by first|rfl|(simp [errW_none,errW_some] <;> rfl)|(simp [*,errW_none,errW_some] <;> rfl),by repeat (first|(with_reducible first|exact HB.out|apply ba_|apply bb_|apply bc_|refine below_set ?_ (IsS52.ge HI236.out)|refine below_set ?_ (IsS52.ge HI251.out))|exact HB.out)⟩
                 ·rw [if_neg c27] at H
                  exact absurd H (by simp)
                ·rw [if_neg c26] at H
                 exact absurd H (by simp)
              ·rw [if_neg c24] at H
               exact absurd H (by simp)
             ·rw [if_neg c23] at H
              exact absurd H (by simp)
            ·rw [if_neg c22] at H
             exact absurd H (by simp)
           ·replace c21:=Bool.eq_false_iff.mpr c21
            subst c21
            have H1 : (none) = some r:=by rw [if_neg (show ¬ (false = true) by decide)] at H;exact H
            clear H
            have H:=H1
            clear H1
            exact absurd H (by simp)
          ·rw [if_neg c19] at H
           exact absurd H (by simp)
         ·rw [if_neg c18] at H
          exact absurd H (by simp)
        ·rw [if_neg c17] at H
         exact absurd H (by simp)
       ·rw [if_neg c16] at H
        exact absurd H (by simp)
      ·rw [if_neg c15] at H
       exact absurd H (by simp)
     ·rw [if_neg c14] at H
      exact absurd H (by simp)
   ·replace c11:=Bool.eq_false_iff.mpr c11
    subst c11
    have H1 : (none) = some r:=by rw [if_neg (show ¬ (false = true) by decide)] at H;exact H
    clear H
    have H:=H1
    clear H1
    exact absurd H (by simp)
  ·rw [if_neg c5] at H
   have c5b0 : (mdct_Good.f 4 2 == some true) = false:=beq_eq_false_iff_ne.mpr c5
   have c5b1 : (mdct_Good.f 4 2 != some true) = true:=bne_iff_ne.mpr c5
   replace H:=Option.bind_eq_some_iff.mp H
   obtain ⟨t265,A520,H⟩:=H
   (try dsimp only at H)
   have A52:=ak_ A520
   clear A520
   exact absurd H (by simp)
 ·rw [if_neg c2] at H
  exact absurd H (by simp)

end Go.Proofs.Ytlmacbiahofmcaa.P
