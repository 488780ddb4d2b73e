/- The machine side of the laws of one chapter, without conditions: each call of a Go function comes to what the Lean function of its name answers. Written for this claim by a program of the prover. -/
import Derived.Test.YtlmacbiahofmcaaPx0
import Derived.Test.YtlmacbiahofmcaaPx1
import Derived.Test.YtlmacbiahofmcaaPx8
import Derived.Test.YtlmacbiahofmcaaPx10
import Derived.Test.YtlmacbiahofmcaaPx12
import Derived.Test.YtlmacbiahofmcaaPx13
import Derived.Test.YtlmacbiahofmcaaPx14
import Derived.Test.YtlmacbiahofmcaaPx20
namespace Go.Proofs.Ytlmacbiahofmcaa.P
open Go.RowKit Go.Proofs.YtlmacbiahofmcaaW.PrintWords Go.Proofs.YtlmacbiahofmcaaW.PrintLast Go.Proofs.YtlmacbiahofmcaaW.PrintMore
attribute [local go_sem] max2_int min2_int max_two min_two max_three min_three max_four min_four   -- for this text's walks alone
set_option linter.unusedVariables false
set_option linter.unusedSimpArgs false

/-! ### madrigallaw15_MdctKnown: function 3 -/
def madrigallaw15_MdctKnown.f (k : Nat)  : Option (Bool):=(madrigallaw15_awake.f k).bind fun t266 => (if t266 = true then ((mdct_Shape.f k 3 2).bind fun bt267 => (if 9 ≤ 35184372088832 then ((mdct_Forward.f k (List.replicate 9 0) 2).bind fun bt274 => ((mdct_Inverse.f k ([] : List Int) 2).bind fun bt278 => (if mdct_Good.f 481 3 = some true then ((mdct_New1.f 481 3).bind fun bt282 => (if mdct_Good.f 4 2 = some true then ((mdct_New1.f 4 2).bind fun bt287 => ((mdct_Joiner_Next.f k bt287.1 bt287.2.1 bt287.2.2.1 ([] : List Int)).bind fun bt292 => (if bt267.2 = 1 then (if bt274.2 = 1 then (if bt278.2 = 1 then (none) else (none)) else (none)) else (none)))) else ((mdct_New0.f 4 2).bind fun t300 => (none)))) else ((mdct_New0.f 481 3).bind fun t302 => (if mdct_Good.f 4 2 = some true then ((mdct_New1.f 4 2).bind fun bt303 => ((mdct_Joiner_Next.f k bt303.1 bt303.2.1 bt303.2.2.1 ([] : List Int)).bind fun bt308 => (if bt267.2 = 1 then (if bt274.2 = 1 then (if bt278.2 = 1 then (some (bt308.2.1 == 1)) else (none)) else (none)) else (none)))) else ((mdct_New0.f 4 2).bind fun t316 => (none))))))) else (none))) else (none))
theorem madrigallaw15_MdctKnown.mono : ∀ k,LeO (madrigallaw15_MdctKnown.f k ) (madrigallaw15_MdctKnown.f (k + 1) ):=by
 intro  k
 unfold madrigallaw15_MdctKnown.f
 repeat' first|(with_reducible first|exact madrigallaw15_awake.mono _|exact mdct_Forward.mono _ _ _|exact mdct_Inverse.mono _ _ _|exact mdct_Joiner_Next.mono _ _ _ _ _|exact mdct_Shape.mono _ _ _|exact LeO.refl _|exact LeO.none _|refine LeO.ite ?_ ?_|refine LeO.bind ?_ (fun _ => ?_))|exact madrigallaw15_awake.mono _|exact mdct_Forward.mono _ _ _|exact mdct_Inverse.mono _ _ _|exact mdct_Joiner_Next.mono _ _ _ _ _|exact mdct_Shape.mono _ _ _|exact LeO.none _|refine LeO.ite ?_ ?_|refine LeO.bind ?_ (fun _ => ?_)
set_option maxHeartbeats 8000000 in
set_option maxRecDepth 100000 in
theorem madrigallaw15_MdctKnown.calls (k : Nat)  (r : Bool) (w : World) (h : madrigallaw15_MdctKnown.f k  = some r) :
  Calls Try.prog 3 #[] w fun e w' => e = .returned (.bool r) ∧ Below w.heap.size w w':=by
 have HB:=ak_ (Below.refl w.heap.size w)
 have H : ((madrigallaw15_awake.f k).bind fun t266 => (if t266 = true then ((mdct_Shape.f k 3 2).bind fun bt267 => (if 9 ≤ 35184372088832 then ((mdct_Forward.f k (List.replicate 9 0) 2).bind fun bt274 => ((mdct_Inverse.f k ([] : List Int) 2).bind fun bt278 => (if mdct_Good.f 481 3 = some true then ((mdct_New1.f 481 3).bind fun bt282 => (if mdct_Good.f 4 2 = some true then ((mdct_New1.f 4 2).bind fun bt287 => ((mdct_Joiner_Next.f k bt287.1 bt287.2.1 bt287.2.2.1 ([] : List Int)).bind fun bt292 => (if bt267.2 = 1 then (if bt274.2 = 1 then (if bt278.2 = 1 then (none) else (none)) else (none)) else (none)))) else ((mdct_New0.f 4 2).bind fun t300 => (none)))) else ((mdct_New0.f 481 3).bind fun t302 => (if mdct_Good.f 4 2 = some true then ((mdct_New1.f 4 2).bind fun bt303 => ((mdct_Joiner_Next.f k bt303.1 bt303.2.1 bt303.2.2.1 ([] : List Int)).bind fun bt308 => (if bt267.2 = 1 then (if bt274.2 = 1 then (if bt278.2 = 1 then (some (bt308.2.1 == 1)) else (none)) else (none)) else (none)))) else ((mdct_New0.f 4 2).bind fun t316 => (none))))))) else (none))) else (none))) = some r:=h
 clear h
 replace H:=Option.bind_eq_some_iff.mp H
 obtain ⟨t266,A10,H⟩:=H
 (try dsimp only at H)
 have A1:=ak_ A10
 clear A10
 by_cases c2 : t266 = true
 ·subst c2
  have H1 : ((mdct_Shape.f k 3 2).bind fun bt267 => (if 9 ≤ 35184372088832 then ((mdct_Forward.f k (List.replicate 9 0) 2).bind fun bt274 => ((mdct_Inverse.f k ([] : List Int) 2).bind fun bt278 => (if mdct_Good.f 481 3 = some true then ((mdct_New1.f 481 3).bind fun bt282 => (if mdct_Good.f 4 2 = some true then ((mdct_New1.f 4 2).bind fun bt287 => ((mdct_Joiner_Next.f k bt287.1 bt287.2.1 bt287.2.2.1 ([] : List Int)).bind fun bt292 => (if bt267.2 = 1 then (if bt274.2 = 1 then (if bt278.2 = 1 then (none) else (none)) else (none)) else (none)))) else ((mdct_New0.f 4 2).bind fun t300 => (none)))) else ((mdct_New0.f 481 3).bind fun t302 => (if mdct_Good.f 4 2 = some true then ((mdct_New1.f 4 2).bind fun bt303 => ((mdct_Joiner_Next.f k bt303.1 bt303.2.1 bt303.2.2.1 ([] : List Int)).bind fun bt308 => (if bt267.2 = 1 then (if bt274.2 = 1 then (if bt278.2 = 1 then (some (bt308.2.1 == 1)) else (none)) else (none)) else (none)))) else ((mdct_New0.f 4 2).bind fun t316 => (none))))))) else (none))) = some r:=by rw [if_pos rfl] at H;exact H
  clear H
  have H:=H1
  clear H1
  replace H:=Option.bind_eq_some_iff.mp H
  obtain ⟨⟨t267,t268⟩,A30,H⟩:=H
  (try dsimp only at H)
  have A3:=ak_ A30
  clear A30
  by_cases c4 : 9 ≤ 35184372088832
  ·rw [if_pos c4] at H
   have c4b0:=eq_true c4
   have c4b1 : decide (9 ≤ 35184372088832) = true:=decide_eq_true c4
   clear c4
   obtain ⟨y271,hy271⟩ : ∃ y_ : List Int,y_ = (List.replicate 9 0):=⟨_,rfl⟩
   replace H : ((mdct_Forward.f k y271 2).bind fun bt274 => ((mdct_Inverse.f k ([] : List Int) 2).bind fun bt278 => (if mdct_Good.f 481 3 = some true then ((mdct_New1.f 481 3).bind fun bt282 => (if mdct_Good.f 4 2 = some true then ((mdct_New1.f 4 2).bind fun bt287 => ((mdct_Joiner_Next.f k bt287.1 bt287.2.1 bt287.2.2.1 ([] : List Int)).bind fun bt292 => (if t268 = 1 then (if bt274.2 = 1 then (if bt278.2 = 1 then (none) else (none)) else (none)) else (none)))) else ((mdct_New0.f 4 2).bind fun t300 => (none)))) else ((mdct_New0.f 481 3).bind fun t302 => (if mdct_Good.f 4 2 = some true then ((mdct_New1.f 4 2).bind fun bt303 => ((mdct_Joiner_Next.f k bt303.1 bt303.2.1 bt303.2.2.1 ([] : List Int)).bind fun bt308 => (if t268 = 1 then (if bt274.2 = 1 then (if bt278.2 = 1 then (some (bt308.2.1 == 1)) else (none)) else (none)) else (none)))) else ((mdct_New0.f 4 2).bind fun t316 => (none))))))) = some r:=by first|(rw [hy271];with_reducible exact H)|(have H2_:=(Option.bind_some _ _).symm.trans H;rw [hy271];with_reducible exact H2_)|(have H2_:=(Option.bind_some _ _).symm.trans H;with_reducible exact H2_)|with_reducible exact H|(rw [hy271];exact H)|exact H
   have Ny271:=ak_ hy271
   clear hy271
   replace H:=Option.bind_eq_some_iff.mp H
   obtain ⟨⟨t274,t275⟩,A50,H⟩:=H
   (try dsimp only at H)
   have A5:=ak_ A50
   clear A50
   replace H:=Option.bind_eq_some_iff.mp H
   obtain ⟨⟨t278,t279⟩,A60,H⟩:=H
   (try dsimp only at H)
   have A6:=ak_ A60
   clear A60
   by_cases c7 : mdct_Good.f 481 3 = some true
   ·rw [if_pos c7] at H
    have c7b0 : (mdct_Good.f 481 3 == some true) = true:=beq_iff_eq.mpr c7
    have c7b1 : (mdct_Good.f 481 3 != some true) = false:=bne_eq_false_iff_eq.mpr c7
    clear c7
    replace H:=Option.bind_eq_some_iff.mp H
    obtain ⟨⟨t282,t283,t284,t286⟩,A80,H⟩:=H
    (try dsimp only at H)
    have A8:=ak_ A80
    clear A80
    by_cases c9 : mdct_Good.f 4 2 = some true
    ·rw [if_pos c9] at H
     have c9b0 : (mdct_Good.f 4 2 == some true) = true:=beq_iff_eq.mpr c9
     have c9b1 : (mdct_Good.f 4 2 != some true) = false:=bne_eq_false_iff_eq.mpr c9
     clear c9
     replace H:=Option.bind_eq_some_iff.mp H
     obtain ⟨⟨t287,t288,t289,t291⟩,A100,H⟩:=H
     (try dsimp only at H)
     have A10:=ak_ A100
     clear A100
     replace H:=Option.bind_eq_some_iff.mp H
     obtain ⟨⟨t292,t295,t296,t297,t298⟩,A110,H⟩:=H
     (try dsimp only at H)
     have A11:=ak_ A110
     clear A110
     by_cases c12 : t268 = 1
     ·rw [if_pos c12] at H
      have c12b0 : (t268 == 1) = true:=beq_iff_eq.mpr c12
      have c12b1 : (t268 != 1) = false:=bne_eq_false_iff_eq.mpr c12
      clear c12
      by_cases c13 : t275 = 1
      ·rw [if_pos c13] at H
       have c13b0 : (t275 == 1) = true:=beq_iff_eq.mpr c13
       have c13b1 : (t275 != 1) = false:=bne_eq_false_iff_eq.mpr c13
       clear c13
       by_cases c14 : t279 = 1
       ·rw [if_pos c14] at H
        exact absurd H (by simp)
       ·rw [if_neg c14] at H
        exact absurd H (by simp)
      ·rw [if_neg c13] at H
       exact absurd H (by simp)
     ·rw [if_neg c12] at H
      exact absurd H (by simp)
    ·rw [if_neg c9] at H
     have c9b0 : (mdct_Good.f 4 2 == some true) = false:=beq_eq_false_iff_ne.mpr c9
     have c9b1 : (mdct_Good.f 4 2 != some true) = true:=bne_iff_ne.mpr c9
     replace H:=Option.bind_eq_some_iff.mp H
     obtain ⟨t300,A150,H⟩:=H
     (try dsimp only at H)
     have A15:=ak_ A150
     clear A150
     exact absurd H (by simp)
   ·rw [if_neg c7] at H
    have c7b0 : (mdct_Good.f 481 3 == some true) = false:=beq_eq_false_iff_ne.mpr c7
    have c7b1 : (mdct_Good.f 481 3 != some true) = true:=bne_iff_ne.mpr c7
    replace H:=Option.bind_eq_some_iff.mp H
    obtain ⟨t302,A160,H⟩:=H
    (try dsimp only at H)
    have A16:=ak_ A160
    clear A160
    by_cases c17 : mdct_Good.f 4 2 = some true
    ·rw [if_pos c17] at H
     have c17b0 : (mdct_Good.f 4 2 == some true) = true:=beq_iff_eq.mpr c17
     have c17b1 : (mdct_Good.f 4 2 != some true) = false:=bne_eq_false_iff_eq.mpr c17
     clear c17
     replace H:=Option.bind_eq_some_iff.mp H
     obtain ⟨⟨t303,t304,t305,t307⟩,A180,H⟩:=H
     (try dsimp only at H)
     have A18:=ak_ A180
     clear A180
     replace H:=Option.bind_eq_some_iff.mp H
     obtain ⟨⟨t308,t311,t312,t313,t314⟩,A190,H⟩:=H
     (try dsimp only at H)
     have A19:=ak_ A190
     clear A190
     by_cases c20 : t268 = 1
     ·rw [if_pos c20] at H
      have c20b0 : (t268 == 1) = true:=beq_iff_eq.mpr c20
      have c20b1 : (t268 != 1) = false:=bne_eq_false_iff_eq.mpr c20
      clear c20
      by_cases c21 : t275 = 1
      ·rw [if_pos c21] at H
       have c21b0 : (t275 == 1) = true:=beq_iff_eq.mpr c21
       have c21b1 : (t275 != 1) = false:=bne_eq_false_iff_eq.mpr c21
       clear c21
       by_cases c22 : t279 = 1
       ·rw [if_pos c22] at H
        have c22b0 : (t279 == 1) = true:=beq_iff_eq.mpr c22
        have c22b1 : (t279 != 1) = false:=bne_eq_false_iff_eq.mpr c22
        clear c22
        obtain rfl:=Option.some.inj H
        go_enter Try.func3,Try.ntmps3
        go_wp2_with (first|((with_reducible refine gate_callee (f:=9) rfl ?_);refine goesL_ (some 13) rfl rfl Try.func9 (by kernel_rfl) rfl #[] rfl (by (try simp only [List.map_toArray,List.map_cons,List.map_nil]);first|done|rfl|(simp only [List.length_drop,List.length_take];rfl)) ?_;(with_reducible refine (madrigallaw15_awake.calls k  true _ A1.out).mono ?_);rintro e w23 ⟨rfl,hb⟩;refine ⟨_,rfl,?_⟩;have n0_:=ak_ (below_step (by repeat (first|(with_reducible first|exact HB.out|apply ba_|apply bb_|apply bc_)|exact HB.out)) hb);clear HB;have HB:=n0_;clear n0_;(try clear hb))|((with_reducible refine gate_callee (f:=10) rfl ?_);refine goesL_ (some 16) rfl rfl Try.func10 (by kernel_rfl) rfl #[.int .i64 3,.int .i64 2] rfl (by (try simp only [List.map_toArray,List.map_cons,List.map_nil]);first|done|rfl|(simp only [List.length_drop,List.length_take];rfl)) ?_;(with_reducible refine (mdct_Shape.calls k 3 2 t267 t268 _ A3.out).mono ?_);rintro e w24 ⟨v269,rfl,ho0,hb⟩;refine ⟨_,rfl,?_⟩;have n0_:=ak_ (Kd.R_lower ho0 (below_size (by repeat (first|(with_reducible first|exact HB.out|apply ba_|apply bb_|apply bc_)|exact HB.out))));have n1_:=ak_ (below_step (by repeat (first|(with_reducible first|exact HB.out|apply ba_|apply bb_|apply bc_)|exact HB.out)) hb);clear HB;have HO270:=n0_;have HB:=n1_;clear n0_ n1_;(try clear hb);(try clear ho0))|((with_reducible refine gate_dst (N:=20) rfl ?_);refine Kd.R_make (Kd.int .i64) _ 2 rfl (N:=20) rfl 23 _ _ rfl 9 rfl rfl Try.underlying23 (.int .i64 0) 8 info2 rfl (by decide) (by omega) 0 (ok:=fun _ => True) (okp:=fun _ => True) rfl (fun _ hk => hk) trivial (by omega) (by omega) (Below.refl _ _) (Nat.le_refl _) ?_;intro v272 w25 ho26 hb hg_ hnew_;clear hg_ hnew_;(first|rw [← Ny271.out] at ho26|(simp only [Int.reduceToNat] at ho26;rw [← Ny271.out] at ho26));have n0_:=ak_ (Kd.R_elder' (by (with_reducible repeat (first|apply ra_|apply rb_|apply rc_));exact HO270.out) (Kd.R_base ho26) hb);have n1_:=ak_ (Kd.R_lower (Kd.R_new' ho26 (Kd.R_lt (by (with_reducible repeat (first|apply ra_|apply rb_|apply rc_));exact HO270.out))) (below_size (by repeat (first|(with_reducible first|exact HB.out|apply ba_|apply bb_|apply bc_)|exact HB.out))));have n2_:=ak_ (below_step (by repeat (first|(with_reducible first|exact HB.out|apply ba_|apply bb_|apply bc_)|exact HB.out)) hb);clear HO270;clear HB;have HO270:=n0_;have HO273:=n1_;have HB:=n2_;clear n0_ n1_ n2_;clear hb ho26;obtain ⟨Ao27,co27,eo27⟩:=Kd.R_slice HO273.out;subst eo27)|((with_reducible refine gate_callee (f:=11) rfl ?_);refine goesL_ (some 21) rfl rfl Try.func11 (by kernel_rfl) rfl #[.slice Ao27 y271.length co27,.int .i64 2] rfl (by (try simp only [List.map_toArray,List.map_cons,List.map_nil]);first|done|rfl|(simp only [List.length_drop,List.length_take];rfl)) ?_;(with_reducible refine (mdct_Forward.calls k _ _ y271 2 t274 t275 _ ?side1 ?side2 A5.out).mono ?_);(case side1 => repeat (first|exact (Kd.R_reads' HO273.out).2.2|(with_reducible refine Kd.C_alloc ?_ _)|(with_reducible refine Kd.C_drewN ?_ _)|(with_reducible refine Kd.C_drew ?_)));(case side2 => exact (Kd.R_reads' HO273.out).2.1);rintro e w28 ⟨v276,rfl,ho0,hb⟩;refine ⟨_,rfl,?_⟩;have n0_:=ak_ (Kd.R_elder' (by (with_reducible repeat (first|apply ra_|apply rb_|apply rc_));exact HO270.out) (Kd.R_base ho0) hb);have n1_:=ak_ (Kd.R_elder' (by (with_reducible repeat (first|apply ra_|apply rb_|apply rc_));exact HO273.out) (Kd.R_base ho0) hb);have n2_:=ak_ (Kd.R_lower (Kd.R_new' (Kd.R_new' ho0 (Kd.R_lt (by (with_reducible repeat (first|apply ra_|apply rb_|apply rc_));exact HO270.out))) (Kd.R_lt (by (with_reducible repeat (first|apply ra_|apply rb_|apply rc_));exact HO273.out))) (below_size (by repeat (first|(with_reducible first|exact HB.out|apply ba_|apply bb_|apply bc_)|exact HB.out))));have n3_:=ak_ (below_step (by repeat (first|(with_reducible first|exact HB.out|apply ba_|apply bb_|apply bc_)|exact HB.out)) hb);clear HO270;clear HO273;clear HB;have HO270:=n0_;have HO273:=n1_;have HO277:=n2_;have HB:=n3_;clear n0_ n1_ n2_ n3_;(try clear hb);(try clear ho0))|((with_reducible refine gate_callee (f:=12) rfl ?_);refine goesL_ (some 25) rfl rfl Try.func12 (by kernel_rfl) rfl #[.slice none 0 0,.int .i64 2] rfl (by (try simp only [List.map_toArray,List.map_cons,List.map_nil]);first|done|rfl|(simp only [List.length_drop,List.length_take];rfl)) ?_;(refine calls_of_args (args':=#[.slice none ([] : List Int).length 0,.int .i64 2]) (by rfl) ?_);(with_reducible refine (mdct_Inverse.calls k none 0 ([] : List Int) 2 t278 t279 _ ?side1 ?side2 A6.out).mono ?_);(case side1 => exact Kd.C_nil _ _);(case side2 => exact Nat.le_refl _);rintro e w29 ⟨v280,rfl,ho0,hb⟩;refine ⟨_,rfl,?_⟩;have n0_:=ak_ (Kd.R_elder' (by (with_reducible repeat (first|apply ra_|apply rb_|apply rc_));exact HO270.out) (Kd.R_base ho0) hb);have n1_:=ak_ (Kd.R_elder' (by (with_reducible repeat (first|apply ra_|apply rb_|apply rc_));exact HO273.out) (Kd.R_base ho0) hb);have n2_:=ak_ (Kd.R_elder' (by (with_reducible repeat (first|apply ra_|apply rb_|apply rc_));exact HO277.out) (Kd.R_base ho0) hb);have n3_:=ak_ (Kd.R_lower (Kd.R_new' (Kd.R_new' (Kd.R_new' ho0 (Kd.R_lt (by (with_reducible repeat (first|apply ra_|apply rb_|apply rc_));exact HO270.out))) (Kd.R_lt (by (with_reducible repeat (first|apply ra_|apply rb_|apply rc_));exact HO273.out))) (Kd.R_lt (by (with_reducible repeat (first|apply ra_|apply rb_|apply rc_));exact HO277.out))) (below_size (by repeat (first|(with_reducible first|exact HB.out|apply ba_|apply bb_|apply bc_)|exact HB.out))));have n4_:=ak_ (below_step (by repeat (first|(with_reducible first|exact HB.out|apply ba_|apply bb_|apply bc_)|exact HB.out)) hb);clear HO270;clear HO273;clear HO277;clear HB;have HO270:=n0_;have HO273:=n1_;have HO277:=n2_;have HO281:=n3_;have HB:=n4_;clear n0_ n1_ n2_ n3_ n4_;(try clear hb);(try clear ho0))|((with_reducible refine gate_callee (f:=13) rfl ?_);refine goesL_ (some 29) rfl rfl Try.func13 (by kernel_rfl) rfl #[.int .i64 481,.int .i64 3] rfl (by (try simp only [List.map_toArray,List.map_cons,List.map_nil]);first|done|rfl|(simp only [List.length_drop,List.length_take];rfl)) ?_;(with_reducible refine (mdct_New0.calls 481 3 t302 _ A16.out).mono ?_);rintro e w' ⟨rfl,⟨nd,rfl⟩⟩;refine ⟨_,rfl,?_⟩)|((with_reducible refine gate_callee (f:=13) rfl ?_);refine goesL_ (some 33) rfl rfl Try.func13 (by kernel_rfl) rfl #[.int .i64 4,.int .i64 2] rfl (by (try simp only [List.map_toArray,List.map_cons,List.map_nil]);first|done|rfl|(simp only [List.length_drop,List.length_take];rfl)) ?_;(with_reducible refine (mdct_New1.calls 4 2 t303 t304 t305 t307 w _ ?side1 A18.out).mono ?_);(case side1 => repeat (first|(with_reducible first|exact HB.out|apply ba_|apply bb_|apply bc_)|exact HB.out));rintro e w30 ⟨g306,rfl,hi,hb,hb2,hge⟩;refine ⟨_,rfl,?_⟩;have n0_:=ak_ (Kd.R_below (by (with_reducible repeat (first|apply ra_|apply rb_|apply rc_));exact HO270.out) hb2);have n1_:=ak_ (Kd.R_below (by (with_reducible repeat (first|apply ra_|apply rb_|apply rc_));exact HO273.out) hb2);have n2_:=ak_ (Kd.R_below (by (with_reducible repeat (first|apply ra_|apply rb_|apply rc_));exact HO277.out) hb2);have n3_:=ak_ (Kd.R_below (by (with_reducible repeat (first|apply ra_|apply rb_|apply rc_));exact HO281.out) hb2);have n4_:=ak_ (hb);have n5_:=ak_ (hi);clear HO270;clear HO273;clear HO277;clear HO281;clear HB;have HO270:=n0_;have HO273:=n1_;have HO277:=n2_;have HO281:=n3_;have HB:=n4_;have HI306:=n5_;clear n0_ n1_ n2_ n3_ n4_ n5_;(try clear hb);(try clear hb2);(try clear hi);(try clear hge))|((with_reducible refine gate_callee (f:=14) rfl ?_);refine goesL_ (some 38) rfl rfl Try.func14 (by kernel_rfl) rfl #[.pointer (some ⟨g306,0,none⟩),.slice none 0 0] rfl (by (try simp only [List.map_toArray,List.map_cons,List.map_nil]);first|done|rfl|(simp only [List.length_drop,List.length_take];rfl)) ?_;(refine calls_of_args (args':=#[.pointer (some ⟨g306,0,none⟩),.slice none ([] : List Int).length 0]) (by rfl) ?_);(with_reducible refine (mdct_Joiner_Next.calls k g306 t303 t304 t305 none 0 ([] : List Int) t308 t311 t312 t313 t314 w _ ?side1 ?side2 ?side3 ?side4 ?side5 A19.out).mono ?_);(case side1 => repeat (first|(with_reducible first|exact HI306.out|apply IsS52.alloc|apply IsS52.drewN|apply IsS52.drew)|exact HI306.out));(case side2 => repeat (first|(with_reducible first|exact HB.out|apply ba_|apply bb_|apply bc_|refine below_set ?_ (IsS52.ge HI306.out))|exact HB.out));(case side3 => exact Kd.C_nil _ _);(case side4 => exact Nat.le_refl _);(case side5 => intro ad he;cases he);rintro e w31 ⟨v309,rfl,ho0,hi,hb,hk⟩;refine ⟨_,rfl,?_⟩;have n0_:=ak_ (Kd.R_mono (Kd.R_told (Kd.R_oldK (IsS52.apart (show IsS52 w _ g306 t303 t304 t305 from by repeat (first|(with_reducible first|exact HI306.out|apply IsS52.alloc|apply IsS52.drewN|apply IsS52.drew)|exact HI306.out)) (by (with_reducible repeat (first|apply ra_|apply rb_|apply rc_));exact HO270.out) (by decide)) hk) (Kd.R_base ho0)) (fun _ h_ => h_.1));have n1_:=ak_ (Kd.R_mono (Kd.R_told (Kd.R_oldK (IsS52.apart (show IsS52 w _ g306 t303 t304 t305 from by repeat (first|(with_reducible first|exact HI306.out|apply IsS52.alloc|apply IsS52.drewN|apply IsS52.drew)|exact HI306.out)) (by (with_reducible repeat (first|apply ra_|apply rb_|apply rc_));exact HO273.out) (by decide)) hk) (Kd.R_base ho0)) (fun _ h_ => h_.1));have n2_:=ak_ (Kd.R_mono (Kd.R_told (Kd.R_oldK (IsS52.apart (show IsS52 w _ g306 t303 t304 t305 from by repeat (first|(with_reducible first|exact HI306.out|apply IsS52.alloc|apply IsS52.drewN|apply IsS52.drew)|exact HI306.out)) (by (with_reducible repeat (first|apply ra_|apply rb_|apply rc_));exact HO277.out) (by decide)) hk) (Kd.R_base ho0)) (fun _ h_ => h_.1));have n3_:=ak_ (Kd.R_mono (Kd.R_told (Kd.R_oldK (IsS52.apart (show IsS52 w _ g306 t303 t304 t305 from by repeat (first|(with_reducible first|exact HI306.out|apply IsS52.alloc|apply IsS52.drewN|apply IsS52.drew)|exact HI306.out)) (by (with_reducible repeat (first|apply ra_|apply rb_|apply rc_));exact HO281.out) (by decide)) hk) (Kd.R_base ho0)) (fun _ h_ => h_.1));have n4_:=ak_ (Kd.R_lower (Kd.R_new' (Kd.R_new' (Kd.R_new' (Kd.R_new' ho0 (Kd.R_lt (by (with_reducible repeat (first|apply ra_|apply rb_|apply rc_));exact HO270.out))) (Kd.R_lt (by (with_reducible repeat (first|apply ra_|apply rb_|apply rc_));exact HO273.out))) (Kd.R_lt (by (with_reducible repeat (first|apply ra_|apply rb_|apply rc_));exact HO277.out))) (Kd.R_lt (by (with_reducible repeat (first|apply ra_|apply rb_|apply rc_));exact HO281.out))) (below_size (by repeat (first|(with_reducible first|exact HB.out|apply ba_|apply bb_|apply bc_|refine below_set ?_ (IsS52.ge HI306.out))|exact HB.out))));have n5_:=ak_ (hb);have n6_:=ak_ (hi);clear HO270;clear HO273;clear HO277;clear HO281;clear HB;clear HI306;have HO270:=n0_;have HO273:=n1_;have HO277:=n2_;have HO281:=n3_;have HO310:=n4_;have HB:=n5_;have HI306:=n6_;clear n0_ n1_ n2_ n3_ n4_ n5_ n6_;(try clear hb);(try clear hk);(try clear hi);(try clear ho0)))
        go_ret
        exact ⟨by first|rfl|(simp [errW_none,errW_some] <;> rfl)|(simp [*,errW_none,errW_some] <;> rfl),by repeat (first|(with_reducible first|exact HB.out|apply ba_|apply bb_|apply bc_|refine below_set ?_ (IsS52.ge HI306.out))|exact HB.out)⟩
       ·rw [if_neg c22] at H
        exact absurd H (by simp)
      ·rw [if_neg c21] at H
       exact absurd H (by simp)
     ·rw [if_neg c20] at H
      exact absurd H (by simp)
    ·rw [if_neg c17] at H
     have c17b0 : (mdct_Good.f 4 2 == some true) = false:=beq_eq_false_iff_ne.mpr c17
     have c17b1 : (mdct_Good.f 4 2 != some true) = true:=bne_iff_ne.mpr c17
     replace H:=Option.bind_eq_some_iff.mp H
     obtain ⟨t316,A320,H⟩:=H
     (try dsimp only at H)
     have A32:=ak_ A320
     clear A320
     exact absurd H (by simp)
  ·rw [if_neg c4] at H
   exact absurd H (by simp)
 ·replace c2:=Bool.eq_false_iff.mpr c2
  subst c2
  have H1 : (none) = some r:=by rw [if_neg (show ¬ (false = true) by decide)] at H;exact H
  clear H
  have H:=H1
  clear H1
  exact absurd H (by simp)

/-- THE ONE PURE STATEMENT of madrigallaw15_MdctKnown. -/
def madrigallaw15_MdctKnown.Pure : Prop:=∃ k,madrigallaw15_MdctKnown.f k  = some true
theorem madrigallaw15_MdctKnown.walk (P : madrigallaw15_MdctKnown.Pure)  (w : World)  :
  Calls Try.prog 3 #[] w fun e w' => e = .returned (.bool true) ∧ Below w.heap.size w w':=by
 obtain ⟨k,h⟩:=P  
 refine (madrigallaw15_MdctKnown.calls k  true w h).mono ?_
 rintro e w' ⟨rfl,hd⟩
 exact ⟨rfl,hd⟩

end Go.Proofs.Ytlmacbiahofmcaa.P
