/- The machine side of the laws of one chapter, without conditions: each call of a Go function comes to what the Lean function of its name answers. Written for this claim by a program of the prover. -/
import Derived.Test.YtcicenmmpbgmoaaPx0
import Derived.Test.YtcicenmmpbgmoaaPx1
import Derived.Test.YtcicenmmpbgmoaaPx2
import Derived.Test.YtcicenmmpbgmoaaPx9
import Derived.Test.YtcicenmmpbgmoaaPx11
import Derived.Test.YtcicenmmpbgmoaaPx15
namespace Go.Proofs.Ytcicenmmpbgmoaa.P
open Go.RowKit Go.Proofs.YtcicenmmpbgmoaaW.PrintWords Go.Proofs.YtcicenmmpbgmoaaW.PrintLast Go.Proofs.YtcicenmmpbgmoaaW.PrintMore
attribute [local go_sem] max2_int min2_int max_two min_two max_three min_three max_four min_four   -- for this text's walks alone
set_option linter.unusedVariables false
set_option linter.unusedSimpArgs false

/-! ### madrigallaw22_ResampKnown: function 3 -/
def madrigallaw22_ResampKnown.f (k : Nat)  : Option (Bool):=(madrigallaw22_awake.f k).bind fun t215 => (if t215 = true then (if resamp_Good.f 8000 9 = some true then ((resamp_New1.f 8000 9).bind fun bt216 => (if resamp_Good.f 16000 8000 = some true then ((resamp_New1.f 16000 8000).bind fun bt221 => ((resamp_Sampler_Run.f k bt221.1 bt221.2.1 bt221.2.2.1 (([1] : List Int))).bind fun bt229 => ((resamp_Sampler_Run.f k bt229.2.2.1 bt229.2.2.2.1 bt229.2.2.2.2 ([] : List Int)).bind fun bt236 => (none)))) else ((resamp_New0.f 16000 8000).bind fun t244 => (none)))) else ((resamp_New0.f 8000 9).bind fun t249 => (if resamp_Good.f 16000 8000 = some true then ((resamp_New1.f 16000 8000).bind fun bt250 => ((resamp_Sampler_Run.f k bt250.1 bt250.2.1 bt250.2.2.1 (([1] : List Int))).bind fun bt258 => ((resamp_Sampler_Run.f k bt258.2.2.1 bt258.2.2.2.1 bt258.2.2.2.2 ([] : List Int)).bind fun bt265 => (if bt258.2.1 = 1 then (if bt265.2.1 = 0 then (if (bt265.1.length : Int) = 0 then ((resamp_Filter.f k 8000 16000 2).bind fun t272 => (if (t272.length : Int) = 0 then ((resamp_Filter.f k 1 2 0).bind fun t275 => (some ((t275.length : Int) == 0))) else (none))) else (none)) else (none)) else (none))))) else ((resamp_New0.f 16000 8000).bind fun t279 => (none))))) else (none))
theorem madrigallaw22_ResampKnown.mono : ∀ k,LeO (madrigallaw22_ResampKnown.f k ) (madrigallaw22_ResampKnown.f (k + 1) ):=by
 intro  k
 unfold madrigallaw22_ResampKnown.f
 repeat' first|(with_reducible first|exact madrigallaw22_awake.mono _|exact resamp_Filter.mono _ _ _ _|exact resamp_Sampler_Run.mono _ _ _ _ _|exact LeO.refl _|exact LeO.none _|refine LeO.ite ?_ ?_|refine LeO.bind ?_ (fun _ => ?_))|exact madrigallaw22_awake.mono _|exact resamp_Filter.mono _ _ _ _|exact resamp_Sampler_Run.mono _ _ _ _ _|exact LeO.none _|refine LeO.ite ?_ ?_|refine LeO.bind ?_ (fun _ => ?_)
set_option maxHeartbeats 8000000 in
set_option maxRecDepth 100000 in
theorem madrigallaw22_ResampKnown.calls (k : Nat)  (r : Bool) (w : World) (h : madrigallaw22_ResampKnown.f k  = some r) :
  Calls Try.prog 3 #[] w fun e w' => e = .returned (.bool r) ∧ Below w.heap.size w w':=by
 have HB:=ak_ (Below.refl w.heap.size w)
 have H : ((madrigallaw22_awake.f k).bind fun t215 => (if t215 = true then (if resamp_Good.f 8000 9 = some true then ((resamp_New1.f 8000 9).bind fun bt216 => (if resamp_Good.f 16000 8000 = some true then ((resamp_New1.f 16000 8000).bind fun bt221 => ((resamp_Sampler_Run.f k bt221.1 bt221.2.1 bt221.2.2.1 (([1] : List Int))).bind fun bt229 => ((resamp_Sampler_Run.f k bt229.2.2.1 bt229.2.2.2.1 bt229.2.2.2.2 ([] : List Int)).bind fun bt236 => (none)))) else ((resamp_New0.f 16000 8000).bind fun t244 => (none)))) else ((resamp_New0.f 8000 9).bind fun t249 => (if resamp_Good.f 16000 8000 = some true then ((resamp_New1.f 16000 8000).bind fun bt250 => ((resamp_Sampler_Run.f k bt250.1 bt250.2.1 bt250.2.2.1 (([1] : List Int))).bind fun bt258 => ((resamp_Sampler_Run.f k bt258.2.2.1 bt258.2.2.2.1 bt258.2.2.2.2 ([] : List Int)).bind fun bt265 => (if bt258.2.1 = 1 then (if bt265.2.1 = 0 then (if (bt265.1.length : Int) = 0 then ((resamp_Filter.f k 8000 16000 2).bind fun t272 => (if (t272.length : Int) = 0 then ((resamp_Filter.f k 1 2 0).bind fun t275 => (some ((t275.length : Int) == 0))) else (none))) else (none)) else (none)) else (none))))) else ((resamp_New0.f 16000 8000).bind fun t279 => (none))))) else (none))) = some r:=h
 clear h
 replace H:=Option.bind_eq_some_iff.mp H
 obtain ⟨t215,A10,H⟩:=H
 (try dsimp only at H)
 have A1:=ak_ A10
 clear A10
 by_cases c2 : t215 = true
 ·subst c2
  have H1 : (if resamp_Good.f 8000 9 = some true then ((resamp_New1.f 8000 9).bind fun bt216 => (if resamp_Good.f 16000 8000 = some true then ((resamp_New1.f 16000 8000).bind fun bt221 => ((resamp_Sampler_Run.f k bt221.1 bt221.2.1 bt221.2.2.1 (([1] : List Int))).bind fun bt229 => ((resamp_Sampler_Run.f k bt229.2.2.1 bt229.2.2.2.1 bt229.2.2.2.2 ([] : List Int)).bind fun bt236 => (none)))) else ((resamp_New0.f 16000 8000).bind fun t244 => (none)))) else ((resamp_New0.f 8000 9).bind fun t249 => (if resamp_Good.f 16000 8000 = some true then ((resamp_New1.f 16000 8000).bind fun bt250 => ((resamp_Sampler_Run.f k bt250.1 bt250.2.1 bt250.2.2.1 (([1] : List Int))).bind fun bt258 => ((resamp_Sampler_Run.f k bt258.2.2.1 bt258.2.2.2.1 bt258.2.2.2.2 ([] : List Int)).bind fun bt265 => (if bt258.2.1 = 1 then (if bt265.2.1 = 0 then (if (bt265.1.length : Int) = 0 then ((resamp_Filter.f k 8000 16000 2).bind fun t272 => (if (t272.length : Int) = 0 then ((resamp_Filter.f k 1 2 0).bind fun t275 => (some ((t275.length : Int) == 0))) else (none))) else (none)) else (none)) else (none))))) else ((resamp_New0.f 16000 8000).bind fun t279 => (none))))) = some r:=by rw [if_pos rfl] at H;exact H
  clear H
  have H:=H1
  clear H1
  by_cases c3 : resamp_Good.f 8000 9 = some true
  ·rw [if_pos c3] at H
   have c3b0 : (resamp_Good.f 8000 9 == some true) = true:=beq_iff_eq.mpr c3
   have c3b1 : (resamp_Good.f 8000 9 != some true) = false:=bne_eq_false_iff_eq.mpr c3
   clear c3
   replace H:=Option.bind_eq_some_iff.mp H
   obtain ⟨⟨t216,t217,t218,t220⟩,A40,H⟩:=H
   (try dsimp only at H)
   have A4:=ak_ A40
   clear A40
   by_cases c5 : resamp_Good.f 16000 8000 = some true
   ·rw [if_pos c5] at H
    have c5b0 : (resamp_Good.f 16000 8000 == some true) = true:=beq_iff_eq.mpr c5
    have c5b1 : (resamp_Good.f 16000 8000 != some true) = false:=bne_eq_false_iff_eq.mpr c5
    clear c5
    replace H:=Option.bind_eq_some_iff.mp H
    obtain ⟨⟨t221,t222,t223,t225⟩,A60,H⟩:=H
    (try dsimp only at H)
    have A6:=ak_ A60
    clear A60
    obtain ⟨y226,hy226⟩ : ∃ y_ : List Int,y_ = (([1] : List Int)):=⟨_,rfl⟩
    replace H : ((resamp_Sampler_Run.f k t221 t222 t223 y226).bind fun bt229 => ((resamp_Sampler_Run.f k bt229.2.2.1 bt229.2.2.2.1 bt229.2.2.2.2 ([] : List Int)).bind fun bt236 => (none))) = some r:=by first|(rw [hy226];with_reducible exact H)|(have H2_:=(Option.bind_some _ _).symm.trans H;rw [hy226];with_reducible exact H2_)|(have H2_:=(Option.bind_some _ _).symm.trans H;with_reducible exact H2_)|with_reducible exact H|(rw [hy226];exact H)|exact H
    have Ny226:=ak_ hy226
    clear hy226
    replace H:=Option.bind_eq_some_iff.mp H
    obtain ⟨⟨t229,t232,t233,t234,t235⟩,A70,H⟩:=H
    (try dsimp only at H)
    have A7:=ak_ A70
    clear A70
    replace H:=Option.bind_eq_some_iff.mp H
    obtain ⟨⟨t236,t239,t240,t241,t242⟩,A80,H⟩:=H
    (try dsimp only at H)
    have A8:=ak_ A80
    clear A80
    exact absurd H (by simp)
   ·rw [if_neg c5] at H
    have c5b0 : (resamp_Good.f 16000 8000 == some true) = false:=beq_eq_false_iff_ne.mpr c5
    have c5b1 : (resamp_Good.f 16000 8000 != some true) = true:=bne_iff_ne.mpr c5
    replace H:=Option.bind_eq_some_iff.mp H
    obtain ⟨t244,A90,H⟩:=H
    (try dsimp only at H)
    have A9:=ak_ A90
    clear A90
    obtain ⟨y245,hy245⟩ : ∃ y_ : List Int,y_ = (([1] : List Int)):=⟨_,rfl⟩
    replace H : (none) = some r:=by first|(rw [hy245];with_reducible exact H)|(have H2_:=(Option.bind_some _ _).symm.trans H;rw [hy245];with_reducible exact H2_)|(have H2_:=(Option.bind_some _ _).symm.trans H;with_reducible exact H2_)|with_reducible exact H|(rw [hy245];exact H)|exact H
    have Ny245:=ak_ hy245
    clear hy245
    exact absurd H (by simp)
  ·rw [if_neg c3] at H
   have c3b0 : (resamp_Good.f 8000 9 == some true) = false:=beq_eq_false_iff_ne.mpr c3
   have c3b1 : (resamp_Good.f 8000 9 != some true) = true:=bne_iff_ne.mpr c3
   replace H:=Option.bind_eq_some_iff.mp H
   obtain ⟨t249,A100,H⟩:=H
   (try dsimp only at H)
   have A10:=ak_ A100
   clear A100
   by_cases c11 : resamp_Good.f 16000 8000 = some true
   ·rw [if_pos c11] at H
    have c11b0 : (resamp_Good.f 16000 8000 == some true) = true:=beq_iff_eq.mpr c11
    have c11b1 : (resamp_Good.f 16000 8000 != some true) = false:=bne_eq_false_iff_eq.mpr c11
    clear c11
    replace H:=Option.bind_eq_some_iff.mp H
    obtain ⟨⟨t250,t251,t252,t254⟩,A120,H⟩:=H
    (try dsimp only at H)
    have A12:=ak_ A120
    clear A120
    obtain ⟨y255,hy255⟩ : ∃ y_ : List Int,y_ = (([1] : List Int)):=⟨_,rfl⟩
    replace H : ((resamp_Sampler_Run.f k t250 t251 t252 y255).bind fun bt258 => ((resamp_Sampler_Run.f k bt258.2.2.1 bt258.2.2.2.1 bt258.2.2.2.2 ([] : List Int)).bind fun bt265 => (if bt258.2.1 = 1 then (if bt265.2.1 = 0 then (if (bt265.1.length : Int) = 0 then ((resamp_Filter.f k 8000 16000 2).bind fun t272 => (if (t272.length : Int) = 0 then ((resamp_Filter.f k 1 2 0).bind fun t275 => (some ((t275.length : Int) == 0))) else (none))) else (none)) else (none)) else (none)))) = some r:=by first|(rw [hy255];with_reducible exact H)|(have H2_:=(Option.bind_some _ _).symm.trans H;rw [hy255];with_reducible exact H2_)|(have H2_:=(Option.bind_some _ _).symm.trans H;with_reducible exact H2_)|with_reducible exact H|(rw [hy255];exact H)|exact H
    have Ny255:=ak_ hy255
    clear hy255
    replace H:=Option.bind_eq_some_iff.mp H
    obtain ⟨⟨t258,t261,t262,t263,t264⟩,A130,H⟩:=H
    (try dsimp only at H)
    have A13:=ak_ A130
    clear A130
    replace H:=Option.bind_eq_some_iff.mp H
    obtain ⟨⟨t265,t268,t269,t270,t271⟩,A140,H⟩:=H
    (try dsimp only at H)
    have A14:=ak_ A140
    clear A140
    by_cases c15 : t261 = 1
    ·rw [if_pos c15] at H
     have c15b0 : (t261 == 1) = true:=beq_iff_eq.mpr c15
     have c15b1 : (t261 != 1) = false:=bne_eq_false_iff_eq.mpr c15
     clear c15
     by_cases c16 : t268 = 0
     ·rw [if_pos c16] at H
      have c16b0 : (t268 == 0) = true:=beq_iff_eq.mpr c16
      have c16b1 : (t268 != 0) = false:=bne_eq_false_iff_eq.mpr c16
      clear c16
      by_cases c17 : (t265.length : Int) = 0
      ·rw [if_pos c17] at H
       have c17b0 : ((t265.length : Int) == 0) = true:=beq_iff_eq.mpr c17
       have c17b1 : ((t265.length : Int) != 0) = false:=bne_eq_false_iff_eq.mpr c17
       clear c17
       replace H:=Option.bind_eq_some_iff.mp H
       obtain ⟨t272,A180,H⟩:=H
       (try dsimp only at H)
       have A18:=ak_ A180
       clear A180
       by_cases c19 : (t272.length : Int) = 0
       ·rw [if_pos c19] at H
        have c19b0 : ((t272.length : Int) == 0) = true:=beq_iff_eq.mpr c19
        have c19b1 : ((t272.length : Int) != 0) = false:=bne_eq_false_iff_eq.mpr c19
        clear c19
        replace H:=Option.bind_eq_some_iff.mp H
        obtain ⟨t275,A200,H⟩:=H
        (try dsimp only at H)
        have A20:=ak_ A200
        clear A200
        obtain rfl:=Option.some.inj H
        go_enter Try.func3,Try.ntmps3
        go_wp2_with (first|((with_reducible refine gate_callee (f:=11) rfl ?_);refine goesL_ (some 9) rfl rfl Try.func11 (by kernel_rfl) rfl #[] rfl (by (try simp only [List.map_toArray,List.map_cons,List.map_nil]);first|done|rfl|(simp only [List.length_drop,List.length_take];rfl)) ?_;(with_reducible refine (madrigallaw22_awake.calls k  true _ A1.out).mono ?_);rintro e w21 ⟨rfl,hb⟩;refine ⟨_,rfl,?_⟩;have n0_:=ak_ (below_step (by repeat (first|(with_reducible first|exact HB.out|apply ba_|apply bb_|apply bc_)|exact HB.out)) hb);clear HB;have HB:=n0_;clear n0_;(try clear hb))|((with_reducible refine gate_callee (f:=12) rfl ?_);refine goesL_ (some 12) rfl rfl Try.func12 (by kernel_rfl) rfl #[.int .i64 8000,.int .i64 9] rfl (by (try simp only [List.map_toArray,List.map_cons,List.map_nil]);first|done|rfl|(simp only [List.length_drop,List.length_take];rfl)) ?_;(with_reducible refine (resamp_New0.calls 8000 9 t249 _ A10.out).mono ?_);rintro e w' ⟨rfl,⟨nd,rfl⟩⟩;refine ⟨_,rfl,?_⟩)|((with_reducible refine gate_callee (f:=12) rfl ?_);refine goesL_ (some 16) rfl rfl Try.func12 (by kernel_rfl) rfl #[.int .i64 16000,.int .i64 8000] rfl (by (try simp only [List.map_toArray,List.map_cons,List.map_nil]);first|done|rfl|(simp only [List.length_drop,List.length_take];rfl)) ?_;(with_reducible refine (resamp_New1.calls 16000 8000 t250 t251 t252 t254 w _ ?side1 A12.out).mono ?_);(case side1 => repeat (first|(with_reducible first|exact HB.out|apply ba_|apply bb_|apply bc_)|exact HB.out));rintro e w22 ⟨g253,rfl,hi,hb,hb2,hge⟩;refine ⟨_,rfl,?_⟩;have n0_:=ak_ (hb);have n1_:=ak_ (hi);clear HB;have HB:=n0_;have HI253:=n1_;clear n0_ n1_;(try clear hb);(try clear hb2);(try clear hi);(try clear hge))|((with_reducible refine gate_dst (N:=21) rfl ?_);(try (refine gate_guard (by rfl) ?_;dsimp only));refine Kd.R_lit (Kd.int .i64) _ 2 ?hg (N:=21) ?hd (xs:=([1] : List Int)) (inner:=[.int .i64 1]) (ok:=fun _ => True) (okp:=fun _ => True) ?hr ?hp (fun _ hk => hk) trivial (Below.refl _ _) (Nat.le_refl _) (by simp) ?_;(case hd => rfl);(case hg => rfl);(case hr => first|(go_simp;done)|(go_simp;rfl));(case hp => exact (Reps.one (show Kd.M (Kd.int .i64) _ _ _ 1 [.int .i64 1] from rfl) (Reps.none _ _)));intro v256 w23 ho24 hb hg_ hnew_;clear hg_ hnew_;(first|rw [← Ny255.out] at ho24|(simp only [Int.reduceToNat] at ho24;rw [← Ny255.out] at ho24));have n0_:=ak_ (Kd.R_lower ho24 (below_size (by repeat (first|(with_reducible first|exact HB.out|apply ba_|apply bb_|apply bc_|refine below_set ?_ (IsS53.ge HI253.out))|exact HB.out))));have n1_:=ak_ (IsS53.below (by repeat (first|(with_reducible first|exact HI253.out|apply IsS53.alloc|apply IsS53.drewN|apply IsS53.drew)|exact HI253.out)) hb);have n2_:=ak_ (below_step (by repeat (first|(with_reducible first|exact HB.out|apply ba_|apply bb_|apply bc_|refine below_set ?_ (IsS53.ge HI253.out))|exact HB.out)) hb);clear HI253;clear HB;have HO257:=n0_;have HI253:=n1_;have HB:=n2_;clear n0_ n1_ n2_;clear hb ho24;obtain ⟨Ao25,co25,eo25⟩:=Kd.R_slice HO257.out;subst eo25)|((with_reducible refine gate_callee (f:=13) rfl ?_);refine goesL_ (some 22) rfl rfl Try.func13 (by kernel_rfl) rfl #[.pointer (some ⟨g253,0,none⟩),.slice Ao25 y255.length co25] rfl (by (try simp only [List.map_toArray,List.map_cons,List.map_nil]);first|done|rfl|(simp only [List.length_drop,List.length_take];rfl)) ?_;(with_reducible refine (resamp_Sampler_Run.calls k g253 t250 t251 t252 _ _ y255 t258 t261 t262 t263 t264 w _ ?side1 ?side2 ?side3 ?side4 ?side5 A13.out).mono ?_);(case side1 => repeat (first|(with_reducible first|exact HI253.out|apply IsS53.alloc|apply IsS53.drewN|apply IsS53.drew)|exact HI253.out));(case side2 => repeat (first|(with_reducible first|exact HB.out|apply ba_|apply bb_|apply bc_|refine below_set ?_ (IsS53.ge HI253.out))|exact HB.out));(case side3 => repeat (first|exact (Kd.R_reads' HO257.out).2.2|(with_reducible refine Kd.C_alloc ?_ _)|(with_reducible refine Kd.C_drewN ?_ _)|(with_reducible refine Kd.C_drew ?_)));(case side4 => exact (Kd.R_reads' HO257.out).2.1);(case side5 => exact far_slice (IsS53.own_ne HI253.out HO257.out (by decide)));rintro e w26 ⟨v259,rfl,ho0,hi,hb,hk⟩;refine ⟨_,rfl,?_⟩;have n0_:=ak_ (Kd.R_mono (Kd.R_told (Kd.R_oldK (IsS53.apart (show IsS53 w _ g253 t250 t251 t252 from by repeat (first|(with_reducible first|exact HI253.out|apply IsS53.alloc|apply IsS53.drewN|apply IsS53.drew)|exact HI253.out)) (by (with_reducible repeat (first|apply ra_|apply rb_|apply rc_));exact HO257.out) (by decide)) hk) (Kd.R_base ho0)) (fun _ h_ => h_.1));have n1_:=ak_ (Kd.R_lower (Kd.R_new' ho0 (Kd.R_lt (by (with_reducible repeat (first|apply ra_|apply rb_|apply rc_));exact HO257.out))) (below_size (by repeat (first|(with_reducible first|exact HB.out|apply ba_|apply bb_|apply bc_|refine below_set ?_ (IsS53.ge HI253.out))|exact HB.out))));have n2_:=ak_ (hb);have n3_:=ak_ (hi);clear HO257;clear HB;clear HI253;have HO257:=n0_;have HO260:=n1_;have HB:=n2_;have HI253:=n3_;clear n0_ n1_ n2_ n3_;(try clear hb);(try clear hk);(try clear hi);(try clear ho0))|((with_reducible refine gate_callee (f:=13) rfl ?_);refine goesL_ (some 27) rfl rfl Try.func13 (by kernel_rfl) rfl #[.pointer (some ⟨g253,0,none⟩),.slice none 0 0] rfl (by (try simp only [List.map_toArray,List.map_cons,List.map_nil]);first|done|rfl|(simp only [List.length_drop,List.length_take];rfl)) ?_;(refine calls_of_args (args':=#[.pointer (some ⟨g253,0,none⟩),.slice none ([] : List Int).length 0]) (by rfl) ?_);(with_reducible refine (resamp_Sampler_Run.calls k g253 t262 t263 t264 none 0 ([] : List Int) t265 t268 t269 t270 t271 w _ ?side1 ?side2 ?side3 ?side4 ?side5 A14.out).mono ?_);(case side1 => repeat (first|(with_reducible first|exact HI253.out|apply IsS53.alloc|apply IsS53.drewN|apply IsS53.drew)|exact HI253.out));(case side2 => repeat (first|(with_reducible first|exact HB.out|apply ba_|apply bb_|apply bc_|refine below_set ?_ (IsS53.ge HI253.out))|exact HB.out));(case side3 => exact Kd.C_nil _ _);(case side4 => exact Nat.le_refl _);(case side5 => intro ad he;cases he);rintro e w27 ⟨v266,rfl,ho0,hi,hb,hk⟩;refine ⟨_,rfl,?_⟩;have n0_:=ak_ (Kd.R_mono (Kd.R_told (Kd.R_oldK (IsS53.apart (show IsS53 w _ g253 t262 t263 t264 from by repeat (first|(with_reducible first|exact HI253.out|apply IsS53.alloc|apply IsS53.drewN|apply IsS53.drew)|exact HI253.out)) (by (with_reducible repeat (first|apply ra_|apply rb_|apply rc_));exact HO257.out) (by decide)) hk) (Kd.R_base ho0)) (fun _ h_ => h_.1));have n1_:=ak_ (Kd.R_mono (Kd.R_told (Kd.R_oldK (IsS53.apart (show IsS53 w _ g253 t262 t263 t264 from by repeat (first|(with_reducible first|exact HI253.out|apply IsS53.alloc|apply IsS53.drewN|apply IsS53.drew)|exact HI253.out)) (by (with_reducible repeat (first|apply ra_|apply rb_|apply rc_));exact HO260.out) (by decide)) hk) (Kd.R_base ho0)) (fun _ h_ => h_.1));have n2_:=ak_ (Kd.R_lower (Kd.R_new' (Kd.R_new' ho0 (Kd.R_lt (by (with_reducible repeat (first|apply ra_|apply rb_|apply rc_));exact HO257.out))) (Kd.R_lt (by (with_reducible repeat (first|apply ra_|apply rb_|apply rc_));exact HO260.out))) (below_size (by repeat (first|(with_reducible first|exact HB.out|apply ba_|apply bb_|apply bc_|refine below_set ?_ (IsS53.ge HI253.out))|exact HB.out))));have n3_:=ak_ (hb);have n4_:=ak_ (hi);clear HO257;clear HO260;clear HB;clear HI253;have HO257:=n0_;have HO260:=n1_;have HO267:=n2_;have HB:=n3_;have HI253:=n4_;clear n0_ n1_ n2_ n3_ n4_;(try clear hb);(try clear hk);(try clear hi);(try clear ho0);obtain ⟨Ao28,co28,eo28⟩:=Kd.R_slice HO267.out;subst eo28)|(go_at_call 14;(with_reducible refine (resamp_Filter.calls k 8000 16000 2 t272 _ A18.out).mono ?_);rintro e w29 ⟨v273,rfl,ho0,hb⟩;have n0_:=ak_ (Kd.R_elder' (by (with_reducible repeat (first|apply ra_|apply rb_|apply rc_));exact HO257.out) (Kd.R_base ho0) hb);have n1_:=ak_ (Kd.R_elder' (by (with_reducible repeat (first|apply ra_|apply rb_|apply rc_));exact HO260.out) (Kd.R_base ho0) hb);have n2_:=ak_ (Kd.R_elder' (by (with_reducible repeat (first|apply ra_|apply rb_|apply rc_));exact HO267.out) (Kd.R_base ho0) hb);have n3_:=ak_ (Kd.R_lower (Kd.R_new' (Kd.R_new' (Kd.R_new' ho0 (Kd.R_lt (by (with_reducible repeat (first|apply ra_|apply rb_|apply rc_));exact HO257.out))) (Kd.R_lt (by (with_reducible repeat (first|apply ra_|apply rb_|apply rc_));exact HO260.out))) (Kd.R_lt (by (with_reducible repeat (first|apply ra_|apply rb_|apply rc_));exact HO267.out))) (below_size (by repeat (first|(with_reducible first|exact HB.out|apply ba_|apply bb_|apply bc_|refine below_set ?_ (IsS53.ge HI253.out))|exact HB.out))));have n4_:=ak_ (IsS53.below (by repeat (first|(with_reducible first|exact HI253.out|apply IsS53.alloc|apply IsS53.drewN|apply IsS53.drew)|exact HI253.out)) hb);have n5_:=ak_ (below_step (by repeat (first|(with_reducible first|exact HB.out|apply ba_|apply bb_|apply bc_|refine below_set ?_ (IsS53.ge HI253.out))|exact HB.out)) hb);clear HO257;clear HO260;clear HO267;clear HI253;clear HB;have HO257:=n0_;have HO260:=n1_;have HO267:=n2_;have HO274:=n3_;have HI253:=n4_;have HB:=n5_;clear n0_ n1_ n2_ n3_ n4_ n5_;(try clear hb);(try clear ho0);obtain ⟨Ao30,co30,eo30⟩:=Kd.R_slice HO274.out;subst eo30)|(go_at_call 14;(with_reducible refine (resamp_Filter.calls k 1 2 0 t275 _ A20.out).mono ?_);rintro e w31 ⟨v276,rfl,ho0,hb⟩;have n0_:=ak_ (Kd.R_elder' (by (with_reducible repeat (first|apply ra_|apply rb_|apply rc_));exact HO257.out) (Kd.R_base ho0) hb);have n1_:=ak_ (Kd.R_elder' (by (with_reducible repeat (first|apply ra_|apply rb_|apply rc_));exact HO260.out) (Kd.R_base ho0) hb);have n2_:=ak_ (Kd.R_elder' (by (with_reducible repeat (first|apply ra_|apply rb_|apply rc_));exact HO267.out) (Kd.R_base ho0) hb);have n3_:=ak_ (Kd.R_elder' (by (with_reducible repeat (first|apply ra_|apply rb_|apply rc_));exact HO274.out) (Kd.R_base ho0) hb);have n4_:=ak_ (Kd.R_lower (Kd.R_new' (Kd.R_new' (Kd.R_new' (Kd.R_new' ho0 (Kd.R_lt (by (with_reducible repeat (first|apply ra_|apply rb_|apply rc_));exact HO257.out))) (Kd.R_lt (by (with_reducible repeat (first|apply ra_|apply rb_|apply rc_));exact HO260.out))) (Kd.R_lt (by (with_reducible repeat (first|apply ra_|apply rb_|apply rc_));exact HO267.out))) (Kd.R_lt (by (with_reducible repeat (first|apply ra_|apply rb_|apply rc_));exact HO274.out))) (below_size (by repeat (first|(with_reducible first|exact HB.out|apply ba_|apply bb_|apply bc_|refine below_set ?_ (IsS53.ge HI253.out))|exact HB.out))));have n5_:=ak_ (IsS53.below (by repeat (first|(with_reducible first|exact HI253.out|apply IsS53.alloc|apply IsS53.drewN|apply IsS53.drew)|exact HI253.out)) hb);have n6_:=ak_ (below_step (by repeat (first|(with_reducible first|exact HB.out|apply ba_|apply bb_|apply bc_|refine below_set ?_ (IsS53.ge HI253.out))|exact HB.out)) hb);clear HO257;clear HO260;clear HO267;clear HO274;clear HI253;clear HB;have HO257:=n0_;have HO260:=n1_;have HO267:=n2_;have HO274:=n3_;have HO277:=n4_;have HI253:=n5_;have HB:=n6_;clear n0_ n1_ n2_ n3_ n4_ n5_ n6_;(try clear hb);(try clear ho0);obtain ⟨Ao32,co32,eo32⟩:=Kd.R_slice HO277.out;subst eo32))
        go_ret
        exact ⟨by first|rfl|(simp [errW_none,errW_some] <;> rfl)|(simp [*,errW_none,errW_some] <;> rfl),by repeat (first|(with_reducible first|exact HB.out|apply ba_|apply bb_|apply bc_|refine below_set ?_ (IsS53.ge HI253.out))|exact HB.out)⟩
       ·rw [if_neg c19] at H
        exact absurd H (by simp)
      ·rw [if_neg c17] at H
       exact absurd H (by simp)
     ·rw [if_neg c16] at H
      exact absurd H (by simp)
    ·rw [if_neg c15] at H
     exact absurd H (by simp)
   ·rw [if_neg c11] at H
    have c11b0 : (resamp_Good.f 16000 8000 == some true) = false:=beq_eq_false_iff_ne.mpr c11
    have c11b1 : (resamp_Good.f 16000 8000 != some true) = true:=bne_iff_ne.mpr c11
    replace H:=Option.bind_eq_some_iff.mp H
    obtain ⟨t279,A330,H⟩:=H
    (try dsimp only at H)
    have A33:=ak_ A330
    clear A330
    obtain ⟨y280,hy280⟩ : ∃ y_ : List Int,y_ = (([1] : List Int)):=⟨_,rfl⟩
    replace H : (none) = some r:=by first|(rw [hy280];with_reducible exact H)|(have H2_:=(Option.bind_some _ _).symm.trans H;rw [hy280];with_reducible exact H2_)|(have H2_:=(Option.bind_some _ _).symm.trans H;with_reducible exact H2_)|with_reducible exact H|(rw [hy280];exact H)|exact H
    have Ny280:=ak_ hy280
    clear hy280
    exact absurd H (by simp)
 ·replace c2:=Bool.eq_false_iff.mpr c2
  subst c2
  have H1 : (none) = some r:=by rw [if_neg (show ¬ (false = true) by decide)] at H;exact H
  clear H
  have H:=H1
  clear H1
  exact absurd H (by simp)

/-- THE ONE PURE STATEMENT of madrigallaw22_ResampKnown. -/
def madrigallaw22_ResampKnown.Pure : Prop:=∃ k,madrigallaw22_ResampKnown.f k  = some true
theorem madrigallaw22_ResampKnown.walk (P : madrigallaw22_ResampKnown.Pure)  (w : World)  :
  Calls Try.prog 3 #[] w fun e w' => e = .returned (.bool true) ∧ Below w.heap.size w w':=by
 obtain ⟨k,h⟩:=P  
 refine (madrigallaw22_ResampKnown.calls k  true w h).mono ?_
 rintro e w' ⟨rfl,hd⟩
 exact ⟨rfl,hd⟩

end Go.Proofs.Ytcicenmmpbgmoaa.P
