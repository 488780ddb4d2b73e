/- The machine side of the laws of one chapter, without conditions: each call of a Go function comes to what the Lean function of its name answers. Written for this claim by a program of the prover. -/
import Derived.Test.YtcicenmmpbgmoaaPx0
import Derived.Test.YtcicenmmpbgmoaaPx1
import Derived.Test.YtcicenmmpbgmoaaPx2
import Derived.Test.YtcicenmmpbgmoaaPx9
import Derived.Test.YtcicenmmpbgmoaaPx11
import Derived.Test.YtcicenmmpbgmoaaPx12
import Derived.Test.YtcicenmmpbgmoaaPx13
import Derived.Test.YtcicenmmpbgmoaaPx14
namespace Go.Proofs.Ytcicenmmpbgmoaa.P
open Go.RowKit Go.Proofs.YtcicenmmpbgmoaaW.PrintWords Go.Proofs.YtcicenmmpbgmoaaW.PrintLast Go.Proofs.YtcicenmmpbgmoaaW.PrintMore
attribute [local go_sem] max2_int min2_int max_two min_two max_three min_three max_four min_four   -- for this text's walks alone
set_option linter.unusedVariables false
set_option linter.unusedSimpArgs false

/-! ### madrigallaw22_awake: function 11 -/
def madrigallaw22_awake.f (k : Nat)  : Option (Bool):=(resamp_Filter.f k 8000 16000 0).bind fun t184 => (if resamp_Good.f 8000 16000 = some true then ((resamp_New1.f 8000 16000).bind fun bt187 => ((resamp_Sampler_Run.f k bt187.1 bt187.2.1 bt187.2.2.1 (([9000,9000,9000] : List Int))).bind fun bt195 => ((resamp_Sampler_Copy.f bt195.2.2.1 bt195.2.2.2.1 bt195.2.2.2.2).bind fun bt202 => ((resamp_Sampler_Reset.f bt195.2.2.1 bt195.2.2.2.1 bt195.2.2.2.2).bind fun bt206 => (if (t184.length : Int) = 16 then ((madrigallaw22_sum.f k t184).bind fun t209 => (if t209 = 32768 then (if bt195.2.1 = 0 then (if (bt195.1.length : Int) = 6 then ((resamp_Sampler_Same.f bt202.1 bt202.2.1 bt202.2.2 bt206.1 bt206.2.1 bt206.2.2).bind fun t210 => (if t210 = true then (none) else ((resamp_Good.f 8000 48000).bind fun t211 => (if t211 = true then ((resamp_Good.f 8000 44100).bind fun t212 => (some (!t212))) else (none))))) else (none)) else (none)) else (none))) else (none)))))) else ((resamp_New0.f 8000 16000).bind fun t214 => (none)))
theorem madrigallaw22_awake.mono : ∀ k,LeO (madrigallaw22_awake.f k ) (madrigallaw22_awake.f (k + 1) ):=by
 intro  k
 unfold madrigallaw22_awake.f
 repeat' first|(with_reducible first|exact madrigallaw22_sum.mono _ _|exact resamp_Filter.mono _ _ _ _|exact resamp_Sampler_Run.mono _ _ _ _ _|exact LeO.refl _|exact LeO.none _|refine LeO.ite ?_ ?_|refine LeO.bind ?_ (fun _ => ?_))|exact madrigallaw22_sum.mono _ _|exact resamp_Filter.mono _ _ _ _|exact resamp_Sampler_Run.mono _ _ _ _ _|exact LeO.none _|refine LeO.ite ?_ ?_|refine LeO.bind ?_ (fun _ => ?_)
set_option maxHeartbeats 8000000 in
set_option maxRecDepth 100000 in
theorem madrigallaw22_awake.calls (k : Nat)  (r : Bool) (w : World) (h : madrigallaw22_awake.f k  = some r) :
  Calls Try.prog 11 #[] w fun e w' => e = .returned (.bool r) ∧ Below w.heap.size w w':=by
 have HB:=ak_ (Below.refl w.heap.size w)
 have H : ((resamp_Filter.f k 8000 16000 0).bind fun t184 => (if resamp_Good.f 8000 16000 = some true then ((resamp_New1.f 8000 16000).bind fun bt187 => ((resamp_Sampler_Run.f k bt187.1 bt187.2.1 bt187.2.2.1 (([9000,9000,9000] : List Int))).bind fun bt195 => ((resamp_Sampler_Copy.f bt195.2.2.1 bt195.2.2.2.1 bt195.2.2.2.2).bind fun bt202 => ((resamp_Sampler_Reset.f bt195.2.2.1 bt195.2.2.2.1 bt195.2.2.2.2).bind fun bt206 => (if (t184.length : Int) = 16 then ((madrigallaw22_sum.f k t184).bind fun t209 => (if t209 = 32768 then (if bt195.2.1 = 0 then (if (bt195.1.length : Int) = 6 then ((resamp_Sampler_Same.f bt202.1 bt202.2.1 bt202.2.2 bt206.1 bt206.2.1 bt206.2.2).bind fun t210 => (if t210 = true then (none) else ((resamp_Good.f 8000 48000).bind fun t211 => (if t211 = true then ((resamp_Good.f 8000 44100).bind fun t212 => (some (!t212))) else (none))))) else (none)) else (none)) else (none))) else (none)))))) else ((resamp_New0.f 8000 16000).bind fun t214 => (none)))) = some r:=h
 clear h
 replace H:=Option.bind_eq_some_iff.mp H
 obtain ⟨t184,A10,H⟩:=H
 (try dsimp only at H)
 have A1:=ak_ A10
 clear A10
 by_cases c2 : resamp_Good.f 8000 16000 = some true
 ·rw [if_pos c2] at H
  have c2b0 : (resamp_Good.f 8000 16000 == some true) = true:=beq_iff_eq.mpr c2
  have c2b1 : (resamp_Good.f 8000 16000 != some true) = false:=bne_eq_false_iff_eq.mpr c2
  clear c2
  replace H:=Option.bind_eq_some_iff.mp H
  obtain ⟨⟨t187,t188,t189,t191⟩,A30,H⟩:=H
  (try dsimp only at H)
  have A3:=ak_ A30
  clear A30
  obtain ⟨y192,hy192⟩ : ∃ y_ : List Int,y_ = (([9000,9000,9000] : List Int)):=⟨_,rfl⟩
  replace H : ((resamp_Sampler_Run.f k t187 t188 t189 y192).bind fun bt195 => ((resamp_Sampler_Copy.f bt195.2.2.1 bt195.2.2.2.1 bt195.2.2.2.2).bind fun bt202 => ((resamp_Sampler_Reset.f bt195.2.2.1 bt195.2.2.2.1 bt195.2.2.2.2).bind fun bt206 => (if (t184.length : Int) = 16 then ((madrigallaw22_sum.f k t184).bind fun t209 => (if t209 = 32768 then (if bt195.2.1 = 0 then (if (bt195.1.length : Int) = 6 then ((resamp_Sampler_Same.f bt202.1 bt202.2.1 bt202.2.2 bt206.1 bt206.2.1 bt206.2.2).bind fun t210 => (if t210 = true then (none) else ((resamp_Good.f 8000 48000).bind fun t211 => (if t211 = true then ((resamp_Good.f 8000 44100).bind fun t212 => (some (!t212))) else (none))))) else (none)) else (none)) else (none))) else (none))))) = some r:=by first|(rw [hy192];with_reducible exact H)|(have H2_:=(Option.bind_some _ _).symm.trans H;rw [hy192];with_reducible exact H2_)|(have H2_:=(Option.bind_some _ _).symm.trans H;with_reducible exact H2_)|with_reducible exact H|(rw [hy192];exact H)|exact H
  have Ny192:=ak_ hy192
  clear hy192
  replace H:=Option.bind_eq_some_iff.mp H
  obtain ⟨⟨t195,t198,t199,t200,t201⟩,A40,H⟩:=H
  (try dsimp only at H)
  have A4:=ak_ A40
  clear A40
  replace H:=Option.bind_eq_some_iff.mp H
  obtain ⟨⟨t202,t203,t204⟩,A50,H⟩:=H
  (try dsimp only at H)
  have A5:=ak_ A50
  clear A50
  replace H:=Option.bind_eq_some_iff.mp H
  obtain ⟨⟨t206,t207,t208⟩,A60,H⟩:=H
  (try dsimp only at H)
  have A6:=ak_ A60
  clear A60
  by_cases c7 : (t184.length : Int) = 16
  ·rw [if_pos c7] at H
   have c7b0 : ((t184.length : Int) == 16) = true:=beq_iff_eq.mpr c7
   have c7b1 : ((t184.length : Int) != 16) = false:=bne_eq_false_iff_eq.mpr c7
   clear c7
   replace H:=Option.bind_eq_some_iff.mp H
   obtain ⟨t209,A80,H⟩:=H
   (try dsimp only at H)
   have A8:=ak_ A80
   clear A80
   by_cases c9 : t209 = 32768
   ·rw [if_pos c9] at H
    have c9b0 : (t209 == 32768) = true:=beq_iff_eq.mpr c9
    have c9b1 : (t209 != 32768) = false:=bne_eq_false_iff_eq.mpr c9
    clear c9
    by_cases c10 : t198 = 0
    ·rw [if_pos c10] at H
     have c10b0 : (t198 == 0) = true:=beq_iff_eq.mpr c10
     have c10b1 : (t198 != 0) = false:=bne_eq_false_iff_eq.mpr c10
     clear c10
     by_cases c11 : (t195.length : Int) = 6
     ·rw [if_pos c11] at H
      have c11b0 : ((t195.length : Int) == 6) = true:=beq_iff_eq.mpr c11
      have c11b1 : ((t195.length : Int) != 6) = false:=bne_eq_false_iff_eq.mpr c11
      clear c11
      replace H:=Option.bind_eq_some_iff.mp H
      obtain ⟨t210,A120,H⟩:=H
      (try dsimp only at H)
      have A12:=ak_ A120
      clear A120
      by_cases c13 : t210 = true
      ·subst c13
       have H1 : (none) = some r:=by rw [if_pos rfl] at H;exact H
       clear H
       have H:=H1
       clear H1
       exact absurd H (by simp)
      ·replace c13:=Bool.eq_false_iff.mpr c13
       subst c13
       have H1 : ((resamp_Good.f 8000 48000).bind fun t211 => (if t211 = true then ((resamp_Good.f 8000 44100).bind fun t212 => (some (!t212))) else (none))) = some r:=by rw [if_neg (show ¬ (false = true) by decide)] at H;exact H
       clear H
       have H:=H1
       clear H1
       replace H:=Option.bind_eq_some_iff.mp H
       obtain ⟨t211,A140,H⟩:=H
       (try dsimp only at H)
       have A14:=ak_ A140
       clear A140
       by_cases c15 : t211 = true
       ·subst c15
        have H1 : ((resamp_Good.f 8000 44100).bind fun t212 => (some (!t212))) = some r:=by rw [if_pos rfl] at H;exact H
        clear H
        have H:=H1
        clear H1
        replace H:=Option.bind_eq_some_iff.mp H
        obtain ⟨t212,A160,H⟩:=H
        (try dsimp only at H)
        have A16:=ak_ A160
        clear A160
        obtain rfl:=Option.some.inj H
        go_enter Try.func11,Try.ntmps11
        go_wp2_with (first|((with_reducible refine gate_callee (f:=14) rfl ?_);refine goesL_ (some 7) rfl rfl Try.func14 (by kernel_rfl) rfl #[.int .i64 8000,.int .i64 16000,.int .i64 0] rfl (by (try simp only [List.map_toArray,List.map_cons,List.map_nil]);first|done|rfl|(simp only [List.length_drop,List.length_take];rfl)) ?_;(with_reducible refine (resamp_Filter.calls k 8000 16000 0 t184 _ A1.out).mono ?_);rintro e w17 ⟨v185,rfl,ho0,hb⟩;refine ⟨_,rfl,?_⟩;have n0_:=ak_ (Kd.R_lower ho0 (below_size (by repeat (first|(with_reducible first|exact HB.out|apply ba_|apply bb_|apply bc_)|exact HB.out))));have n1_:=ak_ (below_step (by repeat (first|(with_reducible first|exact HB.out|apply ba_|apply bb_|apply bc_)|exact HB.out)) hb);clear HB;have HO186:=n0_;have HB:=n1_;clear n0_ n1_;(try clear hb);(try clear ho0))|((with_reducible refine gate_callee (f:=12) rfl ?_);refine goesL_ (some 9) rfl rfl Try.func12 (by kernel_rfl) rfl #[.int .i64 8000,.int .i64 16000] rfl (by (try simp only [List.map_toArray,List.map_cons,List.map_nil]);first|done|rfl|(simp only [List.length_drop,List.length_take];rfl)) ?_;(with_reducible refine (resamp_New1.calls 8000 16000 t187 t188 t189 t191 w _ ?side1 A3.out).mono ?_);(case side1 => repeat (first|(with_reducible first|exact HB.out|apply ba_|apply bb_|apply bc_)|exact HB.out));rintro e w18 ⟨g190,rfl,hi,hb,hb2,hge⟩;refine ⟨_,rfl,?_⟩;have n0_:=ak_ (Kd.R_below (by (with_reducible repeat (first|apply ra_|apply rb_|apply rc_));exact HO186.out) hb2);have n1_:=ak_ (hb);have n2_:=ak_ (hi);clear HO186;clear HB;have HO186:=n0_;have HB:=n1_;have HI190:=n2_;clear n0_ n1_ n2_;(try clear hb);(try clear hb2);(try clear hi);(try clear hge))|((with_reducible refine gate_dst (N:=20) rfl ?_);(try (refine gate_guard (by rfl) ?_;dsimp only));refine Kd.R_lit (Kd.int .i64) _ 2 ?hg (N:=20) ?hd (xs:=([9000,9000,9000] : List Int)) (inner:=[.int .i64 9000,.int .i64 9000,.int .i64 9000]) (ok:=fun _ => True) (okp:=fun _ => True) ?hr ?hp (fun _ hk => hk) trivial (Below.refl _ _) (Nat.le_refl _) (by simp) ?_;(case hd => rfl);(case hg => rfl);(case hr => first|(go_simp;done)|(go_simp;rfl));(case hp => exact (Reps.one (show Kd.M (Kd.int .i64) _ _ _ 9000 [.int .i64 9000] from rfl) (Reps.one (show Kd.M (Kd.int .i64) _ _ _ 9000 [.int .i64 9000] from rfl) (Reps.one (show Kd.M (Kd.int .i64) _ _ _ 9000 [.int .i64 9000] from rfl) (Reps.none _ _)))));intro v193 w19 ho20 hb hg_ hnew_;clear hg_ hnew_;(first|rw [← Ny192.out] at ho20|(simp only [Int.reduceToNat] at ho20;rw [← Ny192.out] at ho20));have n0_:=ak_ (Kd.R_elder' (by (with_reducible repeat (first|apply ra_|apply rb_|apply rc_));exact HO186.out) (Kd.R_base ho20) hb);have n1_:=ak_ (Kd.R_lower (Kd.R_new' ho20 (Kd.R_lt (by (with_reducible repeat (first|apply ra_|apply rb_|apply rc_));exact HO186.out))) (below_size (by repeat (first|(with_reducible first|exact HB.out|apply ba_|apply bb_|apply bc_|refine below_set ?_ (IsS53.ge HI190.out))|exact HB.out))));have n2_:=ak_ (IsS53.below (by repeat (first|(with_reducible first|exact HI190.out|apply IsS53.alloc|apply IsS53.drewN|apply IsS53.drew)|exact HI190.out)) hb);have n3_:=ak_ (below_step (by repeat (first|(with_reducible first|exact HB.out|apply ba_|apply bb_|apply bc_|refine below_set ?_ (IsS53.ge HI190.out))|exact HB.out)) hb);clear HO186;clear HI190;clear HB;have HO186:=n0_;have HO194:=n1_;have HI190:=n2_;have HB:=n3_;clear n0_ n1_ n2_ n3_;clear hb ho20;obtain ⟨Ao21,co21,eo21⟩:=Kd.R_slice HO194.out;subst eo21)|((with_reducible refine gate_callee (f:=13) rfl ?_);refine goesL_ (some 21) rfl rfl Try.func13 (by kernel_rfl) rfl #[.pointer (some ⟨g190,0,none⟩),.slice Ao21 y192.length co21] rfl (by (try simp only [List.map_toArray,List.map_cons,List.map_nil]);first|done|rfl|(simp only [List.length_drop,List.length_take];rfl)) ?_;(with_reducible refine (resamp_Sampler_Run.calls k g190 t187 t188 t189 _ _ y192 t195 t198 t199 t200 t201 w _ ?side1 ?side2 ?side3 ?side4 ?side5 A4.out).mono ?_);(case side1 => repeat (first|(with_reducible first|exact HI190.out|apply IsS53.alloc|apply IsS53.drewN|apply IsS53.drew)|exact HI190.out));(case side2 => repeat (first|(with_reducible first|exact HB.out|apply ba_|apply bb_|apply bc_|refine below_set ?_ (IsS53.ge HI190.out))|exact HB.out));(case side3 => repeat (first|exact (Kd.R_reads' HO194.out).2.2|(with_reducible refine Kd.C_alloc ?_ _)|(with_reducible refine Kd.C_drewN ?_ _)|(with_reducible refine Kd.C_drew ?_)));(case side4 => exact (Kd.R_reads' HO194.out).2.1);(case side5 => exact far_slice (IsS53.own_ne HI190.out HO194.out (by decide)));rintro e w22 ⟨v196,rfl,ho0,hi,hb,hk⟩;refine ⟨_,rfl,?_⟩;have n0_:=ak_ (Kd.R_mono (Kd.R_told (Kd.R_oldK (IsS53.apart (show IsS53 w _ g190 t187 t188 t189 from by repeat (first|(with_reducible first|exact HI190.out|apply IsS53.alloc|apply IsS53.drewN|apply IsS53.drew)|exact HI190.out)) (by (with_reducible repeat (first|apply ra_|apply rb_|apply rc_));exact HO186.out) (by decide)) hk) (Kd.R_base ho0)) (fun _ h_ => h_.1));have n1_:=ak_ (Kd.R_mono (Kd.R_told (Kd.R_oldK (IsS53.apart (show IsS53 w _ g190 t187 t188 t189 from by repeat (first|(with_reducible first|exact HI190.out|apply IsS53.alloc|apply IsS53.drewN|apply IsS53.drew)|exact HI190.out)) (by (with_reducible repeat (first|apply ra_|apply rb_|apply rc_));exact HO194.out) (by decide)) hk) (Kd.R_base ho0)) (fun _ h_ => h_.1));have n2_:=ak_ (Kd.R_lower (Kd.R_new' (Kd.R_new' ho0 (Kd.R_lt (by (with_reducible repeat (first|apply ra_|apply rb_|apply rc_));exact HO186.out))) (Kd.R_lt (by (with_reducible repeat (first|apply ra_|apply rb_|apply rc_));exact HO194.out))) (below_size (by repeat (first|(with_reducible first|exact HB.out|apply ba_|apply bb_|apply bc_|refine below_set ?_ (IsS53.ge HI190.out))|exact HB.out))));have n3_:=ak_ (hb);have n4_:=ak_ (hi);clear HO186;clear HO194;clear HB;clear HI190;have HO186:=n0_;have HO194:=n1_;have HO197:=n2_;have HB:=n3_;have HI190:=n4_;clear n0_ n1_ n2_ n3_ n4_;(try clear hb);(try clear hk);(try clear hi);(try clear ho0))|((with_reducible refine gate_callee (f:=22) rfl ?_);refine goesL_ (some 25) rfl rfl Try.func22 (by kernel_rfl) rfl #[.pointer (some ⟨g190,0,none⟩)] rfl (by (try simp only [List.map_toArray,List.map_cons,List.map_nil]);first|done|rfl|(simp only [List.length_drop,List.length_take];rfl)) ?_;(with_reducible refine (resamp_Sampler_Copy.calls g190 t199 t200 t201 t202 t203 t204 w _ ?side1 ?side2 A5.out).mono ?_);(case side1 => repeat (first|(with_reducible first|exact HI190.out|apply IsS53.alloc|apply IsS53.drewN|apply IsS53.drew)|exact HI190.out));(case side2 => repeat (first|(with_reducible first|exact HB.out|apply ba_|apply bb_|apply bc_|refine below_set ?_ (IsS53.ge HI190.out))|exact HB.out));rintro e w23 ⟨g205,rfl,hi,hb,hb2,hge⟩;refine ⟨_,rfl,?_⟩;have n0_:=ak_ (Kd.R_below (by (with_reducible repeat (first|apply ra_|apply rb_|apply rc_));exact HO186.out) hb2);have n1_:=ak_ (Kd.R_below (by (with_reducible repeat (first|apply ra_|apply rb_|apply rc_));exact HO194.out) hb2);have n2_:=ak_ (Kd.R_below (by (with_reducible repeat (first|apply ra_|apply rb_|apply rc_));exact HO197.out) hb2);have n3_:=ak_ (IsS53.below (by repeat (first|(with_reducible first|exact HI190.out|apply IsS53.alloc|apply IsS53.drewN|apply IsS53.drew)|exact HI190.out)) hb2);have n4_:=ak_ (Nat.ne_of_gt (Nat.lt_of_lt_of_le (IsS53.lt (show IsS53 w _ g190 t199 t200 t201 from by repeat (first|(with_reducible first|exact HI190.out|apply IsS53.alloc|apply IsS53.drewN|apply IsS53.drew)|exact HI190.out))) hge));have n5_:=ak_ (hb);have n6_:=ak_ (hi);clear HO186;clear HO194;clear HO197;clear HI190;clear HB;have HO186:=n0_;have HO194:=n1_;have HO197:=n2_;have HI190:=n3_;have NS205_190:=n4_;have HB:=n5_;have HI205:=n6_;clear n0_ n1_ n2_ n3_ n4_ n5_ n6_;(try clear hb);(try clear hb2);(try clear hi);(try clear hge))|((with_reducible refine gate_callee (f:=26) rfl ?_);refine goesL_ (some 27) rfl rfl Try.func26 (by kernel_rfl) rfl #[.pointer (some ⟨g190,0,none⟩)] rfl (by (try simp only [List.map_toArray,List.map_cons,List.map_nil]);first|done|rfl|(simp only [List.length_drop,List.length_take];rfl)) ?_;(with_reducible refine (resamp_Sampler_Reset.calls g190 t199 t200 t201 t206 t207 t208 w _ ?side1 ?side2 A6.out).mono ?_);(case side1 => repeat (first|(with_reducible first|exact HI190.out|apply IsS53.alloc|apply IsS53.drewN|apply IsS53.drew)|exact HI190.out));(case side2 => repeat (first|(with_reducible first|exact HB.out|apply ba_|apply bb_|apply bc_|refine below_set ?_ (IsS53.ge HI190.out)|refine below_set ?_ (IsS53.ge HI205.out))|exact HB.out));rintro e w24 ⟨rfl,hi,hb,hk⟩;refine ⟨_,rfl,?_⟩;have n0_:=ak_ (Kd.R_mono (Kd.R_keep (IsS53.apart (show IsS53 w _ g190 t199 t200 t201 from by repeat (first|(with_reducible first|exact HI190.out|apply IsS53.alloc|apply IsS53.drewN|apply IsS53.drew)|exact HI190.out)) (by (with_reducible repeat (first|apply ra_|apply rb_|apply rc_));exact HO186.out) (by decide)) hk (fun _ h => h.2)) (fun _ h => h.1));have n1_:=ak_ (Kd.R_mono (Kd.R_keep (IsS53.apart (show IsS53 w _ g190 t199 t200 t201 from by repeat (first|(with_reducible first|exact HI190.out|apply IsS53.alloc|apply IsS53.drewN|apply IsS53.drew)|exact HI190.out)) (by (with_reducible repeat (first|apply ra_|apply rb_|apply rc_));exact HO194.out) (by decide)) hk (fun _ h => h.2)) (fun _ h => h.1));have n2_:=ak_ (Kd.R_mono (Kd.R_keep (IsS53.apart (show IsS53 w _ g190 t199 t200 t201 from by repeat (first|(with_reducible first|exact HI190.out|apply IsS53.alloc|apply IsS53.drewN|apply IsS53.drew)|exact HI190.out)) (by (with_reducible repeat (first|apply ra_|apply rb_|apply rc_));exact HO197.out) (by decide)) hk (fun _ h => h.2)) (fun _ h => h.1));have n3_:=ak_ (IsS53.keepB (show IsS53 w _ g205 t202 t203 t204 from by repeat (first|(with_reducible first|exact HI205.out|apply IsS53.alloc|apply IsS53.drewN|apply IsS53.drew)|exact HI205.out)) hk NS205_190.out);have n4_:=ak_ (hb);have n5_:=ak_ (hi);clear HO186;clear HO194;clear HO197;clear HI205;clear HB;clear HI190;have HO186:=n0_;have HO194:=n1_;have HO197:=n2_;have HI205:=n3_;have HB:=n4_;have HI190:=n5_;clear n0_ n1_ n2_ n3_ n4_ n5_;(try clear hb);(try clear hk);(try clear hi);obtain ⟨Ao25,co25,eo25⟩:=Kd.R_slice HO186.out;subst eo25)|(go_at_call 20;(with_reducible refine (madrigallaw22_sum.calls k _ _ t184 t209 _ ?side1 ?side2 A8.out).mono ?_);(case side1 => repeat (first|exact (Kd.R_reads' HO186.out).2.2|(with_reducible refine Kd.C_alloc ?_ _)|(with_reducible refine Kd.C_drewN ?_ _)|(with_reducible refine Kd.C_drew ?_)));(case side2 => exact (Kd.R_reads' HO186.out).2.1);rintro e w' ⟨rfl,⟨nd,rfl⟩⟩;obtain ⟨Ao26,co26,eo26⟩:=Kd.R_slice HO197.out;subst eo26)|(go_at_call 23;(with_reducible refine (resamp_Sampler_Same.calls g205 t202 t203 t204 g190 t206 t207 t208 false w _ ?side1 ?side2 ?side3 A12.out).mono ?_);(case side1 => repeat (first|(with_reducible first|exact HI205.out|apply IsS53.alloc|apply IsS53.drewN|apply IsS53.drew)|exact HI205.out));(case side2 => repeat (first|(with_reducible first|exact HI190.out|apply IsS53.alloc|apply IsS53.drewN|apply IsS53.drew)|exact HI190.out));(case side3 => repeat (first|(with_reducible first|exact HB.out|apply ba_|apply bb_|apply bc_|refine below_set ?_ (IsS53.ge HI190.out)|refine below_set ?_ (IsS53.ge HI205.out))|exact HB.out));rintro e w' ⟨rfl,⟨nd,rfl⟩⟩)|(go_at_call 16;(with_reducible refine (resamp_Good.calls 8000 48000 true _ A14.out).mono ?_);rintro e w' ⟨rfl,⟨nd,rfl⟩⟩)|(go_at_call 16;(with_reducible refine (resamp_Good.calls 8000 44100 t212 _ A16.out).mono ?_);rintro e w' ⟨rfl,⟨nd,rfl⟩⟩))
        go_ret
        exact ⟨by first|rfl|(simp [errW_none,errW_some] <;> rfl)|(simp [*,errW_none,errW_some] <;> rfl),by repeat (first|(with_reducible first|exact HB.out|apply ba_|apply bb_|apply bc_|refine below_set ?_ (IsS53.ge HI190.out)|refine below_set ?_ (IsS53.ge HI205.out))|exact HB.out)⟩
       ·replace c15:=Bool.eq_false_iff.mpr c15
        subst c15
        have H1 : (none) = some r:=by rw [if_neg (show ¬ (false = true) by decide)] at H;exact H
        clear H
        have H:=H1
        clear H1
        exact absurd H (by simp)
     ·rw [if_neg c11] at H
      exact absurd H (by simp)
    ·rw [if_neg c10] at H
     exact absurd H (by simp)
   ·rw [if_neg c9] at H
    exact absurd H (by simp)
  ·rw [if_neg c7] at H
   exact absurd H (by simp)
 ·rw [if_neg c2] at H
  have c2b0 : (resamp_Good.f 8000 16000 == some true) = false:=beq_eq_false_iff_ne.mpr c2
  have c2b1 : (resamp_Good.f 8000 16000 != some true) = true:=bne_iff_ne.mpr c2
  replace H:=Option.bind_eq_some_iff.mp H
  obtain ⟨t214,A270,H⟩:=H
  (try dsimp only at H)
  have A27:=ak_ A270
  clear A270
  exact absurd H (by simp)

end Go.Proofs.Ytcicenmmpbgmoaa.P
