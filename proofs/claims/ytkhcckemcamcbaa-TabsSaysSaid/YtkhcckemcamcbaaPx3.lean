/- The machine side of the laws of one chapter, without conditions: each call of a Go function comes to what the Lean function of its name answers. Written for this claim by a program of the prover. -/
import Derived.Test.YtkhcckemcamcbaaPx0
namespace Go.Proofs.Ytkhcckemcamcbaa.P
open Go.RowKit Go.Proofs.YtkhcckemcamcbaaW.PrintWords Go.Proofs.YtkhcckemcamcbaaW.PrintLast Go.Proofs.YtkhcckemcamcbaaW.PrintMore
attribute [local go_sem] max2_int min2_int max_two min_two max_three min_three max_four min_four   -- for this text's walks alone
set_option linter.unusedVariables false
set_option linter.unusedSimpArgs false

/-! ### tabs_Icdf: function 12 -/
def tabs_Icdf.f (a0 : Int) : Option (List Int):=if a0 = 0 then (some (([192,96,0] : List Int))) else (if a0 = 1 then (some (([224,192,160,128,96,64,32,0] : List Int))) else (if a0 = 2 then (some (([252,247,240,230,214,190,150,106,66,42,26,16,10,6,4,2,0] : List Int))) else (if a0 = 3 then (some (([240,224,208,192,176,160,144,128,112,96,80,64,48,32,16,0] : List Int))) else (if a0 = 4 then (some (([253,244,222,170,86,34,12,3,0] : List Int))) else (if a0 = 5 then (some (([218,180,148,122,100,82,67,54,43,34,26,19,14,10,6,3,0] : List Int))) else (if a0 = 6 then (some (([205,163,128,97,70,44,20,0] : List Int))) else (if a0 = 7 then (some (([231,155,38,0] : List Int))) else (if a0 = 8 then (some (([192,128,64,0] : List Int))) else (some ([] : List Int))))))))))
set_option maxHeartbeats 8000000 in
set_option maxRecDepth 100000 in
theorem tabs_Icdf.calls (a0 : Int) (r : List Int) (w : World) (h : tabs_Icdf.f a0 = some r) :
  Calls Try.prog 12 #[.int .i64 a0] w fun e w' => ∃ v0_ : Value,e = .returned (v0_) ∧ Kd.R (Kd.int .i64) 3 w' w.heap.size (fun _ => True) v0_ r ∧ Below w.heap.size w w':=by
 have HB:=ak_ (Below.refl w.heap.size w)
 have H : (if a0 = 0 then (some (([192,96,0] : List Int))) else (if a0 = 1 then (some (([224,192,160,128,96,64,32,0] : List Int))) else (if a0 = 2 then (some (([252,247,240,230,214,190,150,106,66,42,26,16,10,6,4,2,0] : List Int))) else (if a0 = 3 then (some (([240,224,208,192,176,160,144,128,112,96,80,64,48,32,16,0] : List Int))) else (if a0 = 4 then (some (([253,244,222,170,86,34,12,3,0] : List Int))) else (if a0 = 5 then (some (([218,180,148,122,100,82,67,54,43,34,26,19,14,10,6,3,0] : List Int))) else (if a0 = 6 then (some (([205,163,128,97,70,44,20,0] : List Int))) else (if a0 = 7 then (some (([231,155,38,0] : List Int))) else (if a0 = 8 then (some (([192,128,64,0] : List Int))) else (some ([] : List Int))))))))))) = some r:=h
 clear h
 by_cases c2 : a0 = 0
 ·rw [if_pos c2] at H
  have c2b0 : (a0 == 0) = true:=beq_iff_eq.mpr c2
  have c2b1 : (a0 != 0) = false:=bne_eq_false_iff_eq.mpr c2
  clear c2
  obtain ⟨y105,hy105⟩ : ∃ y_ : List Int,y_ = (([192,96,0] : List Int)):=⟨_,rfl⟩
  replace H : (some y105) = some r:=by first|(rw [hy105];with_reducible exact H)|(have H2_:=(Option.bind_some _ _).symm.trans H;rw [hy105];with_reducible exact H2_)|(have H2_:=(Option.bind_some _ _).symm.trans H;with_reducible exact H2_)|with_reducible exact H|(rw [hy105];exact H)|exact H
  have Ny105:=ak_ hy105
  clear hy105
  obtain rfl:=Option.some.inj H
  go_enter Try.func12,Try.ntmps12
  go_wp2_with (first|((with_reducible refine gate_dst (N:=6) rfl ?_);refine Kd.R_lit (Kd.int .i64) _ 3 ?hg (N:=6) ?hd (xs:=([192,96,0] : List Int)) (inner:=[.int .i64 192,.int .i64 96,.int .i64 0]) (ok:=fun _ => True) (okp:=fun _ => True) ?hr ?hp (fun _ hk => hk) trivial (Below.refl _ _) (Nat.le_refl _) (by simp) ?_;(case hd => rfl);(case hg => rfl);(case hr => first|(go_simp;done)|(go_simp;rfl));(case hp => exact (Reps.one (show Kd.M (Kd.int .i64) _ _ _ 192 [.int .i64 192] from rfl) (Reps.one (show Kd.M (Kd.int .i64) _ _ _ 96 [.int .i64 96] from rfl) (Reps.one (show Kd.M (Kd.int .i64) _ _ _ 0 [.int .i64 0] from rfl) (Reps.none _ _)))));intro v106 w3 ho4 hb hg_ hnew_;clear hg_ hnew_;(first|rw [← Ny105.out] at ho4|(simp only [Int.reduceToNat] at ho4;rw [← Ny105.out] at ho4));have n0_:=ak_ (Kd.R_lower ho4 (below_size (by repeat (first|(with_reducible first|exact HB.out|apply ba_|apply bb_|apply bc_)|exact HB.out))));have n1_:=ak_ (below_step (by repeat (first|(with_reducible first|exact HB.out|apply ba_|apply bb_|apply bc_)|exact HB.out)) hb);clear HB;have HO107:=n0_;have HB:=n1_;clear n0_ n1_;clear hb ho4))
  go_ret
  exact ⟨_,by first|rfl|(simp [errW_none,errW_some] <;> rfl)|(simp [*,errW_none,errW_some] <;> rfl),by (with_reducible repeat (first|apply ra_|apply rb_|apply rc_));exact HO107.out,by repeat (first|(with_reducible first|exact HB.out|apply ba_|apply bb_|apply bc_)|exact HB.out)⟩
 ·rw [if_neg c2] at H
  have c2b0 : (a0 == 0) = false:=beq_eq_false_iff_ne.mpr c2
  have c2b1 : (a0 != 0) = true:=bne_iff_ne.mpr c2
  by_cases c5 : a0 = 1
  ·rw [if_pos c5] at H
   have c5b0 : (a0 == 1) = true:=beq_iff_eq.mpr c5
   have c5b1 : (a0 != 1) = false:=bne_eq_false_iff_eq.mpr c5
   clear c5
   obtain ⟨y108,hy108⟩ : ∃ y_ : List Int,y_ = (([224,192,160,128,96,64,32,0] : List Int)):=⟨_,rfl⟩
   replace H : (some y108) = some r:=by first|(rw [hy108];with_reducible exact H)|(have H2_:=(Option.bind_some _ _).symm.trans H;rw [hy108];with_reducible exact H2_)|(have H2_:=(Option.bind_some _ _).symm.trans H;with_reducible exact H2_)|with_reducible exact H|(rw [hy108];exact H)|exact H
   have Ny108:=ak_ hy108
   clear hy108
   obtain rfl:=Option.some.inj H
   go_enter Try.func12,Try.ntmps12
   go_wp2_with (first|((with_reducible refine gate_dst (N:=9) rfl ?_);refine Kd.R_lit (Kd.int .i64) _ 3 ?hg (N:=9) ?hd (xs:=([224,192,160,128,96,64,32,0] : List Int)) (inner:=[.int .i64 224,.int .i64 192,.int .i64 160,.int .i64 128,.int .i64 96,.int .i64 64,.int .i64 32,.int .i64 0]) (ok:=fun _ => True) (okp:=fun _ => True) ?hr ?hp (fun _ hk => hk) trivial (Below.refl _ _) (Nat.le_refl _) (by simp) ?_;(case hd => rfl);(case hg => rfl);(case hr => first|(go_simp;done)|(go_simp;rfl));(case hp => exact (Reps.one (show Kd.M (Kd.int .i64) _ _ _ 224 [.int .i64 224] from rfl) (Reps.one (show Kd.M (Kd.int .i64) _ _ _ 192 [.int .i64 192] from rfl) (Reps.one (show Kd.M (Kd.int .i64) _ _ _ 160 [.int .i64 160] from rfl) (Reps.one (show Kd.M (Kd.int .i64) _ _ _ 128 [.int .i64 128] from rfl) (Reps.one (show Kd.M (Kd.int .i64) _ _ _ 96 [.int .i64 96] from rfl) (Reps.one (show Kd.M (Kd.int .i64) _ _ _ 64 [.int .i64 64] from rfl) (Reps.one (show Kd.M (Kd.int .i64) _ _ _ 32 [.int .i64 32] from rfl) (Reps.one (show Kd.M (Kd.int .i64) _ _ _ 0 [.int .i64 0] from rfl) (Reps.none _ _))))))))));intro v109 w6 ho7 hb hg_ hnew_;clear hg_ hnew_;(first|rw [← Ny108.out] at ho7|(simp only [Int.reduceToNat] at ho7;rw [← Ny108.out] at ho7));have n0_:=ak_ (Kd.R_lower ho7 (below_size (by repeat (first|(with_reducible first|exact HB.out|apply ba_|apply bb_|apply bc_)|exact HB.out))));have n1_:=ak_ (below_step (by repeat (first|(with_reducible first|exact HB.out|apply ba_|apply bb_|apply bc_)|exact HB.out)) hb);clear HB;have HO110:=n0_;have HB:=n1_;clear n0_ n1_;clear hb ho7))
   go_ret
   exact ⟨_,by first|rfl|(simp [errW_none,errW_some] <;> rfl)|(simp [*,errW_none,errW_some] <;> rfl),by (with_reducible repeat (first|apply ra_|apply rb_|apply rc_));exact HO110.out,by repeat (first|(with_reducible first|exact HB.out|apply ba_|apply bb_|apply bc_)|exact HB.out)⟩
  ·rw [if_neg c5] at H
   have c5b0 : (a0 == 1) = false:=beq_eq_false_iff_ne.mpr c5
   have c5b1 : (a0 != 1) = true:=bne_iff_ne.mpr c5
   by_cases c8 : a0 = 2
   ·rw [if_pos c8] at H
    have c8b0 : (a0 == 2) = true:=beq_iff_eq.mpr c8
    have c8b1 : (a0 != 2) = false:=bne_eq_false_iff_eq.mpr c8
    clear c8
    obtain ⟨y111,hy111⟩ : ∃ y_ : List Int,y_ = (([252,247,240,230,214,190,150,106,66,42,26,16,10,6,4,2,0] : List Int)):=⟨_,rfl⟩
    replace H : (some y111) = some r:=by first|(rw [hy111];with_reducible exact H)|(have H2_:=(Option.bind_some _ _).symm.trans H;rw [hy111];with_reducible exact H2_)|(have H2_:=(Option.bind_some _ _).symm.trans H;with_reducible exact H2_)|with_reducible exact H|(rw [hy111];exact H)|exact H
    have Ny111:=ak_ hy111
    clear hy111
    obtain rfl:=Option.some.inj H
    go_enter Try.func12,Try.ntmps12
    go_wp2_with (first|((with_reducible refine gate_dst (N:=12) rfl ?_);refine Kd.R_lit (Kd.int .i64) _ 3 ?hg (N:=12) ?hd (xs:=([252,247,240,230,214,190,150,106,66,42,26,16,10,6,4,2,0] : List Int)) (inner:=[.int .i64 252,.int .i64 247,.int .i64 240,.int .i64 230,.int .i64 214,.int .i64 190,.int .i64 150,.int .i64 106,.int .i64 66,.int .i64 42,.int .i64 26,.int .i64 16,.int .i64 10,.int .i64 6,.int .i64 4,.int .i64 2,.int .i64 0]) (ok:=fun _ => True) (okp:=fun _ => True) ?hr ?hp (fun _ hk => hk) trivial (Below.refl _ _) (Nat.le_refl _) (by simp) ?_;(case hd => rfl);(case hg => rfl);(case hr => first|(go_simp;done)|(go_simp;rfl));(case hp => exact (Reps.one (show Kd.M (Kd.int .i64) _ _ _ 252 [.int .i64 252] from rfl) (Reps.one (show Kd.M (Kd.int .i64) _ _ _ 247 [.int .i64 247] from rfl) (Reps.one (show Kd.M (Kd.int .i64) _ _ _ 240 [.int .i64 240] from rfl) (Reps.one (show Kd.M (Kd.int .i64) _ _ _ 230 [.int .i64 230] from rfl) (Reps.one (show Kd.M (Kd.int .i64) _ _ _ 214 [.int .i64 214] from rfl) (Reps.one (show Kd.M (Kd.int .i64) _ _ _ 190 [.int .i64 190] from rfl) (Reps.one (show Kd.M (Kd.int .i64) _ _ _ 150 [.int .i64 150] from rfl) (Reps.one (show Kd.M (Kd.int .i64) _ _ _ 106 [.int .i64 106] from rfl) (Reps.one (show Kd.M (Kd.int .i64) _ _ _ 66 [.int .i64 66] from rfl) (Reps.one (show Kd.M (Kd.int .i64) _ _ _ 42 [.int .i64 42] from rfl) (Reps.one (show Kd.M (Kd.int .i64) _ _ _ 26 [.int .i64 26] from rfl) (Reps.one (show Kd.M (Kd.int .i64) _ _ _ 16 [.int .i64 16] from rfl) (Reps.one (show Kd.M (Kd.int .i64) _ _ _ 10 [.int .i64 10] from rfl) (Reps.one (show Kd.M (Kd.int .i64) _ _ _ 6 [.int .i64 6] from rfl) (Reps.one (show Kd.M (Kd.int .i64) _ _ _ 4 [.int .i64 4] from rfl) (Reps.one (show Kd.M (Kd.int .i64) _ _ _ 2 [.int .i64 2] from rfl) (Reps.one (show Kd.M (Kd.int .i64) _ _ _ 0 [.int .i64 0] from rfl) (Reps.none _ _)))))))))))))))))));intro v112 w9 ho10 hb hg_ hnew_;clear hg_ hnew_;(first|rw [← Ny111.out] at ho10|(simp only [Int.reduceToNat] at ho10;rw [← Ny111.out] at ho10));have n0_:=ak_ (Kd.R_lower ho10 (below_size (by repeat (first|(with_reducible first|exact HB.out|apply ba_|apply bb_|apply bc_)|exact HB.out))));have n1_:=ak_ (below_step (by repeat (first|(with_reducible first|exact HB.out|apply ba_|apply bb_|apply bc_)|exact HB.out)) hb);clear HB;have HO113:=n0_;have HB:=n1_;clear n0_ n1_;clear hb ho10))
    go_ret
    exact ⟨_,by first|rfl|(simp [errW_none,errW_some] <;> rfl)|(simp [*,errW_none,errW_some] <;> rfl),by (with_reducible repeat (first|apply ra_|apply rb_|apply rc_));exact HO113.out,by repeat (first|(with_reducible first|exact HB.out|apply ba_|apply bb_|apply bc_)|exact HB.out)⟩
   ·rw [if_neg c8] at H
    have c8b0 : (a0 == 2) = false:=beq_eq_false_iff_ne.mpr c8
    have c8b1 : (a0 != 2) = true:=bne_iff_ne.mpr c8
    by_cases c11 : a0 = 3
    ·rw [if_pos c11] at H
     have c11b0 : (a0 == 3) = true:=beq_iff_eq.mpr c11
     have c11b1 : (a0 != 3) = false:=bne_eq_false_iff_eq.mpr c11
     clear c11
     obtain ⟨y114,hy114⟩ : ∃ y_ : List Int,y_ = (([240,224,208,192,176,160,144,128,112,96,80,64,48,32,16,0] : List Int)):=⟨_,rfl⟩
     replace H : (some y114) = some r:=by first|(rw [hy114];with_reducible exact H)|(have H2_:=(Option.bind_some _ _).symm.trans H;rw [hy114];with_reducible exact H2_)|(have H2_:=(Option.bind_some _ _).symm.trans H;with_reducible exact H2_)|with_reducible exact H|(rw [hy114];exact H)|exact H
     have Ny114:=ak_ hy114
     clear hy114
     obtain rfl:=Option.some.inj H
     go_enter Try.func12,Try.ntmps12
     go_wp2_with (first|((with_reducible refine gate_dst (N:=15) rfl ?_);refine Kd.R_lit (Kd.int .i64) _ 3 ?hg (N:=15) ?hd (xs:=([240,224,208,192,176,160,144,128,112,96,80,64,48,32,16,0] : List Int)) (inner:=[.int .i64 240,.int .i64 224,.int .i64 208,.int .i64 192,.int .i64 176,.int .i64 160,.int .i64 144,.int .i64 128,.int .i64 112,.int .i64 96,.int .i64 80,.int .i64 64,.int .i64 48,.int .i64 32,.int .i64 16,.int .i64 0]) (ok:=fun _ => True) (okp:=fun _ => True) ?hr ?hp (fun _ hk => hk) trivial (Below.refl _ _) (Nat.le_refl _) (by simp) ?_;(case hd => rfl);(case hg => rfl);(case hr => first|(go_simp;done)|(go_simp;rfl));(case hp => exact (Reps.one (show Kd.M (Kd.int .i64) _ _ _ 240 [.int .i64 240] from rfl) (Reps.one (show Kd.M (Kd.int .i64) _ _ _ 224 [.int .i64 224] from rfl) (Reps.one (show Kd.M (Kd.int .i64) _ _ _ 208 [.int .i64 208] from rfl) (Reps.one (show Kd.M (Kd.int .i64) _ _ _ 192 [.int .i64 192] from rfl) (Reps.one (show Kd.M (Kd.int .i64) _ _ _ 176 [.int .i64 176] from rfl) (Reps.one (show Kd.M (Kd.int .i64) _ _ _ 160 [.int .i64 160] from rfl) (Reps.one (show Kd.M (Kd.int .i64) _ _ _ 144 [.int .i64 144] from rfl) (Reps.one (show Kd.M (Kd.int .i64) _ _ _ 128 [.int .i64 128] from rfl) (Reps.one (show Kd.M (Kd.int .i64) _ _ _ 112 [.int .i64 112] from rfl) (Reps.one (show Kd.M (Kd.int .i64) _ _ _ 96 [.int .i64 96] from rfl) (Reps.one (show Kd.M (Kd.int .i64) _ _ _ 80 [.int .i64 80] from rfl) (Reps.one (show Kd.M (Kd.int .i64) _ _ _ 64 [.int .i64 64] from rfl) (Reps.one (show Kd.M (Kd.int .i64) _ _ _ 48 [.int .i64 48] from rfl) (Reps.one (show Kd.M (Kd.int .i64) _ _ _ 32 [.int .i64 32] from rfl) (Reps.one (show Kd.M (Kd.int .i64) _ _ _ 16 [.int .i64 16] from rfl) (Reps.one (show Kd.M (Kd.int .i64) _ _ _ 0 [.int .i64 0] from rfl) (Reps.none _ _))))))))))))))))));intro v115 w12 ho13 hb hg_ hnew_;clear hg_ hnew_;(first|rw [← Ny114.out] at ho13|(simp only [Int.reduceToNat] at ho13;rw [← Ny114.out] at ho13));have n0_:=ak_ (Kd.R_lower ho13 (below_size (by repeat (first|(with_reducible first|exact HB.out|apply ba_|apply bb_|apply bc_)|exact HB.out))));have n1_:=ak_ (below_step (by repeat (first|(with_reducible first|exact HB.out|apply ba_|apply bb_|apply bc_)|exact HB.out)) hb);clear HB;have HO116:=n0_;have HB:=n1_;clear n0_ n1_;clear hb ho13))
     go_ret
     exact ⟨_,by first|rfl|(simp [errW_none,errW_some] <;> rfl)|(simp [*,errW_none,errW_some] <;> rfl),by (with_reducible repeat (first|apply ra_|apply rb_|apply rc_));exact HO116.out,by repeat (first|(with_reducible first|exact HB.out|apply ba_|apply bb_|apply bc_)|exact HB.out)⟩
    ·rw [if_neg c11] at H
     have c11b0 : (a0 == 3) = false:=beq_eq_false_iff_ne.mpr c11
     have c11b1 : (a0 != 3) = true:=bne_iff_ne.mpr c11
     by_cases c14 : a0 = 4
     ·rw [if_pos c14] at H
      have c14b0 : (a0 == 4) = true:=beq_iff_eq.mpr c14
      have c14b1 : (a0 != 4) = false:=bne_eq_false_iff_eq.mpr c14
      clear c14
      obtain ⟨y117,hy117⟩ : ∃ y_ : List Int,y_ = (([253,244,222,170,86,34,12,3,0] : List Int)):=⟨_,rfl⟩
      replace H : (some y117) = some r:=by first|(rw [hy117];with_reducible exact H)|(have H2_:=(Option.bind_some _ _).symm.trans H;rw [hy117];with_reducible exact H2_)|(have H2_:=(Option.bind_some _ _).symm.trans H;with_reducible exact H2_)|with_reducible exact H|(rw [hy117];exact H)|exact H
      have Ny117:=ak_ hy117
      clear hy117
      obtain rfl:=Option.some.inj H
      go_enter Try.func12,Try.ntmps12
      go_wp2_with (first|((with_reducible refine gate_dst (N:=18) rfl ?_);refine Kd.R_lit (Kd.int .i64) _ 3 ?hg (N:=18) ?hd (xs:=([253,244,222,170,86,34,12,3,0] : List Int)) (inner:=[.int .i64 253,.int .i64 244,.int .i64 222,.int .i64 170,.int .i64 86,.int .i64 34,.int .i64 12,.int .i64 3,.int .i64 0]) (ok:=fun _ => True) (okp:=fun _ => True) ?hr ?hp (fun _ hk => hk) trivial (Below.refl _ _) (Nat.le_refl _) (by simp) ?_;(case hd => rfl);(case hg => rfl);(case hr => first|(go_simp;done)|(go_simp;rfl));(case hp => exact (Reps.one (show Kd.M (Kd.int .i64) _ _ _ 253 [.int .i64 253] from rfl) (Reps.one (show Kd.M (Kd.int .i64) _ _ _ 244 [.int .i64 244] from rfl) (Reps.one (show Kd.M (Kd.int .i64) _ _ _ 222 [.int .i64 222] from rfl) (Reps.one (show Kd.M (Kd.int .i64) _ _ _ 170 [.int .i64 170] from rfl) (Reps.one (show Kd.M (Kd.int .i64) _ _ _ 86 [.int .i64 86] from rfl) (Reps.one (show Kd.M (Kd.int .i64) _ _ _ 34 [.int .i64 34] from rfl) (Reps.one (show Kd.M (Kd.int .i64) _ _ _ 12 [.int .i64 12] from rfl) (Reps.one (show Kd.M (Kd.int .i64) _ _ _ 3 [.int .i64 3] from rfl) (Reps.one (show Kd.M (Kd.int .i64) _ _ _ 0 [.int .i64 0] from rfl) (Reps.none _ _)))))))))));intro v118 w15 ho16 hb hg_ hnew_;clear hg_ hnew_;(first|rw [← Ny117.out] at ho16|(simp only [Int.reduceToNat] at ho16;rw [← Ny117.out] at ho16));have n0_:=ak_ (Kd.R_lower ho16 (below_size (by repeat (first|(with_reducible first|exact HB.out|apply ba_|apply bb_|apply bc_)|exact HB.out))));have n1_:=ak_ (below_step (by repeat (first|(with_reducible first|exact HB.out|apply ba_|apply bb_|apply bc_)|exact HB.out)) hb);clear HB;have HO119:=n0_;have HB:=n1_;clear n0_ n1_;clear hb ho16))
      go_ret
      exact ⟨_,by first|rfl|(simp [errW_none,errW_some] <;> rfl)|(simp [*,errW_none,errW_some] <;> rfl),by (with_reducible repeat (first|apply ra_|apply rb_|apply rc_));exact HO119.out,by repeat (first|(with_reducible first|exact HB.out|apply ba_|apply bb_|apply bc_)|exact HB.out)⟩
     ·rw [if_neg c14] at H
      have c14b0 : (a0 == 4) = false:=beq_eq_false_iff_ne.mpr c14
      have c14b1 : (a0 != 4) = true:=bne_iff_ne.mpr c14
      by_cases c17 : a0 = 5
      ·rw [if_pos c17] at H
       have c17b0 : (a0 == 5) = true:=beq_iff_eq.mpr c17
       have c17b1 : (a0 != 5) = false:=bne_eq_false_iff_eq.mpr c17
       clear c17
       obtain ⟨y120,hy120⟩ : ∃ y_ : List Int,y_ = (([218,180,148,122,100,82,67,54,43,34,26,19,14,10,6,3,0] : List Int)):=⟨_,rfl⟩
       replace H : (some y120) = some r:=by first|(rw [hy120];with_reducible exact H)|(have H2_:=(Option.bind_some _ _).symm.trans H;rw [hy120];with_reducible exact H2_)|(have H2_:=(Option.bind_some _ _).symm.trans H;with_reducible exact H2_)|with_reducible exact H|(rw [hy120];exact H)|exact H
       have Ny120:=ak_ hy120
       clear hy120
       obtain rfl:=Option.some.inj H
       go_enter Try.func12,Try.ntmps12
       go_wp2_with (first|((with_reducible refine gate_dst (N:=21) rfl ?_);refine Kd.R_lit (Kd.int .i64) _ 3 ?hg (N:=21) ?hd (xs:=([218,180,148,122,100,82,67,54,43,34,26,19,14,10,6,3,0] : List Int)) (inner:=[.int .i64 218,.int .i64 180,.int .i64 148,.int .i64 122,.int .i64 100,.int .i64 82,.int .i64 67,.int .i64 54,.int .i64 43,.int .i64 34,.int .i64 26,.int .i64 19,.int .i64 14,.int .i64 10,.int .i64 6,.int .i64 3,.int .i64 0]) (ok:=fun _ => True) (okp:=fun _ => True) ?hr ?hp (fun _ hk => hk) trivial (Below.refl _ _) (Nat.le_refl _) (by simp) ?_;(case hd => rfl);(case hg => rfl);(case hr => first|(go_simp;done)|(go_simp;rfl));(case hp => exact (Reps.one (show Kd.M (Kd.int .i64) _ _ _ 218 [.int .i64 218] from rfl) (Reps.one (show Kd.M (Kd.int .i64) _ _ _ 180 [.int .i64 180] from rfl) (Reps.one (show Kd.M (Kd.int .i64) _ _ _ 148 [.int .i64 148] from rfl) (Reps.one (show Kd.M (Kd.int .i64) _ _ _ 122 [.int .i64 122] from rfl) (Reps.one (show Kd.M (Kd.int .i64) _ _ _ 100 [.int .i64 100] from rfl) (Reps.one (show Kd.M (Kd.int .i64) _ _ _ 82 [.int .i64 82] from rfl) (Reps.one (show Kd.M (Kd.int .i64) _ _ _ 67 [.int .i64 67] from rfl) (Reps.one (show Kd.M (Kd.int .i64) _ _ _ 54 [.int .i64 54] from rfl) (Reps.one (show Kd.M (Kd.int .i64) _ _ _ 43 [.int .i64 43] from rfl) (Reps.one (show Kd.M (Kd.int .i64) _ _ _ 34 [.int .i64 34] from rfl) (Reps.one (show Kd.M (Kd.int .i64) _ _ _ 26 [.int .i64 26] from rfl) (Reps.one (show Kd.M (Kd.int .i64) _ _ _ 19 [.int .i64 19] from rfl) (Reps.one (show Kd.M (Kd.int .i64) _ _ _ 14 [.int .i64 14] from rfl) (Reps.one (show Kd.M (Kd.int .i64) _ _ _ 10 [.int .i64 10] from rfl) (Reps.one (show Kd.M (Kd.int .i64) _ _ _ 6 [.int .i64 6] from rfl) (Reps.one (show Kd.M (Kd.int .i64) _ _ _ 3 [.int .i64 3] from rfl) (Reps.one (show Kd.M (Kd.int .i64) _ _ _ 0 [.int .i64 0] from rfl) (Reps.none _ _)))))))))))))))))));intro v121 w18 ho19 hb hg_ hnew_;clear hg_ hnew_;(first|rw [← Ny120.out] at ho19|(simp only [Int.reduceToNat] at ho19;rw [← Ny120.out] at ho19));have n0_:=ak_ (Kd.R_lower ho19 (below_size (by repeat (first|(with_reducible first|exact HB.out|apply ba_|apply bb_|apply bc_)|exact HB.out))));have n1_:=ak_ (below_step (by repeat (first|(with_reducible first|exact HB.out|apply ba_|apply bb_|apply bc_)|exact HB.out)) hb);clear HB;have HO122:=n0_;have HB:=n1_;clear n0_ n1_;clear hb ho19))
       go_ret
       exact ⟨_,by first|rfl|(simp [errW_none,errW_some] <;> rfl)|(simp [*,errW_none,errW_some] <;> rfl),by (with_reducible repeat (first|apply ra_|apply rb_|apply rc_));exact HO122.out,by repeat (first|(with_reducible first|exact HB.out|apply ba_|apply bb_|apply bc_)|exact HB.out)⟩
      ·rw [if_neg c17] at H
       have c17b0 : (a0 == 5) = false:=beq_eq_false_iff_ne.mpr c17
       have c17b1 : (a0 != 5) = true:=bne_iff_ne.mpr c17
       by_cases c20 : a0 = 6
       ·rw [if_pos c20] at H
        have c20b0 : (a0 == 6) = true:=beq_iff_eq.mpr c20
        have c20b1 : (a0 != 6) = false:=bne_eq_false_iff_eq.mpr c20
        clear c20
        obtain ⟨y123,hy123⟩ : ∃ y_ : List Int,y_ = (([205,163,128,97,70,44,20,0] : List Int)):=⟨_,rfl⟩
        replace H : (some y123) = some r:=by first|(rw [hy123];with_reducible exact H)|(have H2_:=(Option.bind_some _ _).symm.trans H;rw [hy123];with_reducible exact H2_)|(have H2_:=(Option.bind_some _ _).symm.trans H;with_reducible exact H2_)|with_reducible exact H|(rw [hy123];exact H)|exact H
        have Ny123:=ak_ hy123
        clear hy123
        obtain rfl:=Option.some.inj H
        go_enter Try.func12,Try.ntmps12
        go_wp2_with (first|((with_reducible refine gate_dst (N:=24) rfl ?_);refine Kd.R_lit (Kd.int .i64) _ 3 ?hg (N:=24) ?hd (xs:=([205,163,128,97,70,44,20,0] : List Int)) (inner:=[.int .i64 205,.int .i64 163,.int .i64 128,.int .i64 97,.int .i64 70,.int .i64 44,.int .i64 20,.int .i64 0]) (ok:=fun _ => True) (okp:=fun _ => True) ?hr ?hp (fun _ hk => hk) trivial (Below.refl _ _) (Nat.le_refl _) (by simp) ?_;(case hd => rfl);(case hg => rfl);(case hr => first|(go_simp;done)|(go_simp;rfl));(case hp => exact (Reps.one (show Kd.M (Kd.int .i64) _ _ _ 205 [.int .i64 205] from rfl) (Reps.one (show Kd.M (Kd.int .i64) _ _ _ 163 [.int .i64 163] from rfl) (Reps.one (show Kd.M (Kd.int .i64) _ _ _ 128 [.int .i64 128] from rfl) (Reps.one (show Kd.M (Kd.int .i64) _ _ _ 97 [.int .i64 97] from rfl) (Reps.one (show Kd.M (Kd.int .i64) _ _ _ 70 [.int .i64 70] from rfl) (Reps.one (show Kd.M (Kd.int .i64) _ _ _ 44 [.int .i64 44] from rfl) (Reps.one (show Kd.M (Kd.int .i64) _ _ _ 20 [.int .i64 20] from rfl) (Reps.one (show Kd.M (Kd.int .i64) _ _ _ 0 [.int .i64 0] from rfl) (Reps.none _ _))))))))));intro v124 w21 ho22 hb hg_ hnew_;clear hg_ hnew_;(first|rw [← Ny123.out] at ho22|(simp only [Int.reduceToNat] at ho22;rw [← Ny123.out] at ho22));have n0_:=ak_ (Kd.R_lower ho22 (below_size (by repeat (first|(with_reducible first|exact HB.out|apply ba_|apply bb_|apply bc_)|exact HB.out))));have n1_:=ak_ (below_step (by repeat (first|(with_reducible first|exact HB.out|apply ba_|apply bb_|apply bc_)|exact HB.out)) hb);clear HB;have HO125:=n0_;have HB:=n1_;clear n0_ n1_;clear hb ho22))
        go_ret
        exact ⟨_,by first|rfl|(simp [errW_none,errW_some] <;> rfl)|(simp [*,errW_none,errW_some] <;> rfl),by (with_reducible repeat (first|apply ra_|apply rb_|apply rc_));exact HO125.out,by repeat (first|(with_reducible first|exact HB.out|apply ba_|apply bb_|apply bc_)|exact HB.out)⟩
       ·rw [if_neg c20] at H
        have c20b0 : (a0 == 6) = false:=beq_eq_false_iff_ne.mpr c20
        have c20b1 : (a0 != 6) = true:=bne_iff_ne.mpr c20
        by_cases c23 : a0 = 7
        ·rw [if_pos c23] at H
         have c23b0 : (a0 == 7) = true:=beq_iff_eq.mpr c23
         have c23b1 : (a0 != 7) = false:=bne_eq_false_iff_eq.mpr c23
         clear c23
         obtain ⟨y126,hy126⟩ : ∃ y_ : List Int,y_ = (([231,155,38,0] : List Int)):=⟨_,rfl⟩
         replace H : (some y126) = some r:=by first|(rw [hy126];with_reducible exact H)|(have H2_:=(Option.bind_some _ _).symm.trans H;rw [hy126];with_reducible exact H2_)|(have H2_:=(Option.bind_some _ _).symm.trans H;with_reducible exact H2_)|with_reducible exact H|(rw [hy126];exact H)|exact H
         have Ny126:=ak_ hy126
         clear hy126
         obtain rfl:=Option.some.inj H
         go_enter Try.func12,Try.ntmps12
         go_wp2_with (first|((with_reducible refine gate_dst (N:=27) rfl ?_);refine Kd.R_lit (Kd.int .i64) _ 3 ?hg (N:=27) ?hd (xs:=([231,155,38,0] : List Int)) (inner:=[.int .i64 231,.int .i64 155,.int .i64 38,.int .i64 0]) (ok:=fun _ => True) (okp:=fun _ => True) ?hr ?hp (fun _ hk => hk) trivial (Below.refl _ _) (Nat.le_refl _) (by simp) ?_;(case hd => rfl);(case hg => rfl);(case hr => first|(go_simp;done)|(go_simp;rfl));(case hp => exact (Reps.one (show Kd.M (Kd.int .i64) _ _ _ 231 [.int .i64 231] from rfl) (Reps.one (show Kd.M (Kd.int .i64) _ _ _ 155 [.int .i64 155] from rfl) (Reps.one (show Kd.M (Kd.int .i64) _ _ _ 38 [.int .i64 38] from rfl) (Reps.one (show Kd.M (Kd.int .i64) _ _ _ 0 [.int .i64 0] from rfl) (Reps.none _ _))))));intro v127 w24 ho25 hb hg_ hnew_;clear hg_ hnew_;(first|rw [← Ny126.out] at ho25|(simp only [Int.reduceToNat] at ho25;rw [← Ny126.out] at ho25));have n0_:=ak_ (Kd.R_lower ho25 (below_size (by repeat (first|(with_reducible first|exact HB.out|apply ba_|apply bb_|apply bc_)|exact HB.out))));have n1_:=ak_ (below_step (by repeat (first|(with_reducible first|exact HB.out|apply ba_|apply bb_|apply bc_)|exact HB.out)) hb);clear HB;have HO128:=n0_;have HB:=n1_;clear n0_ n1_;clear hb ho25))
         go_ret
         exact ⟨_,by first|rfl|(simp [errW_none,errW_some] <;> rfl)|(simp [*,errW_none,errW_some] <;> rfl),by (with_reducible repeat (first|apply ra_|apply rb_|apply rc_));exact HO128.out,by repeat (first|(with_reducible first|exact HB.out|apply ba_|apply bb_|apply bc_)|exact HB.out)⟩
        ·rw [if_neg c23] at H
         have c23b0 : (a0 == 7) = false:=beq_eq_false_iff_ne.mpr c23
         have c23b1 : (a0 != 7) = true:=bne_iff_ne.mpr c23
         by_cases c26 : a0 = 8
         ·rw [if_pos c26] at H
          have c26b0 : (a0 == 8) = true:=beq_iff_eq.mpr c26
          have c26b1 : (a0 != 8) = false:=bne_eq_false_iff_eq.mpr c26
          clear c26
          obtain ⟨y129,hy129⟩ : ∃ y_ : List Int,y_ = (([192,128,64,0] : List Int)):=⟨_,rfl⟩
          replace H : (some y129) = some r:=by first|(rw [hy129];with_reducible exact H)|(have H2_:=(Option.bind_some _ _).symm.trans H;rw [hy129];with_reducible exact H2_)|(have H2_:=(Option.bind_some _ _).symm.trans H;with_reducible exact H2_)|with_reducible exact H|(rw [hy129];exact H)|exact H
          have Ny129:=ak_ hy129
          clear hy129
          obtain rfl:=Option.some.inj H
          go_enter Try.func12,Try.ntmps12
          go_wp2_with (first|((with_reducible refine gate_dst (N:=30) rfl ?_);refine Kd.R_lit (Kd.int .i64) _ 3 ?hg (N:=30) ?hd (xs:=([192,128,64,0] : List Int)) (inner:=[.int .i64 192,.int .i64 128,.int .i64 64,.int .i64 0]) (ok:=fun _ => True) (okp:=fun _ => True) ?hr ?hp (fun _ hk => hk) trivial (Below.refl _ _) (Nat.le_refl _) (by simp) ?_;(case hd => rfl);(case hg => rfl);(case hr => first|(go_simp;done)|(go_simp;rfl));(case hp => exact (Reps.one (show Kd.M (Kd.int .i64) _ _ _ 192 [.int .i64 192] from rfl) (Reps.one (show Kd.M (Kd.int .i64) _ _ _ 128 [.int .i64 128] from rfl) (Reps.one (show Kd.M (Kd.int .i64) _ _ _ 64 [.int .i64 64] from rfl) (Reps.one (show Kd.M (Kd.int .i64) _ _ _ 0 [.int .i64 0] from rfl) (Reps.none _ _))))));intro v130 w27 ho28 hb hg_ hnew_;clear hg_ hnew_;(first|rw [← Ny129.out] at ho28|(simp only [Int.reduceToNat] at ho28;rw [← Ny129.out] at ho28));have n0_:=ak_ (Kd.R_lower ho28 (below_size (by repeat (first|(with_reducible first|exact HB.out|apply ba_|apply bb_|apply bc_)|exact HB.out))));have n1_:=ak_ (below_step (by repeat (first|(with_reducible first|exact HB.out|apply ba_|apply bb_|apply bc_)|exact HB.out)) hb);clear HB;have HO131:=n0_;have HB:=n1_;clear n0_ n1_;clear hb ho28))
          go_ret
          exact ⟨_,by first|rfl|(simp [errW_none,errW_some] <;> rfl)|(simp [*,errW_none,errW_some] <;> rfl),by (with_reducible repeat (first|apply ra_|apply rb_|apply rc_));exact HO131.out,by repeat (first|(with_reducible first|exact HB.out|apply ba_|apply bb_|apply bc_)|exact HB.out)⟩
         ·rw [if_neg c26] at H
          have c26b0 : (a0 == 8) = false:=beq_eq_false_iff_ne.mpr c26
          have c26b1 : (a0 != 8) = true:=bne_iff_ne.mpr c26
          obtain rfl:=Option.some.inj H
          go_enter Try.func12,Try.ntmps12
          go_wp2
          go_ret
          exact ⟨_,by first|rfl|(simp [errW_none,errW_some] <;> rfl)|(simp [*,errW_none,errW_some] <;> rfl),by first|exact Kd.R_nil _ _ _ _ _|exact Kd.N_nil _ _ _ _ _|exact Kd.V_nil _ _ _ _ _|exact Kd.Q_nil _ _ _ _ _|exact Kd.S_nil _ _ _ _ _,by repeat (first|(with_reducible first|exact HB.out|apply ba_|apply bb_|apply bc_)|exact HB.out)⟩

end Go.Proofs.Ytkhcckemcamcbaa.P
