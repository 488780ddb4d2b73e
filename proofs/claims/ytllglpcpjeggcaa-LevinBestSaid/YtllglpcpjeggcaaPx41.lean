/- The machine side of the laws of one chapter, without conditions: each call of a Go function comes to what the Lean function of its name answers. Written for this claim by a program of the prover. -/
import Derived.Test.YtllglpcpjeggcaaPx0
import Derived.Test.YtllglpcpjeggcaaPx31
import Derived.Test.YtllglpcpjeggcaaPx40
namespace Go.Proofs.Ytllglpcpjeggcaa.P
open Go.RowKit Go.Proofs.YtllglpcpjeggcaaW.PrintWords Go.Proofs.YtllglpcpjeggcaaW.PrintLast Go.Proofs.YtllglpcpjeggcaaW.PrintMore
attribute [local go_sem] max2_int min2_int max_two min_two max_three min_three max_four min_four   -- for this text's walks alone
set_option linter.unusedVariables false
set_option linter.unusedSimpArgs false

/-! ### madrigalref1_quarter: function 57 -/
def madrigalref1_quarter.f (k : Nat) (a0 : Int) : Option (Int):=if a0 ≤ 8192 then ((madrigalref1_Mul.f k a0 1686629713 14).bind fun t601 => ((madrigalref1_Mul.f k t601 t601 30).bind fun t602 => ((madrigalref1_series.f k t602 (-296) (([26631,(-1491308),44739243,(-536870912),1073741824] : List Int))).bind fun t606 => ((madrigalref1_Mul.f k t606 1 15).bind fun t607 => (some t607))))) else ((madrigalref1_Mul.f k (wrap64 (16384 - a0)) 1686629713 14).bind fun t608 => ((madrigalref1_Mul.f k t608 t608 30).bind fun t609 => ((madrigalref1_series.f k t609 2959 (([(-213044),8947849,(-178956971),1073741824] : List Int))).bind fun t613 => ((madrigalref1_Mul.f k t608 t613 30).bind fun t614 => ((madrigalref1_Mul.f k t614 1 15).bind fun t615 => (some t615))))))
theorem madrigalref1_quarter.mono : ∀ a0 k,LeO (madrigalref1_quarter.f k a0) (madrigalref1_quarter.f (k + 1) a0):=by
 intro a0 k
 unfold madrigalref1_quarter.f
 repeat' first|(with_reducible first|exact madrigalref1_Mul.mono _ _ _ _|exact madrigalref1_series.mono _ _ _ _|exact LeO.refl _|exact LeO.none _|refine LeO.ite ?_ ?_|refine LeO.bind ?_ (fun _ => ?_))|exact madrigalref1_Mul.mono _ _ _ _|exact madrigalref1_series.mono _ _ _ _|exact LeO.none _|refine LeO.ite ?_ ?_|refine LeO.bind ?_ (fun _ => ?_)
set_option maxHeartbeats 8000000 in
set_option maxRecDepth 100000 in
theorem madrigalref1_quarter.calls (k : Nat) (a0 : Int) (r : Int) (w : World) (h : madrigalref1_quarter.f k a0 = some r) :
  Calls Try.prog 57 #[.int .i64 a0] w fun e w' => e = .returned (.int .i64 r) ∧ Below w.heap.size w w':=by
 have HB:=ak_ (Below.refl w.heap.size w)
 have H : (if a0 ≤ 8192 then ((madrigalref1_Mul.f k a0 1686629713 14).bind fun t601 => ((madrigalref1_Mul.f k t601 t601 30).bind fun t602 => ((madrigalref1_series.f k t602 (-296) (([26631,(-1491308),44739243,(-536870912),1073741824] : List Int))).bind fun t606 => ((madrigalref1_Mul.f k t606 1 15).bind fun t607 => (some t607))))) else ((madrigalref1_Mul.f k (wrap64 (16384 - a0)) 1686629713 14).bind fun t608 => ((madrigalref1_Mul.f k t608 t608 30).bind fun t609 => ((madrigalref1_series.f k t609 2959 (([(-213044),8947849,(-178956971),1073741824] : List Int))).bind fun t613 => ((madrigalref1_Mul.f k t608 t613 30).bind fun t614 => ((madrigalref1_Mul.f k t614 1 15).bind fun t615 => (some t615))))))) = some r:=h
 clear h
 by_cases c2 : a0 ≤ 8192
 ·rw [if_pos c2] at H
  have c2b0:=decide_eq_true c2
  clear c2
  replace H:=Option.bind_eq_some_iff.mp H
  obtain ⟨t601,A30,H⟩:=H
  (try dsimp only at H)
  have A3:=ak_ A30
  clear A30
  replace H:=Option.bind_eq_some_iff.mp H
  obtain ⟨t602,A40,H⟩:=H
  (try dsimp only at H)
  have A4:=ak_ A40
  clear A40
  obtain ⟨y603,hy603⟩ : ∃ y_ : List Int,y_ = (([26631,(-1491308),44739243,(-536870912),1073741824] : List Int)):=⟨_,rfl⟩
  replace H : ((madrigalref1_series.f k t602 (-296) y603).bind fun t606 => ((madrigalref1_Mul.f k t606 1 15).bind fun t607 => (some t607))) = some r:=by first|(rw [hy603];with_reducible exact H)|(have H2_:=(Option.bind_some _ _).symm.trans H;rw [hy603];with_reducible exact H2_)|(have H2_:=(Option.bind_some _ _).symm.trans H;with_reducible exact H2_)|with_reducible exact H|(rw [hy603];exact H)|exact H
  have Ny603:=ak_ hy603
  clear hy603
  replace H:=Option.bind_eq_some_iff.mp H
  obtain ⟨t606,A50,H⟩:=H
  (try dsimp only at H)
  have A5:=ak_ A50
  clear A50
  replace H:=Option.bind_eq_some_iff.mp H
  obtain ⟨t607,A60,H⟩:=H
  (try dsimp only at H)
  have A6:=ak_ A60
  clear A60
  obtain rfl:=Option.some.inj H
  go_enter Try.func57,Try.ntmps57
  go_wp2_with (first|((with_reducible refine gate_callee (f:=34) rfl ?_);refine goesL_ (some 10) rfl rfl Try.func34 (by kernel_rfl) rfl #[.int .i64 a0,.int .i64 1686629713,.int .i64 14] rfl (by (try simp only [List.map_toArray,List.map_cons,List.map_nil]);first|done|rfl|(simp only [List.length_drop,List.length_take];rfl)) ?_;(with_reducible refine (madrigalref1_Mul.calls k a0 1686629713 14 t601 _ A3.out).mono ?_);rintro e w' ⟨rfl,⟨nd,rfl⟩⟩;refine ⟨_,rfl,?_⟩)|((with_reducible refine gate_callee (f:=34) rfl ?_);refine goesL_ (some 13) rfl rfl Try.func34 (by kernel_rfl) rfl #[.int .i64 t601,.int .i64 t601,.int .i64 30] rfl (by (try simp only [List.map_toArray,List.map_cons,List.map_nil]);first|done|rfl|(simp only [List.length_drop,List.length_take];rfl)) ?_;(with_reducible refine (madrigalref1_Mul.calls k t601 t601 30 t602 _ A4.out).mono ?_);rintro e w' ⟨rfl,⟨nd,rfl⟩⟩;refine ⟨_,rfl,?_⟩)|((with_reducible refine gate_dst (N:=15) rfl ?_);refine Kd.R_lit (Kd.int .i64) _ 2 ?hg (N:=15) ?hd (xs:=([26631,(-1491308),44739243,(-536870912),1073741824] : List Int)) (inner:=[.int .i64 26631,.int .i64 (-1491308),.int .i64 44739243,.int .i64 (-536870912),.int .i64 1073741824]) (ok:=fun _ => True) (okp:=fun _ => True) ?hr ?hp (fun _ hk => hk) trivial (Below.refl _ _) (Nat.le_refl _) (by simp) ?_;(case hd => rfl);(case hg => rfl);(case hr => first|(go_simp;done)|(go_simp;rfl));(case hp => exact (Reps.one (show Kd.M (Kd.int .i64) _ _ _ 26631 [.int .i64 26631] from rfl) (Reps.one (show Kd.M (Kd.int .i64) _ _ _ (-1491308) [.int .i64 (-1491308)] from rfl) (Reps.one (show Kd.M (Kd.int .i64) _ _ _ 44739243 [.int .i64 44739243] from rfl) (Reps.one (show Kd.M (Kd.int .i64) _ _ _ (-536870912) [.int .i64 (-536870912)] from rfl) (Reps.one (show Kd.M (Kd.int .i64) _ _ _ 1073741824 [.int .i64 1073741824] from rfl) (Reps.none _ _)))))));intro v604 w7 ho8 hb hg_ hnew_;clear hg_ hnew_;(first|rw [← Ny603.out] at ho8|(simp only [Int.reduceToNat] at ho8;rw [← Ny603.out] at ho8));have n0_:=ak_ (Kd.R_lower ho8 (below_size (by repeat (first|(with_reducible first|exact HB.out|apply ba_|apply bb_|apply bc_)|exact HB.out))));have n1_:=ak_ (below_step (by repeat (first|(with_reducible first|exact HB.out|apply ba_|apply bb_|apply bc_)|exact HB.out)) hb);clear HB;have HO605:=n0_;have HB:=n1_;clear n0_ n1_;clear hb ho8;obtain ⟨Ao9,co9,eo9⟩:=Kd.R_slice HO605.out;subst eo9)|((with_reducible refine gate_callee (f:=58) rfl ?_);refine goesL_ (some 16) rfl rfl Try.func58 (by kernel_rfl) rfl #[.int .i64 t602,.int .i64 (-296),.slice Ao9 y603.length co9] rfl (by (try simp only [List.map_toArray,List.map_cons,List.map_nil]);first|done|rfl|(simp only [List.length_drop,List.length_take];rfl)) ?_;(with_reducible refine (madrigalref1_series.calls k t602 (-296) _ _ y603 t606 _ ?side1 ?side2 A5.out).mono ?_);(case side1 => repeat (first|exact (Kd.R_reads' HO605.out).2.2|(with_reducible refine Kd.C_alloc ?_ _)|(with_reducible refine Kd.C_drewN ?_ _)|(with_reducible refine Kd.C_drew ?_)));(case side2 => exact (Kd.R_reads' HO605.out).2.1);rintro e w' ⟨rfl,⟨nd,rfl⟩⟩;refine ⟨_,rfl,?_⟩)|((with_reducible refine gate_callee (f:=34) rfl ?_);refine goesL_ (some 17) rfl rfl Try.func34 (by kernel_rfl) rfl #[.int .i64 t606,.int .i64 1,.int .i64 15] rfl (by (try simp only [List.map_toArray,List.map_cons,List.map_nil]);first|done|rfl|(simp only [List.length_drop,List.length_take];rfl)) ?_;(with_reducible refine (madrigalref1_Mul.calls k t606 1 15 t607 _ A6.out).mono ?_);rintro e w' ⟨rfl,⟨nd,rfl⟩⟩;refine ⟨_,rfl,?_⟩))
  go_ret
  exact ⟨by first|rfl|(simp [errW_none,errW_some] <;> rfl)|(simp [*,errW_none,errW_some] <;> rfl),by repeat (first|(with_reducible first|exact HB.out|apply ba_|apply bb_|apply bc_)|exact HB.out)⟩
 ·rw [if_neg c2] at H
  have c2b0:=decide_eq_false c2
  clear c2
  replace H:=Option.bind_eq_some_iff.mp H
  obtain ⟨t608,A100,H⟩:=H
  (try dsimp only at H)
  have A10:=ak_ A100
  clear A100
  replace H:=Option.bind_eq_some_iff.mp H
  obtain ⟨t609,A110,H⟩:=H
  (try dsimp only at H)
  have A11:=ak_ A110
  clear A110
  obtain ⟨y610,hy610⟩ : ∃ y_ : List Int,y_ = (([(-213044),8947849,(-178956971),1073741824] : List Int)):=⟨_,rfl⟩
  replace H : ((madrigalref1_series.f k t609 2959 y610).bind fun t613 => ((madrigalref1_Mul.f k t608 t613 30).bind fun t614 => ((madrigalref1_Mul.f k t614 1 15).bind fun t615 => (some t615)))) = some r:=by first|(rw [hy610];with_reducible exact H)|(have H2_:=(Option.bind_some _ _).symm.trans H;rw [hy610];with_reducible exact H2_)|(have H2_:=(Option.bind_some _ _).symm.trans H;with_reducible exact H2_)|with_reducible exact H|(rw [hy610];exact H)|exact H
  have Ny610:=ak_ hy610
  clear hy610
  replace H:=Option.bind_eq_some_iff.mp H
  obtain ⟨t613,A120,H⟩:=H
  (try dsimp only at H)
  have A12:=ak_ A120
  clear A120
  replace H:=Option.bind_eq_some_iff.mp H
  obtain ⟨t614,A130,H⟩:=H
  (try dsimp only at H)
  have A13:=ak_ A130
  clear A130
  replace H:=Option.bind_eq_some_iff.mp H
  obtain ⟨t615,A140,H⟩:=H
  (try dsimp only at H)
  have A14:=ak_ A140
  clear A140
  obtain rfl:=Option.some.inj H
  go_enter Try.func57,Try.ntmps57
  go_wp2_with (first|((with_reducible refine gate_callee (f:=34) rfl ?_);refine goesL_ (some 20) rfl rfl Try.func34 (by kernel_rfl) rfl #[.int .i64 (wrap64 (16384 - a0)),.int .i64 1686629713,.int .i64 14] rfl (by (try simp only [List.map_toArray,List.map_cons,List.map_nil]);first|done|rfl|(simp only [List.length_drop,List.length_take];rfl)) ?_;(with_reducible refine (madrigalref1_Mul.calls k (wrap64 (16384 - a0)) 1686629713 14 t608 _ A10.out).mono ?_);rintro e w' ⟨rfl,⟨nd,rfl⟩⟩;refine ⟨_,rfl,?_⟩)|((with_reducible refine gate_callee (f:=34) rfl ?_);refine goesL_ (some 23) rfl rfl Try.func34 (by kernel_rfl) rfl #[.int .i64 t608,.int .i64 t608,.int .i64 30] rfl (by (try simp only [List.map_toArray,List.map_cons,List.map_nil]);first|done|rfl|(simp only [List.length_drop,List.length_take];rfl)) ?_;(with_reducible refine (madrigalref1_Mul.calls k t608 t608 30 t609 _ A11.out).mono ?_);rintro e w' ⟨rfl,⟨nd,rfl⟩⟩;refine ⟨_,rfl,?_⟩)|((with_reducible refine gate_dst (N:=26) rfl ?_);refine Kd.R_lit (Kd.int .i64) _ 2 ?hg (N:=26) ?hd (xs:=([(-213044),8947849,(-178956971),1073741824] : List Int)) (inner:=[.int .i64 (-213044),.int .i64 8947849,.int .i64 (-178956971),.int .i64 1073741824]) (ok:=fun _ => True) (okp:=fun _ => True) ?hr ?hp (fun _ hk => hk) trivial (Below.refl _ _) (Nat.le_refl _) (by simp) ?_;(case hd => rfl);(case hg => rfl);(case hr => first|(go_simp;done)|(go_simp;rfl));(case hp => exact (Reps.one (show Kd.M (Kd.int .i64) _ _ _ (-213044) [.int .i64 (-213044)] from rfl) (Reps.one (show Kd.M (Kd.int .i64) _ _ _ 8947849 [.int .i64 8947849] from rfl) (Reps.one (show Kd.M (Kd.int .i64) _ _ _ (-178956971) [.int .i64 (-178956971)] from rfl) (Reps.one (show Kd.M (Kd.int .i64) _ _ _ 1073741824 [.int .i64 1073741824] from rfl) (Reps.none _ _))))));intro v611 w15 ho16 hb hg_ hnew_;clear hg_ hnew_;(first|rw [← Ny610.out] at ho16|(simp only [Int.reduceToNat] at ho16;rw [← Ny610.out] at ho16));have n0_:=ak_ (Kd.R_lower ho16 (below_size (by repeat (first|(with_reducible first|exact HB.out|apply ba_|apply bb_|apply bc_)|exact HB.out))));have n1_:=ak_ (below_step (by repeat (first|(with_reducible first|exact HB.out|apply ba_|apply bb_|apply bc_)|exact HB.out)) hb);clear HB;have HO612:=n0_;have HB:=n1_;clear n0_ n1_;clear hb ho16;obtain ⟨Ao17,co17,eo17⟩:=Kd.R_slice HO612.out;subst eo17)|((with_reducible refine gate_callee (f:=58) rfl ?_);refine goesL_ (some 27) rfl rfl Try.func58 (by kernel_rfl) rfl #[.int .i64 t609,.int .i64 2959,.slice Ao17 y610.length co17] rfl (by (try simp only [List.map_toArray,List.map_cons,List.map_nil]);first|done|rfl|(simp only [List.length_drop,List.length_take];rfl)) ?_;(with_reducible refine (madrigalref1_series.calls k t609 2959 _ _ y610 t613 _ ?side1 ?side2 A12.out).mono ?_);(case side1 => repeat (first|exact (Kd.R_reads' HO612.out).2.2|(with_reducible refine Kd.C_alloc ?_ _)|(with_reducible refine Kd.C_drewN ?_ _)|(with_reducible refine Kd.C_drew ?_)));(case side2 => exact (Kd.R_reads' HO612.out).2.1);rintro e w' ⟨rfl,⟨nd,rfl⟩⟩;refine ⟨_,rfl,?_⟩)|((with_reducible refine gate_callee (f:=34) rfl ?_);refine goesL_ (some 28) rfl rfl Try.func34 (by kernel_rfl) rfl #[.int .i64 t608,.int .i64 t613,.int .i64 30] rfl (by (try simp only [List.map_toArray,List.map_cons,List.map_nil]);first|done|rfl|(simp only [List.length_drop,List.length_take];rfl)) ?_;(with_reducible refine (madrigalref1_Mul.calls k t608 t613 30 t614 _ A13.out).mono ?_);rintro e w' ⟨rfl,⟨nd,rfl⟩⟩;refine ⟨_,rfl,?_⟩)|((with_reducible refine gate_callee (f:=34) rfl ?_);refine goesL_ (some 29) rfl rfl Try.func34 (by kernel_rfl) rfl #[.int .i64 t614,.int .i64 1,.int .i64 15] rfl (by (try simp only [List.map_toArray,List.map_cons,List.map_nil]);first|done|rfl|(simp only [List.length_drop,List.length_take];rfl)) ?_;(with_reducible refine (madrigalref1_Mul.calls k t614 1 15 t615 _ A14.out).mono ?_);rintro e w' ⟨rfl,⟨nd,rfl⟩⟩;refine ⟨_,rfl,?_⟩))
  go_ret
  exact ⟨by first|rfl|(simp [errW_none,errW_some] <;> rfl)|(simp [*,errW_none,errW_some] <;> rfl),by repeat (first|(with_reducible first|exact HB.out|apply ba_|apply bb_|apply bc_)|exact HB.out)⟩

end Go.Proofs.Ytllglpcpjeggcaa.P
