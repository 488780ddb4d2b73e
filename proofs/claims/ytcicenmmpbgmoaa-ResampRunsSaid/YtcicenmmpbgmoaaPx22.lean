/- The machine side of the laws of one chapter, without conditions: each call of a Go function comes to what the Lean function of its name answers. Written for this claim by a program of the prover. -/
import Derived.Test.YtcicenmmpbgmoaaPx0
import Derived.Test.YtcicenmmpbgmoaaPx20
import Derived.Test.YtcicenmmpbgmoaaPx21
namespace Go.Proofs.Ytcicenmmpbgmoaa.P
open Go.RowKit Go.Proofs.YtcicenmmpbgmoaaW.PrintWords Go.Proofs.YtcicenmmpbgmoaaW.PrintLast Go.Proofs.YtcicenmmpbgmoaaW.PrintMore
attribute [local go_sem] max2_int min2_int max_two min_two max_three min_three max_four min_four   -- for this text's walks alone
set_option linter.unusedVariables false
set_option linter.unusedSimpArgs false

/-! ### madrigalref1_quarter: function 44 -/
def madrigalref1_quarter.f (k : Nat) (a0 : Int) : Option (Int):=if a0 ≤ 8192 then ((madrigalref1_Mul.f k a0 1686629713 14).bind fun t289 => ((madrigalref1_Mul.f k t289 t289 30).bind fun t290 => ((madrigalref1_series.f k t290 (-296) (([26631,(-1491308),44739243,(-536870912),1073741824] : List Int))).bind fun t294 => ((madrigalref1_Mul.f k t294 1 15).bind fun t295 => (some t295))))) else ((madrigalref1_Mul.f k (wrap64 (16384 - a0)) 1686629713 14).bind fun t296 => ((madrigalref1_Mul.f k t296 t296 30).bind fun t297 => ((madrigalref1_series.f k t297 2959 (([(-213044),8947849,(-178956971),1073741824] : List Int))).bind fun t301 => ((madrigalref1_Mul.f k t296 t301 30).bind fun t302 => ((madrigalref1_Mul.f k t302 1 15).bind fun t303 => (some t303))))))
theorem madrigalref1_quarter.mono : ∀ a0 k,LeO (madrigalref1_quarter.f k a0) (madrigalref1_quarter.f (k + 1) a0):=by
 intro a0 k
 unfold madrigalref1_quarter.f
 repeat' first|(with_reducible first|exact madrigalref1_Mul.mono _ _ _ _|exact madrigalref1_series.mono _ _ _ _|exact LeO.refl _|exact LeO.none _|refine LeO.ite ?_ ?_|refine LeO.bind ?_ (fun _ => ?_))|exact madrigalref1_Mul.mono _ _ _ _|exact madrigalref1_series.mono _ _ _ _|exact LeO.none _|refine LeO.ite ?_ ?_|refine LeO.bind ?_ (fun _ => ?_)
set_option maxHeartbeats 8000000 in
set_option maxRecDepth 100000 in
theorem madrigalref1_quarter.calls (k : Nat) (a0 : Int) (r : Int) (w : World) (h : madrigalref1_quarter.f k a0 = some r) :
  Calls Try.prog 44 #[.int .i64 a0] w fun e w' => e = .returned (.int .i64 r) ∧ Below w.heap.size w w':=by
 have HB:=ak_ (Below.refl w.heap.size w)
 have H : (if a0 ≤ 8192 then ((madrigalref1_Mul.f k a0 1686629713 14).bind fun t289 => ((madrigalref1_Mul.f k t289 t289 30).bind fun t290 => ((madrigalref1_series.f k t290 (-296) (([26631,(-1491308),44739243,(-536870912),1073741824] : List Int))).bind fun t294 => ((madrigalref1_Mul.f k t294 1 15).bind fun t295 => (some t295))))) else ((madrigalref1_Mul.f k (wrap64 (16384 - a0)) 1686629713 14).bind fun t296 => ((madrigalref1_Mul.f k t296 t296 30).bind fun t297 => ((madrigalref1_series.f k t297 2959 (([(-213044),8947849,(-178956971),1073741824] : List Int))).bind fun t301 => ((madrigalref1_Mul.f k t296 t301 30).bind fun t302 => ((madrigalref1_Mul.f k t302 1 15).bind fun t303 => (some t303))))))) = some r:=h
 clear h
 by_cases c2 : a0 ≤ 8192
 ·rw [if_pos c2] at H
  have c2b0:=decide_eq_true c2
  clear c2
  replace H:=Option.bind_eq_some_iff.mp H
  obtain ⟨t289,A30,H⟩:=H
  (try dsimp only at H)
  have A3:=ak_ A30
  clear A30
  replace H:=Option.bind_eq_some_iff.mp H
  obtain ⟨t290,A40,H⟩:=H
  (try dsimp only at H)
  have A4:=ak_ A40
  clear A40
  obtain ⟨y291,hy291⟩ : ∃ y_ : List Int,y_ = (([26631,(-1491308),44739243,(-536870912),1073741824] : List Int)):=⟨_,rfl⟩
  replace H : ((madrigalref1_series.f k t290 (-296) y291).bind fun t294 => ((madrigalref1_Mul.f k t294 1 15).bind fun t295 => (some t295))) = some r:=by first|(rw [hy291];with_reducible exact H)|(have H2_:=(Option.bind_some _ _).symm.trans H;rw [hy291];with_reducible exact H2_)|(have H2_:=(Option.bind_some _ _).symm.trans H;with_reducible exact H2_)|with_reducible exact H|(rw [hy291];exact H)|exact H
  have Ny291:=ak_ hy291
  clear hy291
  replace H:=Option.bind_eq_some_iff.mp H
  obtain ⟨t294,A50,H⟩:=H
  (try dsimp only at H)
  have A5:=ak_ A50
  clear A50
  replace H:=Option.bind_eq_some_iff.mp H
  obtain ⟨t295,A60,H⟩:=H
  (try dsimp only at H)
  have A6:=ak_ A60
  clear A60
  obtain rfl:=Option.some.inj H
  go_enter Try.func44,Try.ntmps44
  go_wp2_with (first|((with_reducible refine gate_callee (f:=37) rfl ?_);refine goesL_ (some 10) rfl rfl Try.func37 (by kernel_rfl) rfl #[.int .i64 a0,.int .i64 1686629713,.int .i64 14] rfl (by (try simp only [List.map_toArray,List.map_cons,List.map_nil]);first|done|rfl|(simp only [List.length_drop,List.length_take];rfl)) ?_;(with_reducible refine (madrigalref1_Mul.calls k a0 1686629713 14 t289 _ A3.out).mono ?_);rintro e w' ⟨rfl,⟨nd,rfl⟩⟩;refine ⟨_,rfl,?_⟩)|((with_reducible refine gate_callee (f:=37) rfl ?_);refine goesL_ (some 13) rfl rfl Try.func37 (by kernel_rfl) rfl #[.int .i64 t289,.int .i64 t289,.int .i64 30] rfl (by (try simp only [List.map_toArray,List.map_cons,List.map_nil]);first|done|rfl|(simp only [List.length_drop,List.length_take];rfl)) ?_;(with_reducible refine (madrigalref1_Mul.calls k t289 t289 30 t290 _ A4.out).mono ?_);rintro e w' ⟨rfl,⟨nd,rfl⟩⟩;refine ⟨_,rfl,?_⟩)|((with_reducible refine gate_dst (N:=15) rfl ?_);refine Kd.R_lit (Kd.int .i64) _ 2 ?hg (N:=15) ?hd (xs:=([26631,(-1491308),44739243,(-536870912),1073741824] : List Int)) (inner:=[.int .i64 26631,.int .i64 (-1491308),.int .i64 44739243,.int .i64 (-536870912),.int .i64 1073741824]) (ok:=fun _ => True) (okp:=fun _ => True) ?hr ?hp (fun _ hk => hk) trivial (Below.refl _ _) (Nat.le_refl _) (by simp) ?_;(case hd => rfl);(case hg => rfl);(case hr => first|(go_simp;done)|(go_simp;rfl));(case hp => exact (Reps.one (show Kd.M (Kd.int .i64) _ _ _ 26631 [.int .i64 26631] from rfl) (Reps.one (show Kd.M (Kd.int .i64) _ _ _ (-1491308) [.int .i64 (-1491308)] from rfl) (Reps.one (show Kd.M (Kd.int .i64) _ _ _ 44739243 [.int .i64 44739243] from rfl) (Reps.one (show Kd.M (Kd.int .i64) _ _ _ (-536870912) [.int .i64 (-536870912)] from rfl) (Reps.one (show Kd.M (Kd.int .i64) _ _ _ 1073741824 [.int .i64 1073741824] from rfl) (Reps.none _ _)))))));intro v292 w7 ho8 hb hg_ hnew_;clear hg_ hnew_;(first|rw [← Ny291.out] at ho8|(simp only [Int.reduceToNat] at ho8;rw [← Ny291.out] at ho8));have n0_:=ak_ (Kd.R_lower ho8 (below_size (by repeat (first|(with_reducible first|exact HB.out|apply ba_|apply bb_|apply bc_)|exact HB.out))));have n1_:=ak_ (below_step (by repeat (first|(with_reducible first|exact HB.out|apply ba_|apply bb_|apply bc_)|exact HB.out)) hb);clear HB;have HO293:=n0_;have HB:=n1_;clear n0_ n1_;clear hb ho8;obtain ⟨Ao9,co9,eo9⟩:=Kd.R_slice HO293.out;subst eo9)|((with_reducible refine gate_callee (f:=45) rfl ?_);refine goesL_ (some 16) rfl rfl Try.func45 (by kernel_rfl) rfl #[.int .i64 t290,.int .i64 (-296),.slice Ao9 y291.length co9] rfl (by (try simp only [List.map_toArray,List.map_cons,List.map_nil]);first|done|rfl|(simp only [List.length_drop,List.length_take];rfl)) ?_;(with_reducible refine (madrigalref1_series.calls k t290 (-296) _ _ y291 t294 _ ?side1 ?side2 A5.out).mono ?_);(case side1 => repeat (first|exact (Kd.R_reads' HO293.out).2.2|(with_reducible refine Kd.C_alloc ?_ _)|(with_reducible refine Kd.C_drewN ?_ _)|(with_reducible refine Kd.C_drew ?_)));(case side2 => exact (Kd.R_reads' HO293.out).2.1);rintro e w' ⟨rfl,⟨nd,rfl⟩⟩;refine ⟨_,rfl,?_⟩)|((with_reducible refine gate_callee (f:=37) rfl ?_);refine goesL_ (some 17) rfl rfl Try.func37 (by kernel_rfl) rfl #[.int .i64 t294,.int .i64 1,.int .i64 15] rfl (by (try simp only [List.map_toArray,List.map_cons,List.map_nil]);first|done|rfl|(simp only [List.length_drop,List.length_take];rfl)) ?_;(with_reducible refine (madrigalref1_Mul.calls k t294 1 15 t295 _ A6.out).mono ?_);rintro e w' ⟨rfl,⟨nd,rfl⟩⟩;refine ⟨_,rfl,?_⟩))
  go_ret
  exact ⟨by first|rfl|(simp [errW_none,errW_some] <;> rfl)|(simp [*,errW_none,errW_some] <;> rfl),by repeat (first|(with_reducible first|exact HB.out|apply ba_|apply bb_|apply bc_)|exact HB.out)⟩
 ·rw [if_neg c2] at H
  have c2b0:=decide_eq_false c2
  clear c2
  replace H:=Option.bind_eq_some_iff.mp H
  obtain ⟨t296,A100,H⟩:=H
  (try dsimp only at H)
  have A10:=ak_ A100
  clear A100
  replace H:=Option.bind_eq_some_iff.mp H
  obtain ⟨t297,A110,H⟩:=H
  (try dsimp only at H)
  have A11:=ak_ A110
  clear A110
  obtain ⟨y298,hy298⟩ : ∃ y_ : List Int,y_ = (([(-213044),8947849,(-178956971),1073741824] : List Int)):=⟨_,rfl⟩
  replace H : ((madrigalref1_series.f k t297 2959 y298).bind fun t301 => ((madrigalref1_Mul.f k t296 t301 30).bind fun t302 => ((madrigalref1_Mul.f k t302 1 15).bind fun t303 => (some t303)))) = some r:=by first|(rw [hy298];with_reducible exact H)|(have H2_:=(Option.bind_some _ _).symm.trans H;rw [hy298];with_reducible exact H2_)|(have H2_:=(Option.bind_some _ _).symm.trans H;with_reducible exact H2_)|with_reducible exact H|(rw [hy298];exact H)|exact H
  have Ny298:=ak_ hy298
  clear hy298
  replace H:=Option.bind_eq_some_iff.mp H
  obtain ⟨t301,A120,H⟩:=H
  (try dsimp only at H)
  have A12:=ak_ A120
  clear A120
  replace H:=Option.bind_eq_some_iff.mp H
  obtain ⟨t302,A130,H⟩:=H
  (try dsimp only at H)
  have A13:=ak_ A130
  clear A130
  replace H:=Option.bind_eq_some_iff.mp H
  obtain ⟨t303,A140,H⟩:=H
  (try dsimp only at H)
  have A14:=ak_ A140
  clear A140
  obtain rfl:=Option.some.inj H
  go_enter Try.func44,Try.ntmps44
  go_wp2_with (first|((with_reducible refine gate_callee (f:=37) rfl ?_);refine goesL_ (some 20) rfl rfl Try.func37 (by kernel_rfl) rfl #[.int .i64 (wrap64 (16384 - a0)),.int .i64 1686629713,.int .i64 14] rfl (by (try simp only [List.map_toArray,List.map_cons,List.map_nil]);first|done|rfl|(simp only [List.length_drop,List.length_take];rfl)) ?_;(with_reducible refine (madrigalref1_Mul.calls k (wrap64 (16384 - a0)) 1686629713 14 t296 _ A10.out).mono ?_);rintro e w' ⟨rfl,⟨nd,rfl⟩⟩;refine ⟨_,rfl,?_⟩)|((with_reducible refine gate_callee (f:=37) rfl ?_);refine goesL_ (some 23) rfl rfl Try.func37 (by kernel_rfl) rfl #[.int .i64 t296,.int .i64 t296,.int .i64 30] rfl (by (try simp only [List.map_toArray,List.map_cons,List.map_nil]);first|done|rfl|(simp only [List.length_drop,List.length_take];rfl)) ?_;(with_reducible refine (madrigalref1_Mul.calls k t296 t296 30 t297 _ A11.out).mono ?_);rintro e w' ⟨rfl,⟨nd,rfl⟩⟩;refine ⟨_,rfl,?_⟩)|((with_reducible refine gate_dst (N:=26) rfl ?_);refine Kd.R_lit (Kd.int .i64) _ 2 ?hg (N:=26) ?hd (xs:=([(-213044),8947849,(-178956971),1073741824] : List Int)) (inner:=[.int .i64 (-213044),.int .i64 8947849,.int .i64 (-178956971),.int .i64 1073741824]) (ok:=fun _ => True) (okp:=fun _ => True) ?hr ?hp (fun _ hk => hk) trivial (Below.refl _ _) (Nat.le_refl _) (by simp) ?_;(case hd => rfl);(case hg => rfl);(case hr => first|(go_simp;done)|(go_simp;rfl));(case hp => exact (Reps.one (show Kd.M (Kd.int .i64) _ _ _ (-213044) [.int .i64 (-213044)] from rfl) (Reps.one (show Kd.M (Kd.int .i64) _ _ _ 8947849 [.int .i64 8947849] from rfl) (Reps.one (show Kd.M (Kd.int .i64) _ _ _ (-178956971) [.int .i64 (-178956971)] from rfl) (Reps.one (show Kd.M (Kd.int .i64) _ _ _ 1073741824 [.int .i64 1073741824] from rfl) (Reps.none _ _))))));intro v299 w15 ho16 hb hg_ hnew_;clear hg_ hnew_;(first|rw [← Ny298.out] at ho16|(simp only [Int.reduceToNat] at ho16;rw [← Ny298.out] at ho16));have n0_:=ak_ (Kd.R_lower ho16 (below_size (by repeat (first|(with_reducible first|exact HB.out|apply ba_|apply bb_|apply bc_)|exact HB.out))));have n1_:=ak_ (below_step (by repeat (first|(with_reducible first|exact HB.out|apply ba_|apply bb_|apply bc_)|exact HB.out)) hb);clear HB;have HO300:=n0_;have HB:=n1_;clear n0_ n1_;clear hb ho16;obtain ⟨Ao17,co17,eo17⟩:=Kd.R_slice HO300.out;subst eo17)|((with_reducible refine gate_callee (f:=45) rfl ?_);refine goesL_ (some 27) rfl rfl Try.func45 (by kernel_rfl) rfl #[.int .i64 t297,.int .i64 2959,.slice Ao17 y298.length co17] rfl (by (try simp only [List.map_toArray,List.map_cons,List.map_nil]);first|done|rfl|(simp only [List.length_drop,List.length_take];rfl)) ?_;(with_reducible refine (madrigalref1_series.calls k t297 2959 _ _ y298 t301 _ ?side1 ?side2 A12.out).mono ?_);(case side1 => repeat (first|exact (Kd.R_reads' HO300.out).2.2|(with_reducible refine Kd.C_alloc ?_ _)|(with_reducible refine Kd.C_drewN ?_ _)|(with_reducible refine Kd.C_drew ?_)));(case side2 => exact (Kd.R_reads' HO300.out).2.1);rintro e w' ⟨rfl,⟨nd,rfl⟩⟩;refine ⟨_,rfl,?_⟩)|((with_reducible refine gate_callee (f:=37) rfl ?_);refine goesL_ (some 28) rfl rfl Try.func37 (by kernel_rfl) rfl #[.int .i64 t296,.int .i64 t301,.int .i64 30] rfl (by (try simp only [List.map_toArray,List.map_cons,List.map_nil]);first|done|rfl|(simp only [List.length_drop,List.length_take];rfl)) ?_;(with_reducible refine (madrigalref1_Mul.calls k t296 t301 30 t302 _ A13.out).mono ?_);rintro e w' ⟨rfl,⟨nd,rfl⟩⟩;refine ⟨_,rfl,?_⟩)|((with_reducible refine gate_callee (f:=37) rfl ?_);refine goesL_ (some 29) rfl rfl Try.func37 (by kernel_rfl) rfl #[.int .i64 t302,.int .i64 1,.int .i64 15] rfl (by (try simp only [List.map_toArray,List.map_cons,List.map_nil]);first|done|rfl|(simp only [List.length_drop,List.length_take];rfl)) ?_;(with_reducible refine (madrigalref1_Mul.calls k t302 1 15 t303 _ A14.out).mono ?_);rintro e w' ⟨rfl,⟨nd,rfl⟩⟩;refine ⟨_,rfl,?_⟩))
  go_ret
  exact ⟨by first|rfl|(simp [errW_none,errW_some] <;> rfl)|(simp [*,errW_none,errW_some] <;> rfl),by repeat (first|(with_reducible first|exact HB.out|apply ba_|apply bb_|apply bc_)|exact HB.out)⟩

end Go.Proofs.Ytcicenmmpbgmoaa.P
