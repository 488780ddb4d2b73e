/- The machine side of the laws of one chapter, without conditions: each call of a Go function comes to what the Lean function of its name answers. Written for this claim by a program of the prover. -/
import Derived.Test.YtlmacbiahofmcaaPx0
import Derived.Test.YtlmacbiahofmcaaPx3
import Derived.Test.YtlmacbiahofmcaaPx4
namespace Go.Proofs.Ytlmacbiahofmcaa.P
open Go.RowKit Go.Proofs.YtlmacbiahofmcaaW.PrintWords Go.Proofs.YtlmacbiahofmcaaW.PrintLast Go.Proofs.YtlmacbiahofmcaaW.PrintMore
attribute [local go_sem] max2_int min2_int max_two min_two max_three min_three max_four min_four   -- for this text's walks alone
set_option linter.unusedVariables false
set_option linter.unusedSimpArgs false

/-! ### fix_Cos: function 41 -/
mutual
def fix_Cos.j0 : Nat → Int → Option (Int)
 | 0,_ => none
 | k + 1,x0 => if x0 > 16384 then (fix_Cos.j1 k (wrap64 (32768 - x0)) (decide (x0 > 16384))) else (fix_Cos.j1 k x0 (decide (x0 > 16384)))
def fix_Cos.j1 : Nat → Int → Bool → Option (Int)
 | 0,_,_ => none
 | k + 1,x0,x3 => if x0 ≤ 8192 then ((fix_Mul.f k x0 1686629713 14).bind fun t111 => ((fix_Mul.f k t111 t111 30).bind fun t112 => ((fix_series.f k t112 (([(-296),26631,(-1491308),44739243,(-536870912),1073741824] : List Int))).bind fun t116 => ((fix_Mul.f k t116 1 15).bind fun t117 => (if x3 = true then (some (wrap64 (-t117))) else (some t117)))))) else ((fix_Mul.f k (wrap64 (16384 - x0)) 1686629713 14).bind fun t118 => ((fix_Mul.f k t118 t118 30).bind fun t119 => ((fix_series.f k t119 (([2959,(-213044),8947849,(-178956971),1073741824] : List Int))).bind fun t123 => ((fix_Mul.f k t118 t123 30).bind fun t124 => ((fix_Mul.f k t124 1 15).bind fun t125 => (if x3 = true then (some (wrap64 (-t125))) else (some t125)))))))
end
def fix_Cos.f (k : Nat) (a0 : Int) : Option (Int):=if (Go.bits .and .i64 a0 65535) > 32768 then (fix_Cos.j0 k (wrap64 (65536 - (Go.bits .and .i64 a0 65535)))) else (fix_Cos.j0 k (Go.bits .and .i64 a0 65535))
theorem fix_Cos.mono_l : ∀ k,(∀ y0,LeO (fix_Cos.j0 k y0) (fix_Cos.j0 (k + 1) y0)) ∧ (∀ y0 y1,LeO (fix_Cos.j1 k y0 y1) (fix_Cos.j1 (k + 1) y0 y1))
 | 0 => ⟨fun _ r h => by simp [fix_Cos.j0] at h,fun _ _ r h => by simp [fix_Cos.j1] at h⟩
 | k + 1 => by
  obtain ⟨ih0,ih1⟩:=fix_Cos.mono_l k
  refine ⟨?_,?_⟩
  all_goals (intros;first|unfold fix_Cos.j0|unfold fix_Cos.j1)
  all_goals (repeat' first|(with_reducible first|exact ih0 _|exact ih1 _ _|exact fix_Mul.mono _ _ _ _|exact fix_series.mono _ _ _|exact LeO.refl _|exact LeO.none _|refine LeO.ite ?_ ?_|refine LeO.bind ?_ (fun _ => ?_))|exact ih0 _|exact ih1 _ _|exact fix_Mul.mono _ _ _ _|exact fix_series.mono _ _ _|exact LeO.none _|refine LeO.ite ?_ ?_|refine LeO.bind ?_ (fun _ => ?_))
theorem fix_Cos.mono : ∀ a0 k,LeO (fix_Cos.f k a0) (fix_Cos.f (k + 1) a0):=by
 intro a0 k
 obtain ⟨ih0,ih1⟩:=fix_Cos.mono_l k
 unfold fix_Cos.f
 repeat' first|(with_reducible first|exact ih0 _|exact ih1 _ _|exact fix_Mul.mono _ _ _ _|exact fix_series.mono _ _ _|exact LeO.refl _|exact LeO.none _|refine LeO.ite ?_ ?_|refine LeO.bind ?_ (fun _ => ?_))|exact ih0 _|exact ih1 _ _|exact fix_Mul.mono _ _ _ _|exact fix_series.mono _ _ _|exact LeO.none _|refine LeO.ite ?_ ?_|refine LeO.bind ?_ (fun _ => ?_)
set_option maxHeartbeats 8000000 in
set_option maxRecDepth 100000 in
theorem fix_Cos.calls (k : Nat) (a0 : Int) (r : Int) (w : World) (h : fix_Cos.f k a0 = some r) :
  Calls Try.prog 41 #[.int .i64 a0] w fun e w' => e = .returned (.int .i64 r) ∧ Below w.heap.size w w':=by
 have HB:=ak_ (Below.refl w.heap.size w)
 have H : (if (Go.bits .and .i64 a0 65535) > 32768 then (fix_Cos.j0 k (wrap64 (65536 - (Go.bits .and .i64 a0 65535)))) else (fix_Cos.j0 k (Go.bits .and .i64 a0 65535))) = some r:=h
 clear h
 have HC2:=ak_ H
 clear H
 go_enter Try.func41,Try.ntmps41
 go_upto_if 10 with (fail)
 go_cut [0] (fun v0 wc => ∃ (kq : Nat) (x0_1 : Int),v0 = .int .i64 x0_1 ∧ Aside0 (fix_Cos.j0 kq x0_1 = some r) ∧ Aside0 (kq ≤ k) ∧ Aside0 (Below w.heap.size w wc))
 case first =>
  have H:=HC2.out
  clear HC2
  by_cases c3 : (Go.bits .and .i64 a0 65535) > 32768
  ·rw [if_pos c3] at H
   have c3b0 : decide (32768 < (Go.bits .and .i64 a0 65535)) = true:=decide_eq_true c3
   clear c3
   (first|rw [c3b0]|(simp only [i64_w,i32_w];rw [c3b0])|skip)
   have H':=ak_ H
   clear H
   go_wp2
   refine Met.intro ?_
   go_step
   (repeat apply Exists.intro)
   first|refine ⟨?rel45,rfl⟩|(refine ⟨?rel45,?st45⟩;case' st45 => (first|rw [c3b0]|simp only [c3b0]))
   case rel45 => exact ⟨_,(wrap64 (65536 - (Go.bits .and .i64 a0 65535))),(by first|rfl|(simp;done)|(simp [*];done)),H',⟨by first|omega|exact Nat.le_refl _⟩,⟨by repeat (first|(with_reducible first|exact HB.out|apply ba_|apply bb_|apply bc_)|exact HB.out)⟩⟩
  ·rw [if_neg c3] at H
   have c3b0 : decide (32768 < (Go.bits .and .i64 a0 65535)) = false:=decide_eq_false c3
   clear c3
   (first|rw [c3b0]|(simp only [i64_w,i32_w];rw [c3b0])|skip)
   have H':=ak_ H
   clear H
   go_wp2
   refine Met.intro ?_
   go_step
   (repeat apply Exists.intro)
   first|refine ⟨?rel54,rfl⟩|(refine ⟨?rel54,?st54⟩;case' st54 => (first|rw [c3b0]|simp only [c3b0]))
   case rel54 => exact ⟨_,(Go.bits .and .i64 a0 65535),(by first|rfl|(simp;done)|(simp [*];done)),H',⟨by first|omega|exact Nat.le_refl _⟩,⟨by repeat (first|(with_reducible first|exact HB.out|apply ba_|apply bb_|apply bc_)|exact HB.out)⟩⟩
 case rest =>
  clear HC2
  try clear p2
  try clear c3
  try clear c3b0
  obtain ⟨kq,x0_1,rfl,HA,HJ1,HB⟩:=hcut
  (try simp only [i64_w,i32_w])
  cases kq with
  | zero => exact absurd HA.out (by simp [fix_Cos.j0])
  | succ kj1 =>
   have H:=HA.out
   clear HA
   simp only [fix_Cos.j0] at H
   have HC4:=ak_ H
   clear H
   go_upto_if 15 with (fail)
   go_cut [0] (fun v0 wc => ∃ (kq : Nat) (x0_3 : Int),v0 = .int .i64 x0_3 ∧ Aside0 (fix_Cos.j1 kq x0_3 (decide (x0_1 > 16384)) = some r) ∧ Aside0 (kq ≤ kj1) ∧ Aside0 (Below w.heap.size w wc))
   case first =>
    have H:=HC4.out
    clear HC4
    by_cases c5 : x0_1 > 16384
    ·rw [if_pos c5] at H
     have c5b0 : decide (16384 < x0_1) = true:=decide_eq_true c5
     clear c5
     (first|rw [c5b0]|(simp only [i64_w,i32_w];rw [c5b0])|skip)
     have H':=ak_ H
     clear H
     go_wp2
     refine Met.intro ?_
     go_step
     (repeat apply Exists.intro)
     first|refine ⟨?rel84,rfl⟩|(refine ⟨?rel84,?st84⟩;case' st84 => (first|rw [c5b0]|simp only [c5b0]))
     case rel84 => exact ⟨_,(wrap64 (32768 - x0_1)),(by first|rfl|(simp;done)|(simp [*];done)),H',⟨by have:=HJ1.out;first|omega|exact Nat.le_refl _⟩,⟨by repeat (first|(with_reducible first|exact HB.out|apply ba_|apply bb_|apply bc_)|exact HB.out)⟩⟩
    ·rw [if_neg c5] at H
     have c5b0 : decide (16384 < x0_1) = false:=decide_eq_false c5
     clear c5
     (first|rw [c5b0]|(simp only [i64_w,i32_w];rw [c5b0])|skip)
     have H':=ak_ H
     clear H
     go_wp2
     refine Met.intro ?_
     go_step
     (repeat apply Exists.intro)
     first|refine ⟨?rel93,rfl⟩|(refine ⟨?rel93,?st93⟩;case' st93 => (first|rw [c5b0]|simp only [c5b0]))
     case rel93 => exact ⟨_,(x0_1),(by first|rfl|(simp;done)|(simp [*];done)),H',⟨by have:=HJ1.out;first|omega|exact Nat.le_refl _⟩,⟨by repeat (first|(with_reducible first|exact HB.out|apply ba_|apply bb_|apply bc_)|exact HB.out)⟩⟩
   case rest =>
    clear HC4
    try clear p2
    try clear c3
    try clear c3b0
    try clear c4
    try clear c5
    try clear c5b0
    try clear p2
    obtain ⟨kq,x0_3,rfl,HA,HJ3,HB⟩:=hcut
    (try simp only [i64_w,i32_w])
    cases kq with
    | zero => exact absurd HA.out (by simp [fix_Cos.j1])
    | succ kj3 =>
     have H:=HA.out
     clear HA
     simp only [fix_Cos.j1] at H
     by_cases c6 : x0_3 ≤ 8192
     ·rw [if_pos c6] at H
      have c6b0:=decide_eq_true c6
      clear c6
      replace H:=Option.bind_eq_some_iff.mp H
      obtain ⟨t111,A70,H⟩:=H
      (try dsimp only at H)
      have A7:=ak_ A70
      clear A70
      replace H:=Option.bind_eq_some_iff.mp H
      obtain ⟨t112,A80,H⟩:=H
      (try dsimp only at H)
      have A8:=ak_ A80
      clear A80
      obtain ⟨y113,hy113⟩ : ∃ y_ : List Int,y_ = (([(-296),26631,(-1491308),44739243,(-536870912),1073741824] : List Int)):=⟨_,rfl⟩
      replace H : ((fix_series.f kj3 t112 y113).bind fun t116 => ((fix_Mul.f kj3 t116 1 15).bind fun t117 => (if (decide (x0_1 > 16384)) = true then (some (wrap64 (-t117))) else (some t117)))) = some r:=by first|(rw [hy113];with_reducible exact H)|(have H2_:=(Option.bind_some _ _).symm.trans H;rw [hy113];with_reducible exact H2_)|(have H2_:=(Option.bind_some _ _).symm.trans H;with_reducible exact H2_)|with_reducible exact H|(rw [hy113];exact H)|exact H
      have Ny113:=ak_ hy113
      clear hy113
      replace H:=Option.bind_eq_some_iff.mp H
      obtain ⟨t116,A90,H⟩:=H
      (try dsimp only at H)
      have A9:=ak_ A90
      clear A90
      replace H:=Option.bind_eq_some_iff.mp H
      obtain ⟨t117,A100,H⟩:=H
      (try dsimp only at H)
      have A10:=ak_ A100
      clear A100
      by_cases c11 : (decide (x0_1 > 16384)) = true
      ·rw [if_pos c11] at H
       have c11b0 : (decide (x0_1 > 16384)) = true:=c11
       clear c11
       obtain rfl:=Option.some.inj H
       go_wp2_with (first|((with_reducible refine gate_callee (f:=27) rfl ?_);refine goesL_ (some 21) rfl rfl Try.func27 (by kernel_rfl) rfl #[.int .i64 x0_3,.int .i64 1686629713,.int .i64 14] rfl (by (try simp only [List.map_toArray,List.map_cons,List.map_nil]);first|done|rfl|(simp only [List.length_drop,List.length_take];rfl)) ?_;(with_reducible refine (fix_Mul.calls kj3 x0_3 1686629713 14 t111 _ A7.out).mono ?_);rintro e w' ⟨rfl,⟨nd,rfl⟩⟩;refine ⟨_,rfl,?_⟩)|((with_reducible refine gate_callee (f:=27) rfl ?_);refine goesL_ (some 24) rfl rfl Try.func27 (by kernel_rfl) rfl #[.int .i64 t111,.int .i64 t111,.int .i64 30] rfl (by (try simp only [List.map_toArray,List.map_cons,List.map_nil]);first|done|rfl|(simp only [List.length_drop,List.length_take];rfl)) ?_;(with_reducible refine (fix_Mul.calls kj3 t111 t111 30 t112 _ A8.out).mono ?_);rintro e w' ⟨rfl,⟨nd,rfl⟩⟩;refine ⟨_,rfl,?_⟩)|((with_reducible refine gate_dst (N:=25) rfl ?_);refine Kd.R_lit (Kd.int .i64) _ 2 ?hg (N:=25) ?hd (xs:=([(-296),26631,(-1491308),44739243,(-536870912),1073741824] : List Int)) (inner:=[.int .i64 (-296),.int .i64 26631,.int .i64 (-1491308),.int .i64 44739243,.int .i64 (-536870912),.int .i64 1073741824]) (ok:=fun _ => True) (okp:=fun _ => True) ?hr ?hp (fun _ hk => hk) trivial (Below.refl _ _) (Nat.le_refl _) (by simp) ?_;(case hd => rfl);(case hg => rfl);(case hr => first|(go_simp;done)|(go_simp;rfl));(case hp => exact (Reps.one (show Kd.M (Kd.int .i64) _ _ _ (-296) [.int .i64 (-296)] from rfl) (Reps.one (show Kd.M (Kd.int .i64) _ _ _ 26631 [.int .i64 26631] from rfl) (Reps.one (show Kd.M (Kd.int .i64) _ _ _ (-1491308) [.int .i64 (-1491308)] from rfl) (Reps.one (show Kd.M (Kd.int .i64) _ _ _ 44739243 [.int .i64 44739243] from rfl) (Reps.one (show Kd.M (Kd.int .i64) _ _ _ (-536870912) [.int .i64 (-536870912)] from rfl) (Reps.one (show Kd.M (Kd.int .i64) _ _ _ 1073741824 [.int .i64 1073741824] from rfl) (Reps.none _ _))))))));intro v114 w12 ho13 hb hg_ hnew_;clear hg_ hnew_;(first|rw [← Ny113.out] at ho13|(simp only [Int.reduceToNat] at ho13;rw [← Ny113.out] at ho13));have n0_:=ak_ (Kd.R_lower ho13 (below_size (by repeat (first|(with_reducible first|exact HB.out|apply ba_|apply bb_|apply bc_)|exact HB.out))));have n1_:=ak_ (below_step (by repeat (first|(with_reducible first|exact HB.out|apply ba_|apply bb_|apply bc_)|exact HB.out)) hb);clear HB;have HO115:=n0_;have HB:=n1_;clear n0_ n1_;clear hb ho13;obtain ⟨Ao14,co14,eo14⟩:=Kd.R_slice HO115.out;subst eo14)|((with_reducible refine gate_callee (f:=44) rfl ?_);refine goesL_ (some 26) rfl rfl Try.func44 (by kernel_rfl) rfl #[.int .i64 t112,.slice Ao14 y113.length co14] rfl (by (try simp only [List.map_toArray,List.map_cons,List.map_nil]);first|done|rfl|(simp only [List.length_drop,List.length_take];rfl)) ?_;(with_reducible refine (fix_series.calls kj3 t112 _ _ y113 t116 _ ?side1 ?side2 A9.out).mono ?_);(case side1 => repeat (first|exact (Kd.R_reads' HO115.out).2.2|(with_reducible refine Kd.C_alloc ?_ _)|(with_reducible refine Kd.C_drewN ?_ _)|(with_reducible refine Kd.C_drew ?_)));(case side2 => exact (Kd.R_reads' HO115.out).2.1);rintro e w' ⟨rfl,⟨nd,rfl⟩⟩;refine ⟨_,rfl,?_⟩)|((with_reducible refine gate_callee (f:=27) rfl ?_);refine goesL_ (some 38) rfl rfl Try.func27 (by kernel_rfl) rfl #[.int .i64 t116,.int .i64 1,.int .i64 15] rfl (by (try simp only [List.map_toArray,List.map_cons,List.map_nil]);first|done|rfl|(simp only [List.length_drop,List.length_take];rfl)) ?_;(with_reducible refine (fix_Mul.calls kj3 t116 1 15 t117 _ A10.out).mono ?_);rintro e w' ⟨rfl,⟨nd,rfl⟩⟩;refine ⟨_,rfl,?_⟩))
       go_ret
       exact ⟨by first|rfl|(simp [errW_none,errW_some] <;> rfl)|(simp [*,errW_none,errW_some] <;> rfl),by repeat (first|(with_reducible first|exact HB.out|apply ba_|apply bb_|apply bc_)|exact HB.out)⟩
      ·rw [if_neg c11] at H
       have c11b0 : (decide (x0_1 > 16384)) = false:=by simpa using c11
       clear c11
       obtain rfl:=Option.some.inj H
       go_wp2_with (first|((with_reducible refine gate_callee (f:=27) rfl ?_);refine goesL_ (some 21) rfl rfl Try.func27 (by kernel_rfl) rfl #[.int .i64 x0_3,.int .i64 1686629713,.int .i64 14] rfl (by (try simp only [List.map_toArray,List.map_cons,List.map_nil]);first|done|rfl|(simp only [List.length_drop,List.length_take];rfl)) ?_;(with_reducible refine (fix_Mul.calls kj3 x0_3 1686629713 14 t111 _ A7.out).mono ?_);rintro e w' ⟨rfl,⟨nd,rfl⟩⟩;refine ⟨_,rfl,?_⟩)|((with_reducible refine gate_callee (f:=27) rfl ?_);refine goesL_ (some 24) rfl rfl Try.func27 (by kernel_rfl) rfl #[.int .i64 t111,.int .i64 t111,.int .i64 30] rfl (by (try simp only [List.map_toArray,List.map_cons,List.map_nil]);first|done|rfl|(simp only [List.length_drop,List.length_take];rfl)) ?_;(with_reducible refine (fix_Mul.calls kj3 t111 t111 30 t112 _ A8.out).mono ?_);rintro e w' ⟨rfl,⟨nd,rfl⟩⟩;refine ⟨_,rfl,?_⟩)|((with_reducible refine gate_dst (N:=25) rfl ?_);refine Kd.R_lit (Kd.int .i64) _ 2 ?hg (N:=25) ?hd (xs:=([(-296),26631,(-1491308),44739243,(-536870912),1073741824] : List Int)) (inner:=[.int .i64 (-296),.int .i64 26631,.int .i64 (-1491308),.int .i64 44739243,.int .i64 (-536870912),.int .i64 1073741824]) (ok:=fun _ => True) (okp:=fun _ => True) ?hr ?hp (fun _ hk => hk) trivial (Below.refl _ _) (Nat.le_refl _) (by simp) ?_;(case hd => rfl);(case hg => rfl);(case hr => first|(go_simp;done)|(go_simp;rfl));(case hp => exact (Reps.one (show Kd.M (Kd.int .i64) _ _ _ (-296) [.int .i64 (-296)] from rfl) (Reps.one (show Kd.M (Kd.int .i64) _ _ _ 26631 [.int .i64 26631] from rfl) (Reps.one (show Kd.M (Kd.int .i64) _ _ _ (-1491308) [.int .i64 (-1491308)] from rfl) (Reps.one (show Kd.M (Kd.int .i64) _ _ _ 44739243 [.int .i64 44739243] from rfl) (Reps.one (show Kd.M (Kd.int .i64) _ _ _ (-536870912) [.int .i64 (-536870912)] from rfl) (Reps.one (show Kd.M (Kd.int .i64) _ _ _ 1073741824 [.int .i64 1073741824] from rfl) (Reps.none _ _))))))));intro v114 w15 ho16 hb hg_ hnew_;clear hg_ hnew_;(first|rw [← Ny113.out] at ho16|(simp only [Int.reduceToNat] at ho16;rw [← Ny113.out] at ho16));have n0_:=ak_ (Kd.R_lower ho16 (below_size (by repeat (first|(with_reducible first|exact HB.out|apply ba_|apply bb_|apply bc_)|exact HB.out))));have n1_:=ak_ (below_step (by repeat (first|(with_reducible first|exact HB.out|apply ba_|apply bb_|apply bc_)|exact HB.out)) hb);clear HB;have HO115:=n0_;have HB:=n1_;clear n0_ n1_;clear hb ho16;obtain ⟨Ao17,co17,eo17⟩:=Kd.R_slice HO115.out;subst eo17)|((with_reducible refine gate_callee (f:=44) rfl ?_);refine goesL_ (some 26) rfl rfl Try.func44 (by kernel_rfl) rfl #[.int .i64 t112,.slice Ao17 y113.length co17] rfl (by (try simp only [List.map_toArray,List.map_cons,List.map_nil]);first|done|rfl|(simp only [List.length_drop,List.length_take];rfl)) ?_;(with_reducible refine (fix_series.calls kj3 t112 _ _ y113 t116 _ ?side1 ?side2 A9.out).mono ?_);(case side1 => repeat (first|exact (Kd.R_reads' HO115.out).2.2|(with_reducible refine Kd.C_alloc ?_ _)|(with_reducible refine Kd.C_drewN ?_ _)|(with_reducible refine Kd.C_drew ?_)));(case side2 => exact (Kd.R_reads' HO115.out).2.1);rintro e w' ⟨rfl,⟨nd,rfl⟩⟩;refine ⟨_,rfl,?_⟩)|((with_reducible refine gate_callee (f:=27) rfl ?_);refine goesL_ (some 38) rfl rfl Try.func27 (by kernel_rfl) rfl #[.int .i64 t116,.int .i64 1,.int .i64 15] rfl (by (try simp only [List.map_toArray,List.map_cons,List.map_nil]);first|done|rfl|(simp only [List.length_drop,List.length_take];rfl)) ?_;(with_reducible refine (fix_Mul.calls kj3 t116 1 15 t117 _ A10.out).mono ?_);rintro e w' ⟨rfl,⟨nd,rfl⟩⟩;refine ⟨_,rfl,?_⟩))
       go_ret
       exact ⟨by first|rfl|(simp [errW_none,errW_some] <;> rfl)|(simp [*,errW_none,errW_some] <;> rfl),by repeat (first|(with_reducible first|exact HB.out|apply ba_|apply bb_|apply bc_)|exact HB.out)⟩
     ·rw [if_neg c6] at H
      have c6b0:=decide_eq_false c6
      clear c6
      replace H:=Option.bind_eq_some_iff.mp H
      obtain ⟨t118,A180,H⟩:=H
      (try dsimp only at H)
      have A18:=ak_ A180
      clear A180
      replace H:=Option.bind_eq_some_iff.mp H
      obtain ⟨t119,A190,H⟩:=H
      (try dsimp only at H)
      have A19:=ak_ A190
      clear A190
      obtain ⟨y120,hy120⟩ : ∃ y_ : List Int,y_ = (([2959,(-213044),8947849,(-178956971),1073741824] : List Int)):=⟨_,rfl⟩
      replace H : ((fix_series.f kj3 t119 y120).bind fun t123 => ((fix_Mul.f kj3 t118 t123 30).bind fun t124 => ((fix_Mul.f kj3 t124 1 15).bind fun t125 => (if (decide (x0_1 > 16384)) = true then (some (wrap64 (-t125))) else (some t125))))) = some r:=by first|(rw [hy120];with_reducible exact H)|(have H2_:=(Option.bind_some _ _).symm.trans H;rw [hy120];with_reducible exact H2_)|(have H2_:=(Option.bind_some _ _).symm.trans H;with_reducible exact H2_)|with_reducible exact H|(rw [hy120];exact H)|exact H
      have Ny120:=ak_ hy120
      clear hy120
      replace H:=Option.bind_eq_some_iff.mp H
      obtain ⟨t123,A200,H⟩:=H
      (try dsimp only at H)
      have A20:=ak_ A200
      clear A200
      replace H:=Option.bind_eq_some_iff.mp H
      obtain ⟨t124,A210,H⟩:=H
      (try dsimp only at H)
      have A21:=ak_ A210
      clear A210
      replace H:=Option.bind_eq_some_iff.mp H
      obtain ⟨t125,A220,H⟩:=H
      (try dsimp only at H)
      have A22:=ak_ A220
      clear A220
      by_cases c23 : (decide (x0_1 > 16384)) = true
      ·rw [if_pos c23] at H
       have c23b0 : (decide (x0_1 > 16384)) = true:=c23
       clear c23
       obtain rfl:=Option.some.inj H
       go_wp2_with (first|((with_reducible refine gate_callee (f:=27) rfl ?_);refine goesL_ (some 29) rfl rfl Try.func27 (by kernel_rfl) rfl #[.int .i64 (wrap64 (16384 - x0_3)),.int .i64 1686629713,.int .i64 14] rfl (by (try simp only [List.map_toArray,List.map_cons,List.map_nil]);first|done|rfl|(simp only [List.length_drop,List.length_take];rfl)) ?_;(with_reducible refine (fix_Mul.calls kj3 (wrap64 (16384 - x0_3)) 1686629713 14 t118 _ A18.out).mono ?_);rintro e w' ⟨rfl,⟨nd,rfl⟩⟩;refine ⟨_,rfl,?_⟩)|((with_reducible refine gate_callee (f:=27) rfl ?_);refine goesL_ (some 33) rfl rfl Try.func27 (by kernel_rfl) rfl #[.int .i64 t118,.int .i64 t118,.int .i64 30] rfl (by (try simp only [List.map_toArray,List.map_cons,List.map_nil]);first|done|rfl|(simp only [List.length_drop,List.length_take];rfl)) ?_;(with_reducible refine (fix_Mul.calls kj3 t118 t118 30 t119 _ A19.out).mono ?_);rintro e w' ⟨rfl,⟨nd,rfl⟩⟩;refine ⟨_,rfl,?_⟩)|((with_reducible refine gate_dst (N:=34) rfl ?_);refine Kd.R_lit (Kd.int .i64) _ 2 ?hg (N:=34) ?hd (xs:=([2959,(-213044),8947849,(-178956971),1073741824] : List Int)) (inner:=[.int .i64 2959,.int .i64 (-213044),.int .i64 8947849,.int .i64 (-178956971),.int .i64 1073741824]) (ok:=fun _ => True) (okp:=fun _ => True) ?hr ?hp (fun _ hk => hk) trivial (Below.refl _ _) (Nat.le_refl _) (by simp) ?_;(case hd => rfl);(case hg => rfl);(case hr => first|(go_simp;done)|(go_simp;rfl));(case hp => exact (Reps.one (show Kd.M (Kd.int .i64) _ _ _ 2959 [.int .i64 2959] from rfl) (Reps.one (show Kd.M (Kd.int .i64) _ _ _ (-213044) [.int .i64 (-213044)] from rfl) (Reps.one (show Kd.M (Kd.int .i64) _ _ _ 8947849 [.int .i64 8947849] from rfl) (Reps.one (show Kd.M (Kd.int .i64) _ _ _ (-178956971) [.int .i64 (-178956971)] from rfl) (Reps.one (show Kd.M (Kd.int .i64) _ _ _ 1073741824 [.int .i64 1073741824] from rfl) (Reps.none _ _)))))));intro v121 w24 ho25 hb hg_ hnew_;clear hg_ hnew_;(first|rw [← Ny120.out] at ho25|(simp only [Int.reduceToNat] at ho25;rw [← Ny120.out] at ho25));have n0_:=ak_ (Kd.R_lower ho25 (below_size (by repeat (first|(with_reducible first|exact HB.out|apply ba_|apply bb_|apply bc_)|exact HB.out))));have n1_:=ak_ (below_step (by repeat (first|(with_reducible first|exact HB.out|apply ba_|apply bb_|apply bc_)|exact HB.out)) hb);clear HB;have HO122:=n0_;have HB:=n1_;clear n0_ n1_;clear hb ho25;obtain ⟨Ao26,co26,eo26⟩:=Kd.R_slice HO122.out;subst eo26)|((with_reducible refine gate_callee (f:=44) rfl ?_);refine goesL_ (some 35) rfl rfl Try.func44 (by kernel_rfl) rfl #[.int .i64 t119,.slice Ao26 y120.length co26] rfl (by (try simp only [List.map_toArray,List.map_cons,List.map_nil]);first|done|rfl|(simp only [List.length_drop,List.length_take];rfl)) ?_;(with_reducible refine (fix_series.calls kj3 t119 _ _ y120 t123 _ ?side1 ?side2 A20.out).mono ?_);(case side1 => repeat (first|exact (Kd.R_reads' HO122.out).2.2|(with_reducible refine Kd.C_alloc ?_ _)|(with_reducible refine Kd.C_drewN ?_ _)|(with_reducible refine Kd.C_drew ?_)));(case side2 => exact (Kd.R_reads' HO122.out).2.1);rintro e w' ⟨rfl,⟨nd,rfl⟩⟩;refine ⟨_,rfl,?_⟩)|((with_reducible refine gate_callee (f:=27) rfl ?_);refine goesL_ (some 36) rfl rfl Try.func27 (by kernel_rfl) rfl #[.int .i64 t118,.int .i64 t123,.int .i64 30] rfl (by (try simp only [List.map_toArray,List.map_cons,List.map_nil]);first|done|rfl|(simp only [List.length_drop,List.length_take];rfl)) ?_;(with_reducible refine (fix_Mul.calls kj3 t118 t123 30 t124 _ A21.out).mono ?_);rintro e w' ⟨rfl,⟨nd,rfl⟩⟩;refine ⟨_,rfl,?_⟩)|((with_reducible refine gate_callee (f:=27) rfl ?_);refine goesL_ (some 38) rfl rfl Try.func27 (by kernel_rfl) rfl #[.int .i64 t124,.int .i64 1,.int .i64 15] rfl (by (try simp only [List.map_toArray,List.map_cons,List.map_nil]);first|done|rfl|(simp only [List.length_drop,List.length_take];rfl)) ?_;(with_reducible refine (fix_Mul.calls kj3 t124 1 15 t125 _ A22.out).mono ?_);rintro e w' ⟨rfl,⟨nd,rfl⟩⟩;refine ⟨_,rfl,?_⟩))
       go_ret
       exact ⟨by first|rfl|(simp [errW_none,errW_some] <;> rfl)|(simp [*,errW_none,errW_some] <;> rfl),by repeat (first|(with_reducible first|exact HB.out|apply ba_|apply bb_|apply bc_)|exact HB.out)⟩
      ·rw [if_neg c23] at H
       have c23b0 : (decide (x0_1 > 16384)) = false:=by simpa using c23
       clear c23
       obtain rfl:=Option.some.inj H
       go_wp2_with (first|((with_reducible refine gate_callee (f:=27) rfl ?_);refine goesL_ (some 29) rfl rfl Try.func27 (by kernel_rfl) rfl #[.int .i64 (wrap64 (16384 - x0_3)),.int .i64 1686629713,.int .i64 14] rfl (by (try simp only [List.map_toArray,List.map_cons,List.map_nil]);first|done|rfl|(simp only [List.length_drop,List.length_take];rfl)) ?_;(with_reducible refine (fix_Mul.calls kj3 (wrap64 (16384 - x0_3)) 1686629713 14 t118 _ A18.out).mono ?_);rintro e w' ⟨rfl,⟨nd,rfl⟩⟩;refine ⟨_,rfl,?_⟩)|((with_reducible refine gate_callee (f:=27) rfl ?_);refine goesL_ (some 33) rfl rfl Try.func27 (by kernel_rfl) rfl #[.int .i64 t118,.int .i64 t118,.int .i64 30] rfl (by (try simp only [List.map_toArray,List.map_cons,List.map_nil]);first|done|rfl|(simp only [List.length_drop,List.length_take];rfl)) ?_;(with_reducible refine (fix_Mul.calls kj3 t118 t118 30 t119 _ A19.out).mono ?_);rintro e w' ⟨rfl,⟨nd,rfl⟩⟩;refine ⟨_,rfl,?_⟩)|((with_reducible refine gate_dst (N:=34) rfl ?_);refine Kd.R_lit (Kd.int .i64) _ 2 ?hg (N:=34) ?hd (xs:=([2959,(-213044),8947849,(-178956971),1073741824] : List Int)) (inner:=[.int .i64 2959,.int .i64 (-213044),.int .i64 8947849,.int .i64 (-178956971),.int .i64 1073741824]) (ok:=fun _ => True) (okp:=fun _ => True) ?hr ?hp (fun _ hk => hk) trivial (Below.refl _ _) (Nat.le_refl _) (by simp) ?_;(case hd => rfl);(case hg => rfl);(case hr => first|(go_simp;done)|(go_simp;rfl));(case hp => exact (Reps.one (show Kd.M (Kd.int .i64) _ _ _ 2959 [.int .i64 2959] from rfl) (Reps.one (show Kd.M (Kd.int .i64) _ _ _ (-213044) [.int .i64 (-213044)] from rfl) (Reps.one (show Kd.M (Kd.int .i64) _ _ _ 8947849 [.int .i64 8947849] from rfl) (Reps.one (show Kd.M (Kd.int .i64) _ _ _ (-178956971) [.int .i64 (-178956971)] from rfl) (Reps.one (show Kd.M (Kd.int .i64) _ _ _ 1073741824 [.int .i64 1073741824] from rfl) (Reps.none _ _)))))));intro v121 w27 ho28 hb hg_ hnew_;clear hg_ hnew_;(first|rw [← Ny120.out] at ho28|(simp only [Int.reduceToNat] at ho28;rw [← Ny120.out] at ho28));have n0_:=ak_ (Kd.R_lower ho28 (below_size (by repeat (first|(with_reducible first|exact HB.out|apply ba_|apply bb_|apply bc_)|exact HB.out))));have n1_:=ak_ (below_step (by repeat (first|(with_reducible first|exact HB.out|apply ba_|apply bb_|apply bc_)|exact HB.out)) hb);clear HB;have HO122:=n0_;have HB:=n1_;clear n0_ n1_;clear hb ho28;obtain ⟨Ao29,co29,eo29⟩:=Kd.R_slice HO122.out;subst eo29)|((with_reducible refine gate_callee (f:=44) rfl ?_);refine goesL_ (some 35) rfl rfl Try.func44 (by kernel_rfl) rfl #[.int .i64 t119,.slice Ao29 y120.length co29] rfl (by (try simp only [List.map_toArray,List.map_cons,List.map_nil]);first|done|rfl|(simp only [List.length_drop,List.length_take];rfl)) ?_;(with_reducible refine (fix_series.calls kj3 t119 _ _ y120 t123 _ ?side1 ?side2 A20.out).mono ?_);(case side1 => repeat (first|exact (Kd.R_reads' HO122.out).2.2|(with_reducible refine Kd.C_alloc ?_ _)|(with_reducible refine Kd.C_drewN ?_ _)|(with_reducible refine Kd.C_drew ?_)));(case side2 => exact (Kd.R_reads' HO122.out).2.1);rintro e w' ⟨rfl,⟨nd,rfl⟩⟩;refine ⟨_,rfl,?_⟩)|((with_reducible refine gate_callee (f:=27) rfl ?_);refine goesL_ (some 36) rfl rfl Try.func27 (by kernel_rfl) rfl #[.int .i64 t118,.int .i64 t123,.int .i64 30] rfl (by (try simp only [List.map_toArray,List.map_cons,List.map_nil]);first|done|rfl|(simp only [List.length_drop,List.length_take];rfl)) ?_;(with_reducible refine (fix_Mul.calls kj3 t118 t123 30 t124 _ A21.out).mono ?_);rintro e w' ⟨rfl,⟨nd,rfl⟩⟩;refine ⟨_,rfl,?_⟩)|((with_reducible refine gate_callee (f:=27) rfl ?_);refine goesL_ (some 38) rfl rfl Try.func27 (by kernel_rfl) rfl #[.int .i64 t124,.int .i64 1,.int .i64 15] rfl (by (try simp only [List.map_toArray,List.map_cons,List.map_nil]);first|done|rfl|(simp only [List.length_drop,List.length_take];rfl)) ?_;(with_reducible refine (fix_Mul.calls kj3 t124 1 15 t125 _ A22.out).mono ?_);rintro e w' ⟨rfl,⟨nd,rfl⟩⟩;refine ⟨_,rfl,?_⟩))
       go_ret
       exact ⟨by first|rfl|(simp [errW_none,errW_some] <;> rfl)|(simp [*,errW_none,errW_some] <;> rfl),by repeat (first|(with_reducible first|exact HB.out|apply ba_|apply bb_|apply bc_)|exact HB.out)⟩

end Go.Proofs.Ytlmacbiahofmcaa.P
