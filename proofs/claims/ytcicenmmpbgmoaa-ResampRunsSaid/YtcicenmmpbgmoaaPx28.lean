/- The machine side of the laws of one chapter, without conditions: each call of a Go function comes to what the Lean function of its name answers. Written for this claim by a program of the prover. -/
import Derived.Test.YtcicenmmpbgmoaaPx0
import Derived.Test.YtcicenmmpbgmoaaPx19
namespace Go.Proofs.Ytcicenmmpbgmoaa.P
open Go.RowKit Go.Proofs.YtcicenmmpbgmoaaW.PrintWords Go.Proofs.YtcicenmmpbgmoaaW.PrintLast Go.Proofs.YtcicenmmpbgmoaaW.PrintMore
attribute [local go_sem] max2_int min2_int max_two min_two max_three min_three max_four min_four   -- for this text's walks alone
set_option linter.unusedVariables false
set_option linter.unusedSimpArgs false

/-! ### madrigalref1_Sat16: function 25 -/
def madrigalref1_Sat16.f (k : Nat) (a0 : Int) : Option (Int):=(madrigalref1_Clamp.f k a0 (-32768) 32767).bind fun t337 => (some t337)
theorem madrigalref1_Sat16.mono : ∀ a0 k,LeO (madrigalref1_Sat16.f k a0) (madrigalref1_Sat16.f (k + 1) a0):=by
 intro a0 k
 unfold madrigalref1_Sat16.f
 repeat' first|(with_reducible first|exact madrigalref1_Clamp.mono _ _ _ _|exact LeO.refl _|exact LeO.none _|refine LeO.ite ?_ ?_|refine LeO.bind ?_ (fun _ => ?_))|exact madrigalref1_Clamp.mono _ _ _ _|exact LeO.none _|refine LeO.ite ?_ ?_|refine LeO.bind ?_ (fun _ => ?_)
set_option maxHeartbeats 8000000 in
set_option maxRecDepth 100000 in
theorem madrigalref1_Sat16.calls (k : Nat) (a0 : Int) (r : Int) (w : World) (h : madrigalref1_Sat16.f k a0 = some r) :
  Calls Try.prog 25 #[.int .i64 a0] w fun e w' => e = .returned (.int .i64 r) ∧ Drawn0 w w':=by
 have H : ((madrigalref1_Clamp.f k a0 (-32768) 32767).bind fun t337 => (some t337)) = some r:=h
 clear h
 replace H:=Option.bind_eq_some_iff.mp H
 obtain ⟨t337,A20,H⟩:=H
 (try dsimp only at H)
 have A2:=ak_ A20
 clear A20
 obtain rfl:=Option.some.inj H
 go_enter Try.func25,Try.ntmps25
 go_wp2_with (first|((with_reducible refine gate_callee (f:=40) rfl ?_);refine goesL_ (some 4) rfl rfl Try.func40 (by kernel_rfl) rfl #[.int .i64 a0,.int .i64 (-32768),.int .i64 32767] rfl (by (try simp only [List.map_toArray,List.map_cons,List.map_nil]);first|done|rfl|(simp only [List.length_drop,List.length_take];rfl)) ?_;(with_reducible refine (madrigalref1_Clamp.calls k a0 (-32768) 32767 t337 _ A2.out).mono ?_);rintro e w' ⟨rfl,⟨nd,rfl⟩⟩;refine ⟨_,rfl,?_⟩))
 go_ret
 exact ⟨by first|rfl|(simp;done)|(simp [*];done),by repeat (first|exact Drawn0.refl _|apply Drawn0.step)⟩

/-! ### madrigalref10_last: function 39 -/
def madrigalref10_last.f (l0 : List Int) (a1 : Int) : Option (List Int):=if (l0.length : Int) > a1 then (if 0 ≤ (wrap64 ((l0.length : Int) - a1)) then (if (wrap64 ((l0.length : Int) - a1)) ≤ (l0.length : Int) then ((some (l0.drop ((wrap64 ((l0.length : Int) - a1)) : Int).toNat : List Int)).bind fun y338 => ((some (([] : List Int) : List Int)).bind fun y342 => (if y342.length + y338.length < 17592186044416 then (some (y342 ++ y338)) else (none)))) else (none)) else (none)) else ((some (([] : List Int) : List Int)).bind fun y348 => (if y348.length + l0.length < 17592186044416 then (some (y348 ++ l0)) else (none)))
set_option maxHeartbeats 8000000 in
set_option maxRecDepth 100000 in
theorem madrigalref10_last.calls (A0 : Option Addr) (c0 : Nat) (l0 : List Int) (a1 : Int) (r : List Int) (w : World) (hr0 : Kd.C (Kd.int .i64) w A0 l0.length l0) (hc0 : l0.length ≤ c0) (h : madrigalref10_last.f l0 a1 = some r) :
  Calls Try.prog 39 #[.slice A0 l0.length c0,.int .i64 a1] w fun e w' => ∃ v0_ : Value,e = .returned (v0_) ∧ Kd.R (Kd.int .i64) 2 w' w.heap.size (fun _ => True) v0_ r ∧ Below w.heap.size w w':=by
 have HR0:=ak_ hr0
 have HC0:=ak_ hc0
 clear hr0 hc0
 have HB:=ak_ (Below.refl w.heap.size w)
 have H : (if (l0.length : Int) > a1 then (if 0 ≤ (wrap64 ((l0.length : Int) - a1)) then (if (wrap64 ((l0.length : Int) - a1)) ≤ (l0.length : Int) then ((some (l0.drop ((wrap64 ((l0.length : Int) - a1)) : Int).toNat : List Int)).bind fun y338 => ((some (([] : List Int) : List Int)).bind fun y342 => (if y342.length + y338.length < 17592186044416 then (some (y342 ++ y338)) else (none)))) else (none)) else (none)) else ((some (([] : List Int) : List Int)).bind fun y348 => (if y348.length + l0.length < 17592186044416 then (some (y348 ++ l0)) else (none)))) = some r:=h
 clear h
 by_cases c3 : (l0.length : Int) > a1
 ·rw [if_pos c3] at H
  have c3b0 : decide (a1 < (l0.length : Int)) = true:=decide_eq_true c3
  clear c3
  obtain ⟨ji4,hji4⟩ : ∃ j_ : Int,(wrap64 ((l0.length : Int) - a1)) = j_:=⟨_,rfl⟩
  replace H : (if 0 ≤ (ji4) then (if (ji4) ≤ (l0.length : Int) then ((some (l0.drop ((ji4) : Int).toNat : List Int)).bind fun y338 => ((some (([] : List Int) : List Int)).bind fun y342 => (if y342.length + y338.length < 17592186044416 then (some (y342 ++ y338)) else (none)))) else (none)) else (none)) = some r:=by first|(rw [hji4] at H;exact H)|(simp only [hji4] at H ⊢;exact H)
  have hji4w : (IntKind.i64.wrap ((l0.length : Int) - a1)) = ji4:=(i64_w _).trans hji4
  by_cases c5 : 0 ≤ (ji4)
  ·rw [if_pos c5] at H
   have c5b0:=eq_true c5
   have c5b1 : decide (0 ≤ (ji4)) = true:=decide_eq_true c5
   clear c5
   by_cases c6 : (ji4) ≤ (l0.length : Int)
   ·rw [if_pos c6] at H
    have c6b0:=eq_true c6
    have c6b1 : decide ((ji4) ≤ (l0.length : Int)) = true:=decide_eq_true c6
    clear c6
    obtain ⟨y338,hy338⟩ : ∃ y_ : List Int,y_ = (l0.drop ((ji4) : Int).toNat):=⟨_,rfl⟩
    replace H : ((some (([] : List Int) : List Int)).bind fun y342 => (if y342.length + y338.length < 17592186044416 then (some (y342 ++ y338)) else (none))) = some r:=by first|(rw [hy338];with_reducible exact H)|(have H2_:=(Option.bind_some _ _).symm.trans H;rw [hy338];with_reducible exact H2_)|(have H2_:=(Option.bind_some _ _).symm.trans H;with_reducible exact H2_)|with_reducible exact H|(rw [hy338];exact H)|exact H
    have Ny338:=ak_ hy338
    clear hy338
    obtain ⟨y342,hy342⟩ : ∃ y_ : List Int,y_ = (([] : List Int)):=⟨_,rfl⟩
    replace H : (if y342.length + y338.length < 17592186044416 then (some (y342 ++ y338)) else (none)) = some r:=by first|(rw [hy342];with_reducible exact H)|(have H2_:=(Option.bind_some _ _).symm.trans H;rw [hy342];with_reducible exact H2_)|(have H2_:=(Option.bind_some _ _).symm.trans H;with_reducible exact H2_)|with_reducible exact H|(rw [hy342];exact H)|exact H
    have Ny342:=ak_ hy342
    clear hy342
    by_cases c7 : y342.length + y338.length < 17592186044416
    ·rw [if_pos c7] at H
     have LMc7:=ak_ c7
     clear c7
     obtain ⟨y345,hy345⟩ : ∃ y_ : List Int,y_ = (y342 ++ y338):=⟨_,rfl⟩
     replace H : (some y345) = some r:=by first|(rw [hy345];with_reducible exact H)|(have H2_:=(Option.bind_some _ _).symm.trans H;rw [hy345];with_reducible exact H2_)|(have H2_:=(Option.bind_some _ _).symm.trans H;with_reducible exact H2_)|with_reducible exact H|(rw [hy345];exact H)|exact H
     have Ny345:=ak_ hy345
     clear hy345
     obtain rfl:=Option.some.inj H
     have q8 : ((ji4) : Int) ≤ ((l0.length : Int) : Int):=of_decide_eq_true (by first|(with_reducible assumption)|assumption)
     obtain ⟨i08,hi08,_,hsz8,_⟩:=info_parts info2
     have hroom8 : l0.length ≤ c0:=HC0.out
     have hC8 : Kd.C (Kd.int .i64) _ A0 l0.length l0:=HR0.out
     have q08 : (0 : Int) ≤ ((ji4) : Int):=of_decide_eq_true (by first|(with_reducible assumption)|assumption)
     have hcut8:=cut_from (P:=Try.prog) 27 2 .i64 Try.underlying27 hi08 1 hsz8 A0 l0.length c0 (ji4) q08 q8
     have hr8:=Kd.C_drop (m:=((ji4) : Int).toNat) (c:=c0) hC8 (by omega) hroom8
     obtain ⟨A8,hA8⟩ : ∃ A_1,A_1 = (if c0 = ((ji4) : Int).toNat then A0 else (A0 : Option Addr).map (·.add (((ji4) : Int).toNat * 1))):=⟨_,rfl⟩
     obtain ⟨c8,hc8⟩ : ∃ c_1,c_1 = c0 - ((ji4) : Int).toNat:=⟨_,rfl⟩
     have hy8 : y338.length = l0.length - ((ji4) : Int).toNat:=(by rw [Ny338.out,List.length_drop] <;> omega)
     rw [show (l0).drop ((ji4) : Int).toNat = y338 from Ny338.out.symm] at hr8
     replace hr8 : Kd.C (Kd.int .i64) _ A8 y338.length y338:=(by rw [hA8];exact hr8)
     rw [← hy8,← hA8,← hc8] at hcut8
     have HR341:=ak_ hr8
     have HC341:=ak_ (show y338.length ≤ c8 from by rw [hy8,hc8];exact Nat.sub_le_sub_right hroom8 _)
     clear hr8 hC8 hroom8 hi08 hsz8 hc8
     have KY8:=ak_ hy8
     have KA8:=ak_ hA8
     clear hy8 hA8
     replace q8:=eq_true q8
     go_enter Try.func39,Try.ntmps39
     go_wp2_with (first|((with_reducible refine gate_dst (N:=15) rfl ?_);refine Kd.R_lit (Kd.int .i64) _ 2 ?hg (N:=15) ?hd (xs:=([] : List Int)) (inner:=[]) (ok:=fun _ => True) (okp:=fun _ => True) ?hr ?hp (fun _ hk => hk) trivial (Below.refl _ _) (Nat.le_refl _) (by simp) ?_;(case hd => rfl);(case hg => rfl);(case hr => first|(go_simp;done)|(go_simp;rfl));(case hp => exact (Reps.none _ _));intro v343 w9 ho10 hb hg_ hnew_;clear hg_ hnew_;(first|rw [← Ny342.out] at ho10|(simp only [Int.reduceToNat] at ho10;rw [← Ny342.out] at ho10));have n0_:=ak_ (Kd.R_lower ho10 (below_size (by repeat (first|(with_reducible first|exact HB.out|apply ba_|apply bb_|apply bc_)|exact HB.out))));have n1_:=ak_ (below_step (by repeat (first|(with_reducible first|exact HB.out|apply ba_|apply bb_|apply bc_)|exact HB.out)) hb);clear HB;have HO344:=n0_;have HB:=n1_;clear n0_ n1_;clear hb ho10)|((with_reducible refine gate_builtin (b:=.append) (xs:=#[.tmp 15,.tmp 16]) rfl ?_);at_builtin;refine Kd.R_append_rows (Kd.int .i64) (w0:=w) w.heap.size rfl (.tmp 15) (.tmp 16) 27 2 (.int .i64 0) 8 rfl Try.underlying27 info2 rfl (by decide) (by omega) v343 y342 y338 _ _ _ (fun _ => True) (fun _ => False) rfl rfl ?aO ?aR (fun _ _ h => h) (fun _ h => h.elim) ?aF ?aB ?aS ?aL ?_;(case aR => repeat (first|exact (Kd.C_below HR341.out HB.out)|(with_reducible refine Kd.C_alloc ?_ _)|(with_reducible refine Kd.C_drewN ?_ _)|(with_reducible refine Kd.C_drew ?_)));(case aB => exact (by repeat (first|(with_reducible first|exact HB.out|apply ba_|apply bb_|apply bc_)|exact HB.out)));(case aF => exact (fun _ _ => trivial));(case aO => exact (by (with_reducible repeat (first|apply ra_|apply rb_|apply rc_));exact HO344.out));(case aS => exact (below_size (by repeat (first|(with_reducible first|exact HB.out|apply ba_|apply bb_|apply bc_)|exact HB.out))));(case aL => have:=LMc7.out;omega);intro v346 w11 ho hb hg hat;rw [← Ny345.out] at ho;have n0_:=ak_ (hb);have n1_:=ak_ (ho);clear HB;clear HO344;have HB:=n0_;have HO347:=n1_;clear n0_ n1_;clear ho hb hg hat))
     go_ret
     exact ⟨_,by first|rfl|(simp [errW_none,errW_some] <;> rfl)|(simp only [← hji4];first|rfl|(simp [errW_none,errW_some] <;> rfl))|(simp [*,errW_none,errW_some] <;> rfl),by (with_reducible repeat (first|apply ra_|apply rb_|apply rc_));exact HO347.out,by repeat (first|(with_reducible first|exact HB.out|apply ba_|apply bb_|apply bc_)|exact HB.out)⟩
    ·rw [if_neg c7] at H
     exact absurd H (by simp)
   ·rw [if_neg c6] at H
    exact absurd H (by simp)
  ·rw [if_neg c5] at H
   exact absurd H (by simp)
 ·rw [if_neg c3] at H
  have c3b0 : decide (a1 < (l0.length : Int)) = false:=decide_eq_false c3
  clear c3
  obtain ⟨y348,hy348⟩ : ∃ y_ : List Int,y_ = (([] : List Int)):=⟨_,rfl⟩
  replace H : (if y348.length + l0.length < 17592186044416 then (some (y348 ++ l0)) else (none)) = some r:=by first|(rw [hy348];with_reducible exact H)|(have H2_:=(Option.bind_some _ _).symm.trans H;rw [hy348];with_reducible exact H2_)|(have H2_:=(Option.bind_some _ _).symm.trans H;with_reducible exact H2_)|with_reducible exact H|(rw [hy348];exact H)|exact H
  have Ny348:=ak_ hy348
  clear hy348
  by_cases c12 : y348.length + l0.length < 17592186044416
  ·rw [if_pos c12] at H
   have LMc12:=ak_ c12
   clear c12
   obtain ⟨y351,hy351⟩ : ∃ y_ : List Int,y_ = (y348 ++ l0):=⟨_,rfl⟩
   replace H : (some y351) = some r:=by first|(rw [hy351];with_reducible exact H)|(have H2_:=(Option.bind_some _ _).symm.trans H;rw [hy351];with_reducible exact H2_)|(have H2_:=(Option.bind_some _ _).symm.trans H;with_reducible exact H2_)|with_reducible exact H|(rw [hy351];exact H)|exact H
   have Ny351:=ak_ hy351
   clear hy351
   obtain rfl:=Option.some.inj H
   go_enter Try.func39,Try.ntmps39
   go_wp2_with (first|((with_reducible refine gate_dst (N:=15) rfl ?_);refine Kd.R_lit (Kd.int .i64) _ 2 ?hg (N:=15) ?hd (xs:=([] : List Int)) (inner:=[]) (ok:=fun _ => True) (okp:=fun _ => True) ?hr ?hp (fun _ hk => hk) trivial (Below.refl _ _) (Nat.le_refl _) (by simp) ?_;(case hd => rfl);(case hg => rfl);(case hr => first|(go_simp;done)|(go_simp;rfl));(case hp => exact (Reps.none _ _));intro v349 w13 ho14 hb hg_ hnew_;clear hg_ hnew_;(first|rw [← Ny348.out] at ho14|(simp only [Int.reduceToNat] at ho14;rw [← Ny348.out] at ho14));have n0_:=ak_ (Kd.R_lower ho14 (below_size (by repeat (first|(with_reducible first|exact HB.out|apply ba_|apply bb_|apply bc_)|exact HB.out))));have n1_:=ak_ (below_step (by repeat (first|(with_reducible first|exact HB.out|apply ba_|apply bb_|apply bc_)|exact HB.out)) hb);clear HB;have HO350:=n0_;have HB:=n1_;clear n0_ n1_;clear hb ho14)|((with_reducible refine gate_builtin (b:=.append) (xs:=#[.tmp 15,.tmp 16]) rfl ?_);at_builtin;refine Kd.R_append_rows (Kd.int .i64) (w0:=w) w.heap.size rfl (.tmp 15) (.tmp 16) 27 2 (.int .i64 0) 8 rfl Try.underlying27 info2 rfl (by decide) (by omega) v349 y348 l0 _ _ _ (fun _ => True) (fun _ => False) rfl rfl ?aO ?aR (fun _ _ h => h) (fun _ h => h.elim) ?aF ?aB ?aS ?aL ?_;(case aR => repeat (first|exact (Kd.C_below HR0.out HB.out)|(with_reducible refine Kd.C_alloc ?_ _)|(with_reducible refine Kd.C_drewN ?_ _)|(with_reducible refine Kd.C_drew ?_)));(case aB => exact (by repeat (first|(with_reducible first|exact HB.out|apply ba_|apply bb_|apply bc_)|exact HB.out)));(case aF => exact (fun _ _ => trivial));(case aO => exact (by (with_reducible repeat (first|apply ra_|apply rb_|apply rc_));exact HO350.out));(case aS => exact (below_size (by repeat (first|(with_reducible first|exact HB.out|apply ba_|apply bb_|apply bc_)|exact HB.out))));(case aL => have:=LMc12.out;omega);intro v352 w15 ho hb hg hat;rw [← Ny351.out] at ho;have n0_:=ak_ (hb);have n1_:=ak_ (ho);clear HB;clear HO350;have HB:=n0_;have HO353:=n1_;clear n0_ n1_;clear ho hb hg hat))
   go_ret
   exact ⟨_,by first|rfl|(simp [errW_none,errW_some] <;> rfl)|(simp [*,errW_none,errW_some] <;> rfl),by (with_reducible repeat (first|apply ra_|apply rb_|apply rc_));exact HO353.out,by repeat (first|(with_reducible first|exact HB.out|apply ba_|apply bb_|apply bc_)|exact HB.out)⟩
  ·rw [if_neg c12] at H
   exact absurd H (by simp)

end Go.Proofs.Ytcicenmmpbgmoaa.P
