/- The machine side of the laws of one chapter, without conditions: each call of a Go function comes to what the Lean function of its name answers. Written for this claim by a program of the prover. -/
import Derived.Test.YtllglpcpjeggcaaPx0
import Derived.Test.YtllglpcpjeggcaaPx27
import Derived.Test.YtllglpcpjeggcaaPx31
namespace Go.Proofs.Ytllglpcpjeggcaa.P
open Go.RowKit Go.Proofs.YtllglpcpjeggcaaW.PrintWords Go.Proofs.YtllglpcpjeggcaaW.PrintLast Go.Proofs.YtllglpcpjeggcaaW.PrintMore
attribute [local go_sem] max2_int min2_int max_two min_two max_three min_three max_four min_four   -- for this text's walks alone
set_option linter.unusedVariables false
set_option linter.unusedSimpArgs false

/-! ### madrigalref6_Chirp: function 49 -/
mutual
def madrigalref6_Chirp.l0 : Nat → List Int → Int → List Int → Int → Option (List Int)
 | 0,_,_,_,_ => none
 | k + 1,x0,x1,x5,x6 => if x6 < (x0.length : Int) then (if 0 ≤ x6 then (madrigalref6_Chirp.l1 k x0 x1 x5 x6 (rd x0 x6) 0) else (none)) else (some x5)
def madrigalref6_Chirp.l1 : Nat → List Int → Int → List Int → Int → Int → Int → Option (List Int)
 | 0,_,_,_,_,_,_ => none
 | k + 1,x0,x1,x5,x6,x7,x8 => if x8 ≤ x6 then ((madrigalref1_Mul.f k x7 x1 16).bind fun t481 => (madrigalref6_Chirp.l1 k x0 x1 x5 x6 t481 (wrap64 (x8 + 1)))) else (if x5.length < 17592186044416 then (madrigalref6_Chirp.l0 k x0 x1 (x5 ++ [x7]) (wrap64 (x6 + 1))) else (none))
end
def madrigalref6_Chirp.f (k : Nat) (l0 : List Int) (a1 : Int) : Option (List Int):=if (l0.length : Int) > 32 then (some ([] : List Int)) else ((madrigalref1_Clamp.f k a1 0 65536).bind fun t479 => (madrigalref6_Chirp.l0 k l0 t479 ([] : List Int) 0))
theorem madrigalref6_Chirp.mono_l : ∀ k,(∀ y0 y1 y2 y3,LeO (madrigalref6_Chirp.l0 k y0 y1 y2 y3) (madrigalref6_Chirp.l0 (k + 1) y0 y1 y2 y3)) ∧ (∀ y0 y1 y2 y3 y4 y5,LeO (madrigalref6_Chirp.l1 k y0 y1 y2 y3 y4 y5) (madrigalref6_Chirp.l1 (k + 1) y0 y1 y2 y3 y4 y5))
 | 0 => ⟨fun _ _ _ _ r h => by simp [madrigalref6_Chirp.l0] at h,fun _ _ _ _ _ _ r h => by simp [madrigalref6_Chirp.l1] at h⟩
 | k + 1 => by
  obtain ⟨ih0,ih1⟩:=madrigalref6_Chirp.mono_l k
  refine ⟨?_,?_⟩
  all_goals (intros;first|unfold madrigalref6_Chirp.l0|unfold madrigalref6_Chirp.l1)
  all_goals (repeat' first|(with_reducible first|exact ih0 _ _ _ _|exact ih1 _ _ _ _ _ _|exact madrigalref1_Clamp.mono _ _ _ _|exact madrigalref1_Mul.mono _ _ _ _|exact LeO.refl _|exact LeO.none _|refine LeO.ite ?_ ?_|refine LeO.bind ?_ (fun _ => ?_))|exact ih0 _ _ _ _|exact ih1 _ _ _ _ _ _|exact madrigalref1_Clamp.mono _ _ _ _|exact madrigalref1_Mul.mono _ _ _ _|exact LeO.none _|refine LeO.ite ?_ ?_|refine LeO.bind ?_ (fun _ => ?_))
theorem madrigalref6_Chirp.mono : ∀ a0 a1 k,LeO (madrigalref6_Chirp.f k a0 a1) (madrigalref6_Chirp.f (k + 1) a0 a1):=by
 intro a0 a1 k
 obtain ⟨ih0,ih1⟩:=madrigalref6_Chirp.mono_l k
 unfold madrigalref6_Chirp.f
 repeat' first|(with_reducible first|exact ih0 _ _ _ _|exact ih1 _ _ _ _ _ _|exact madrigalref1_Clamp.mono _ _ _ _|exact madrigalref1_Mul.mono _ _ _ _|exact LeO.refl _|exact LeO.none _|refine LeO.ite ?_ ?_|refine LeO.bind ?_ (fun _ => ?_))|exact ih0 _ _ _ _|exact ih1 _ _ _ _ _ _|exact madrigalref1_Clamp.mono _ _ _ _|exact madrigalref1_Mul.mono _ _ _ _|exact LeO.none _|refine LeO.ite ?_ ?_|refine LeO.bind ?_ (fun _ => ?_)
set_option maxHeartbeats 8000000 in
set_option maxRecDepth 100000 in
theorem madrigalref6_Chirp.calls (k : Nat) (A0 : Option Addr) (c0 : Nat) (l0 : List Int) (a1 : Int) (r : List Int) (w : World) (hr0 : Kd.C (Kd.int .i64) w A0 l0.length l0) (hc0 : l0.length ≤ c0) (h : madrigalref6_Chirp.f k l0 a1 = some r) :
  Calls Try.prog 49 #[.slice A0 l0.length c0,.int .i64 a1] w fun e w' => ∃ v0_ : Value,e = .returned (v0_) ∧ Kd.R (Kd.int .i64) 2 w' w.heap.size (fun _ => True) v0_ r ∧ Below w.heap.size w w':=by
 have HR0:=ak_ hr0
 have HC0:=ak_ hc0
 clear hr0 hc0
 have HB:=ak_ (Below.refl w.heap.size w)
 have H : (if (l0.length : Int) > 32 then (some ([] : List Int)) else ((madrigalref1_Clamp.f k a1 0 65536).bind fun t479 => (madrigalref6_Chirp.l0 k l0 t479 ([] : List Int) 0))) = some r:=h
 clear h
 by_cases c3 : (l0.length : Int) > 32
 ·rw [if_pos c3] at H
  have c3b0 : decide (32 < (l0.length : Int)) = true:=decide_eq_true c3
  have c3b1 : decide (32 < l0.length) = true:=decide_eq_true (by omega)
  clear c3
  obtain rfl:=Option.some.inj H
  go_enter Try.func49,Try.ntmps49
  go_wp2
  go_ret
  exact ⟨_,by first|rfl|(simp [errW_none,errW_some] <;> rfl)|(simp [*,errW_none,errW_some] <;> rfl),by first|exact Kd.R_nil _ _ _ _ _|exact Kd.N_nil _ _ _ _ _|exact Kd.V_nil _ _ _ _ _|exact Kd.Q_nil _ _ _ _ _|exact Kd.S_nil _ _ _ _ _,by repeat (first|(with_reducible first|exact HB.out|apply ba_|apply bb_|apply bc_)|exact HB.out)⟩
 ·rw [if_neg c3] at H
  have c3b0 : decide (32 < (l0.length : Int)) = false:=decide_eq_false c3
  have c3b1 : decide (32 < l0.length) = false:=decide_eq_false (by omega)
  clear c3
  replace H:=Option.bind_eq_some_iff.mp H
  obtain ⟨t479,A40,H⟩:=H
  (try dsimp only at H)
  have A4:=ak_ A40
  clear A40
  have H':=ak_ H
  clear H
  go_enter Try.func49,Try.ntmps49
  go_wp2_with (first|((with_reducible refine gate_callee (f:=32) rfl ?_);refine goesL_ (some 13) rfl rfl Try.func32 (by kernel_rfl) rfl #[.int .i64 a1,.int .i64 0,.int .i64 65536] rfl (by (try simp only [List.map_toArray,List.map_cons,List.map_nil]);first|done|rfl|(simp only [List.length_drop,List.length_take];rfl)) ?_;(with_reducible refine (madrigalref1_Clamp.calls k a1 0 65536 t479 _ A4.out).mono ?_);rintro e w' ⟨rfl,⟨nd,rfl⟩⟩;refine ⟨_,rfl,?_⟩))
  go_loopg [5,6] k (fun kq v5 v6 w' => ∃ (x5_1 : List Int) (x6_1 : Int),v6 = .int .i64 x6_1 ∧ Aside0 (madrigalref6_Chirp.l0 kq l0 t479 x5_1 x6_1 = some r) ∧ Aside0 (kq ≤ k) ∧ Aside0 (Kd.R (Kd.int .i64) 2 w' w.heap.size (fun _ => True) v5 x5_1) ∧ Aside0 (Below w.heap.size w w'))
  case atStart => exact ⟨(([] : List Int)),(0),(by first|rfl|(simp;done)|(simp [*];done)),H',⟨Nat.le_refl _⟩,⟨by first|exact Kd.R_nil _ _ _ _ _|exact Kd.N_nil _ _ _ _ _|exact Kd.V_nil _ _ _ _ _|exact Kd.Q_nil _ _ _ _ _|exact Kd.S_nil _ _ _ _ _⟩,⟨by repeat (first|(with_reducible first|exact HB.out|apply ba_|apply bb_|apply bc_)|exact HB.out)⟩⟩
  case round =>
   clear H'
   try clear p2
   try clear c3
   try clear c3b0
   try clear c3b1
   try clear c4
   obtain ⟨x5_1,x6_1,rfl,HA,HK1,HO_5,HB⟩:=hrel
   (try simp only [i64_w,i32_w])
   cases gk with
   | zero => exact absurd HA.out (by simp [madrigalref6_Chirp.l0])
   | succ k1 =>
    have H:=HA.out
    clear HA
    simp only [madrigalref6_Chirp.l0] at H
    by_cases c5 : x6_1 < (l0.length : Int)
    ·rw [if_pos c5] at H
     have c5b0:=decide_eq_true c5
     clear c5
     by_cases c6 : 0 ≤ x6_1
     ·rw [if_pos c6] at H
      have c6b0:=decide_eq_true c6
      clear c6
      have H':=ak_ H
      clear H
      have p480 : 0 ≤ (x6_1 : Int):=of_decide_eq_true (by first|(with_reducible assumption)|assumption)
      have q480 : x6_1 < (l0.length : Int):=of_decide_eq_true (by first|(with_reducible assumption)|assumption)
      obtain ⟨ad480,e480,hx480_0⟩:=Kd.at_int HR0.out x6_1 p480 q480
      cases e480
      replace hx480_0:=(HB.out.cell (World.block_lt_of_cell? w _ hx480_0)).trans hx480_0
      replace p480:=eq_true p480
      replace q480:=eq_true q480
      go_wp2
      go_loopg [7,8] k1 (fun kq v7 v8 w' => ∃ (x7_2 : Int) (x8_2 : Int),v7 = .int .i64 x7_2 ∧ v8 = .int .i64 x8_2 ∧ Aside0 (madrigalref6_Chirp.l1 kq l0 t479 x5_1 x6_1 x7_2 x8_2 = some r) ∧ Aside0 (kq ≤ k1) ∧ Aside0 (Kd.R (Kd.int .i64) 2 w' w.heap.size (fun _ => True) u5 x5_1) ∧ Aside0 (Below w.heap.size w w'))
      case atStart => exact ⟨(rd l0 x6_1),(0),(by first|rfl|(simp;done)|(simp [*];done)),(by first|rfl|(simp;done)|(simp [*];done)),H',⟨Nat.le_refl _⟩,⟨by (with_reducible repeat (first|apply ra_|apply rb_|apply rc_));exact HO_5.out⟩,⟨by repeat (first|(with_reducible first|exact HB.out|apply ba_|apply bb_|apply bc_)|exact HB.out)⟩⟩
      case round =>
       clear H'
       try clear p2
       try clear c3
       try clear c3b0
       try clear c3b1
       try clear c4
       try clear p4
       try clear q4
       try clear hx4
       try clear c5
       try clear c5b0
       try clear c6
       try clear c6b0
       try clear hx480_0
       try clear p2
       try clear p480
       try clear q480
       obtain ⟨x7_2,x8_2,rfl,rfl,HA,HK2,HO_5,HB⟩:=hrel
       (try simp only [i64_w,i32_w])
       cases gk with
       | zero => exact absurd HA.out (by simp [madrigalref6_Chirp.l1])
       | succ k2 =>
        have H:=HA.out
        clear HA
        simp only [madrigalref6_Chirp.l1] at H
        by_cases c7 : x8_2 ≤ x6_1
        ·rw [if_pos c7] at H
         have c7b0:=decide_eq_true c7
         clear c7
         replace H:=Option.bind_eq_some_iff.mp H
         obtain ⟨t481,A80,H⟩:=H
         (try dsimp only at H)
         have A8:=ak_ A80
         clear A80
         have H':=ak_ H
         clear H
         go_wp2_with (first|((with_reducible refine gate_callee (f:=34) rfl ?_);refine goesL_ (some 31) rfl rfl Try.func34 (by kernel_rfl) rfl #[.int .i64 x7_2,.int .i64 t479,.int .i64 16] rfl (by (try simp only [List.map_toArray,List.map_cons,List.map_nil]);first|done|rfl|(simp only [List.length_drop,List.length_take];rfl)) ?_;(with_reducible refine (madrigalref1_Mul.calls k2 x7_2 t479 16 t481 _ A8.out).mono ?_);rintro e w' ⟨rfl,⟨nd,rfl⟩⟩;refine ⟨_,rfl,?_⟩))
         go_roundg k2
         case measure => have:=HK1.out;have:=HK2.out;omega
         case rel => exact ⟨(t481),(wrap64 (x8_2 + 1)),(by first|rfl|(simp;done)|(simp [*];done)),(by first|rfl|(simp;done)|(simp [*];done)),H',⟨by have:=HK1.out;have:=HK2.out;omega⟩,⟨by (with_reducible repeat (first|apply ra_|apply rb_|apply rc_));exact HO_5.out⟩,⟨by repeat (first|(with_reducible first|exact HB.out|apply ba_|apply bb_|apply bc_)|exact HB.out)⟩⟩
        ·rw [if_neg c7] at H
         have c7b0:=decide_eq_false c7
         clear c7
         by_cases c9 : x5_1.length < 17592186044416
         ·rw [if_pos c9] at H
          have LMc9:=ak_ c9
          clear c9
          obtain ⟨y482,hy482⟩ : ∃ y_ : List Int,y_ = (x5_1 ++ [x7_2]):=⟨_,rfl⟩
          replace H : (madrigalref6_Chirp.l0 k2 l0 t479 y482 (wrap64 (x6_1 + 1))) = some r:=by first|(rw [hy482];with_reducible exact H)|(have H2_:=(Option.bind_some _ _).symm.trans H;rw [hy482];with_reducible exact H2_)|(have H2_:=(Option.bind_some _ _).symm.trans H;with_reducible exact H2_)|with_reducible exact H|(rw [hy482];exact H)|exact H
          have Ny482:=ak_ hy482
          clear hy482
          have H':=ak_ H
          clear H
          go_wp2_with (first|((with_reducible refine gate_builtin (b:=.append) (xs:=#[.tmp 32,.tmp 34]) rfl ?_);at_builtin;refine Kd.R_append (Kd.int .i64) (w0:=w) w.heap.size rfl (.tmp 32) (.tmp 34) 23 2 (.int .i64 0) 8 rfl Try.underlying23 info2 rfl (by decide) (by omega) u5 x5_1 x7_2 [.int .i64 x7_2] (fun _ => True) (fun _ => False) rfl rfl ?aP (fun _ hk => hk.elim) ?aF ?aO ?aB ?aS ?aL ?_;(case aP => exact rfl);(case aB => exact (by repeat (first|(with_reducible first|exact HB.out|apply ba_|apply bb_|apply bc_)|exact HB.out)));(case aF => exact (fun _ _ => trivial));(case aO => exact (by (with_reducible repeat (first|apply ra_|apply rb_|apply rc_));exact HO_5.out));(case aS => exact (below_size (by repeat (first|(with_reducible first|exact HB.out|apply ba_|apply bb_|apply bc_)|exact HB.out))));(case aL => have:=LMc9.out;omega);intro v483 w10 ho hb hg hat;rw [← Ny482.out] at ho;have n0_:=ak_ (hb);have n1_:=ak_ (ho);clear HB;clear HO_5;have HB:=n0_;have HO484:=n1_;clear n0_ n1_;clear ho hb hg hat))
          go_roundg k2
          case measure => have:=HK1.out;have:=HK2.out;omega
          case rel => exact ⟨(y482),(wrap64 (x6_1 + 1)),(by first|rfl|(simp;done)|(simp [*];done)),H',⟨by have:=HK1.out;have:=HK2.out;omega⟩,⟨by (with_reducible repeat (first|apply ra_|apply rb_|apply rc_));exact HO484.out⟩,⟨by repeat (first|(with_reducible first|exact HB.out|apply ba_|apply bb_|apply bc_)|exact HB.out)⟩⟩
         ·rw [if_neg c9] at H
          exact absurd H (by simp)
     ·rw [if_neg c6] at H
      exact absurd H (by simp)
    ·rw [if_neg c5] at H
     have c5b0:=decide_eq_false c5
     clear c5
     obtain rfl:=Option.some.inj H
     go_wp2
     go_ret
     exact ⟨_,by first|rfl|(simp [errW_none,errW_some] <;> rfl)|(simp [*,errW_none,errW_some] <;> rfl),by (with_reducible repeat (first|apply ra_|apply rb_|apply rc_));exact HO_5.out,by repeat (first|(with_reducible first|exact HB.out|apply ba_|apply bb_|apply bc_)|exact HB.out)⟩

end Go.Proofs.Ytllglpcpjeggcaa.P
