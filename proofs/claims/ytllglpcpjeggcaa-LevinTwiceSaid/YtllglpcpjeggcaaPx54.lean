/- The machine side of the laws of one chapter, without conditions: each call of a Go function comes to what the Lean function of its name answers. Written for this claim by a program of the prover. -/
import Derived.Test.YtllglpcpjeggcaaPx0
import Derived.Test.YtllglpcpjeggcaaPx3
import Derived.Test.YtllglpcpjeggcaaPx25
namespace Go.Proofs.Ytllglpcpjeggcaa.P
open Go.RowKit Go.Proofs.YtllglpcpjeggcaaW.PrintWords Go.Proofs.YtllglpcpjeggcaaW.PrintLast Go.Proofs.YtllglpcpjeggcaaW.PrintMore
attribute [local go_sem] max2_int min2_int max_two min_two max_three min_three max_four min_four   -- for this text's walks alone
set_option linter.unusedVariables false
set_option linter.unusedSimpArgs false

/-! ### madrigallaw12_LevinTwice: function 9 -/
mutual
def madrigallaw12_LevinTwice.j0 : Nat → List Int → Int → Bool → Option (Bool)
 | 0,_,_,_ => none
 | k + 1,x0,x1,x24 => if x24 = true then (some true) else (madrigallaw12_LevinTwice.l0 k x0 x1 ([] : List Int) 0)
def madrigallaw12_LevinTwice.l0 : Nat → List Int → Int → List Int → Int → Option (Bool)
 | 0,_,_,_,_ => none
 | k + 1,x0,x1,x5,x6 => if x6 < (x0.length : Int) then (if 0 ≤ x6 then (if (rd x0 x6) < (-16383) then (some true) else (if (rd x0 x6) > 16383 then (some true) else (if x5.length < 17592186044416 then (madrigallaw12_LevinTwice.l0 k x0 x1 (x5 ++ [wrap64 (2 * (rd x0 x6))]) (wrap64 (x6 + 1))) else (none)))) else (none)) else ((levin_Auto.f k x0 x1).bind fun bt783 => ((levin_Auto.f k x5 x1).bind fun bt787 => (if bt783.2 = 0 then (if bt787.2 = 0 then (madrigallaw12_LevinTwice.j2 k bt783.1 bt787.1 ((bt787.1.length : Int) != (bt783.1.length : Int))) else (madrigallaw12_LevinTwice.j2 k bt783.1 bt787.1 true)) else (madrigallaw12_LevinTwice.j2 k bt783.1 bt787.1 true))))
def madrigallaw12_LevinTwice.j2 : Nat → List Int → List Int → Bool → Option (Bool)
 | 0,_,_,_ => none
 | k + 1,x7,x9,x75 => if x75 = true then (none) else (madrigallaw12_LevinTwice.l1 k x7 x9 0)
def madrigallaw12_LevinTwice.l1 : Nat → List Int → List Int → Int → Option (Bool)
 | 0,_,_,_ => none
 | k + 1,x7,x9,x11 => if x11 < (x7.length : Int) then (if 0 ≤ x11 then (if x11 < (x9.length : Int) then (if (rd x9 x11) = (wrap64 (4 * (rd x7 x11))) then (madrigallaw12_LevinTwice.l1 k x7 x9 (wrap64 (x11 + 1))) else (none)) else (none)) else (none)) else (some true)
end
def madrigallaw12_LevinTwice.f (k : Nat) (l0 : List Int) (a1 : Int) : Option (Bool):=(madrigallaw12_awake.f k).bind fun t776 => (if t776 = true then (if (l0.length : Int) > 300 then (madrigallaw12_LevinTwice.j0 k l0 a1 true) else (if a1 < 1 then (madrigallaw12_LevinTwice.j0 k l0 a1 true) else (madrigallaw12_LevinTwice.j0 k l0 a1 (decide (a1 > 16))))) else (none))
theorem madrigallaw12_LevinTwice.mono_l : ∀ k,(∀ y0 y1 y2,LeO (madrigallaw12_LevinTwice.j0 k y0 y1 y2) (madrigallaw12_LevinTwice.j0 (k + 1) y0 y1 y2)) ∧ (∀ y0 y1 y2 y3,LeO (madrigallaw12_LevinTwice.l0 k y0 y1 y2 y3) (madrigallaw12_LevinTwice.l0 (k + 1) y0 y1 y2 y3)) ∧ (∀ y0 y1 y2,LeO (madrigallaw12_LevinTwice.j2 k y0 y1 y2) (madrigallaw12_LevinTwice.j2 (k + 1) y0 y1 y2)) ∧ (∀ y0 y1 y2,LeO (madrigallaw12_LevinTwice.l1 k y0 y1 y2) (madrigallaw12_LevinTwice.l1 (k + 1) y0 y1 y2))
 | 0 => ⟨fun _ _ _ r h => by simp [madrigallaw12_LevinTwice.j0] at h,fun _ _ _ _ r h => by simp [madrigallaw12_LevinTwice.l0] at h,fun _ _ _ r h => by simp [madrigallaw12_LevinTwice.j2] at h,fun _ _ _ r h => by simp [madrigallaw12_LevinTwice.l1] at h⟩
 | k + 1 => by
  obtain ⟨ih0,ih1,ih2,ih3⟩:=madrigallaw12_LevinTwice.mono_l k
  refine ⟨?_,?_,?_,?_⟩
  all_goals (intros;first|unfold madrigallaw12_LevinTwice.j0|unfold madrigallaw12_LevinTwice.l0|unfold madrigallaw12_LevinTwice.j2|unfold madrigallaw12_LevinTwice.l1)
  all_goals (repeat' first|(with_reducible first|exact ih0 _ _ _|exact ih1 _ _ _ _|exact ih2 _ _ _|exact ih3 _ _ _|exact levin_Auto.mono _ _ _|exact madrigallaw12_awake.mono _|exact LeO.refl _|exact LeO.none _|refine LeO.ite ?_ ?_|refine LeO.bind ?_ (fun _ => ?_))|exact ih0 _ _ _|exact ih1 _ _ _ _|exact ih2 _ _ _|exact ih3 _ _ _|exact levin_Auto.mono _ _ _|exact madrigallaw12_awake.mono _|exact LeO.none _|refine LeO.ite ?_ ?_|refine LeO.bind ?_ (fun _ => ?_))
theorem madrigallaw12_LevinTwice.mono : ∀ a0 a1 k,LeO (madrigallaw12_LevinTwice.f k a0 a1) (madrigallaw12_LevinTwice.f (k + 1) a0 a1):=by
 intro a0 a1 k
 obtain ⟨ih0,ih1,ih2,ih3⟩:=madrigallaw12_LevinTwice.mono_l k
 unfold madrigallaw12_LevinTwice.f
 repeat' first|(with_reducible first|exact ih0 _ _ _|exact ih1 _ _ _ _|exact ih2 _ _ _|exact ih3 _ _ _|exact levin_Auto.mono _ _ _|exact madrigallaw12_awake.mono _|exact LeO.refl _|exact LeO.none _|refine LeO.ite ?_ ?_|refine LeO.bind ?_ (fun _ => ?_))|exact ih0 _ _ _|exact ih1 _ _ _ _|exact ih2 _ _ _|exact ih3 _ _ _|exact levin_Auto.mono _ _ _|exact madrigallaw12_awake.mono _|exact LeO.none _|refine LeO.ite ?_ ?_|refine LeO.bind ?_ (fun _ => ?_)
set_option maxHeartbeats 8000000 in
set_option maxRecDepth 100000 in
theorem madrigallaw12_LevinTwice.calls (k : Nat) (A0 : Option Addr) (c0 : Nat) (l0 : List Int) (a1 : Int) (r : Bool) (w : World) (hr0 : Kd.C (Kd.int .i64) w A0 l0.length l0) (hc0 : l0.length ≤ c0) (h : madrigallaw12_LevinTwice.f k l0 a1 = some r) :
  Calls Try.prog 9 #[.slice A0 l0.length c0,.int .i64 a1] w fun e w' => e = .returned (.bool r) ∧ Below w.heap.size w w':=by
 have HR0:=ak_ hr0
 have HC0:=ak_ hc0
 clear hr0 hc0
 have HB:=ak_ (Below.refl w.heap.size w)
 have H : ((madrigallaw12_awake.f k).bind fun t776 => (if t776 = true then (if (l0.length : Int) > 300 then (madrigallaw12_LevinTwice.j0 k l0 a1 true) else (if a1 < 1 then (madrigallaw12_LevinTwice.j0 k l0 a1 true) else (madrigallaw12_LevinTwice.j0 k l0 a1 (decide (a1 > 16))))) else (none))) = some r:=h
 clear h
 replace H:=Option.bind_eq_some_iff.mp H
 obtain ⟨t776,A30,H⟩:=H
 (try dsimp only at H)
 have A3:=ak_ A30
 clear A30
 by_cases c4 : t776 = true
 ·subst c4
  have H1 : (if (l0.length : Int) > 300 then (madrigallaw12_LevinTwice.j0 k l0 a1 true) else (if a1 < 1 then (madrigallaw12_LevinTwice.j0 k l0 a1 true) else (madrigallaw12_LevinTwice.j0 k l0 a1 (decide (a1 > 16))))) = some r:=by rw [if_pos rfl] at H;exact H
  clear H
  have H:=H1
  clear H1
  have HC5:=ak_ H
  clear H
  go_enter Try.func9,Try.ntmps9
  go_upto_region 3 with (first|(go_at_call 10;(with_reducible refine (madrigallaw12_awake.calls k  true _ A3.out).mono ?_);rintro e w6 ⟨rfl,hb⟩;have n0_:=ak_ (below_step (by repeat (first|(with_reducible first|exact HB.out|apply ba_|apply bb_|apply bc_)|exact HB.out)) hb);clear HB;have HB:=n0_;clear n0_;(try clear hb)))
  repeat (go_quiet (first|(go_at_call 10;(with_reducible refine (madrigallaw12_awake.calls k  true _ A3.out).mono ?_);rintro e w6 ⟨rfl,hb⟩;have n0_:=ak_ (below_step (by repeat (first|(with_reducible first|exact HB.out|apply ba_|apply bb_|apply bc_)|exact HB.out)) hb);clear HB;have HB:=n0_;clear n0_;(try clear hb)));go_upto_region 3 with (first|(go_at_call 10;(with_reducible refine (madrigallaw12_awake.calls k  true _ A3.out).mono ?_);rintro e w6 ⟨rfl,hb⟩;have n0_:=ak_ (below_step (by repeat (first|(with_reducible first|exact HB.out|apply ba_|apply bb_|apply bc_)|exact HB.out)) hb);clear HB;have HB:=n0_;clear n0_;(try clear hb))))
  (try simp only [Act.put,List.setIfInBounds_toArray,List.set_cons_zero,List.set_cons_succ])
  go_cut [24] (fun v24 wc => ∃ (kq : Nat) (x24_4 : Bool),v24 = .bool x24_4 ∧ Aside0 (madrigallaw12_LevinTwice.j0 kq l0 a1 x24_4 = some r) ∧ Aside0 (kq ≤ k) ∧ Aside0 (Below w.heap.size w wc))
  case first =>
   have H:=HC5.out
   clear HC5
   by_cases c7 : (l0.length : Int) > 300
   ·rw [if_pos c7] at H
    have c7b0 : decide (300 < (l0.length : Int)) = true:=decide_eq_true c7
    have c7b1 : decide (300 < l0.length) = true:=decide_eq_true (by omega)
    clear c7
    (first|rw [c7b0]|(simp only [i64_w,i32_w];rw [c7b0])|skip)
    have H':=ak_ H
    clear H
    go_wp2
    repeat (go_quiet (fail);try go_wp2)
    refine Met.intro ?_
    go_step
    (repeat apply Exists.intro)
    first|refine ⟨?rel69,rfl⟩|(refine ⟨?rel69,?st69⟩;case' st69 => (first|rw [c7b0]|simp only [c7b0]))
    case rel69 => exact ⟨_,(true),(by first|rfl|(simp;done)|(simp [*];done)),H',⟨by first|omega|exact Nat.le_refl _⟩,⟨by repeat (first|(with_reducible first|exact HB.out|apply ba_|apply bb_|apply bc_)|exact HB.out)⟩⟩
   ·rw [if_neg c7] at H
    have c7b0 : decide (300 < (l0.length : Int)) = false:=decide_eq_false c7
    have c7b1 : decide (300 < l0.length) = false:=decide_eq_false (by omega)
    clear c7
    (first|rw [c7b0]|(simp only [i64_w,i32_w];rw [c7b0])|skip)
    by_cases c8 : a1 < 1
    ·rw [if_pos c8] at H
     have c8b0:=decide_eq_true c8
     clear c8
     have H':=ak_ H
     clear H
     go_wp2
     repeat (go_quiet (fail);try go_wp2)
     refine Met.intro ?_
     go_step
     (repeat apply Exists.intro)
     first|refine ⟨?rel84,rfl⟩|(refine ⟨?rel84,?st84⟩;case' st84 => (first|rw [c8b0]|simp only [c8b0]))
     case rel84 => exact ⟨_,(true),(by first|rfl|(simp;done)|(simp [*];done)),H',⟨by first|omega|exact Nat.le_refl _⟩,⟨by repeat (first|(with_reducible first|exact HB.out|apply ba_|apply bb_|apply bc_)|exact HB.out)⟩⟩
    ·rw [if_neg c8] at H
     have c8b0:=decide_eq_false c8
     clear c8
     have H':=ak_ H
     clear H
     go_wp2
     repeat (go_quiet (fail);try go_wp2)
     refine Met.intro ?_
     go_step
     (repeat apply Exists.intro)
     first|refine ⟨?rel93,rfl⟩|(refine ⟨?rel93,?st93⟩;case' st93 => (first|rw [c8b0]|simp only [c8b0]))
     case rel93 => exact ⟨_,(decide (a1 > 16)),(by first|rfl|(simp;done)|(simp [*];done)),H',⟨by first|omega|exact Nat.le_refl _⟩,⟨by repeat (first|(with_reducible first|exact HB.out|apply ba_|apply bb_|apply bc_)|exact HB.out)⟩⟩
  case rest =>
   clear HC5
   try clear p2
   try clear c4
   try clear c7
   try clear c7b0
   try clear c7b1
   try clear c8
   try clear c8b0
   obtain ⟨kq,x24_4,rfl,HA,HJ4,HB⟩:=hcut
   (try simp only [i64_w,i32_w])
   cases kq with
   | zero => exact absurd HA.out (by simp [madrigallaw12_LevinTwice.j0])
   | succ kj4 =>
    have H:=HA.out
    clear HA
    simp only [madrigallaw12_LevinTwice.j0] at H
    by_cases c9 : x24_4 = true
    ·subst c9
     have H1 : (some true) = some r:=by rw [if_pos rfl] at H;exact H
     clear H
     have H:=H1
     clear H1
     obtain rfl:=Option.some.inj H
     go_wp2
     repeat (go_quiet (fail);try go_wp2)
     go_ret
     exact ⟨by first|rfl|(simp [errW_none,errW_some] <;> rfl)|(simp [*,errW_none,errW_some] <;> rfl),by repeat (first|(with_reducible first|exact HB.out|apply ba_|apply bb_|apply bc_)|exact HB.out)⟩
    ·replace c9:=Bool.eq_false_iff.mpr c9
     subst c9
     have H1 : (madrigallaw12_LevinTwice.l0 kj4 l0 a1 ([] : List Int) 0) = some r:=by rw [if_neg (show ¬ (false = true) by decide)] at H;exact H
     clear H
     have H:=H1
     clear H1
     have H':=ak_ H
     clear H
     go_wp2
     repeat (go_quiet (fail);try go_wp2)
     go_loopg [5,6] kj4 (fun kq v5 v6 w' => ∃ (x5_2 : List Int) (x6_2 : Int),v6 = .int .i64 x6_2 ∧ Aside0 (madrigallaw12_LevinTwice.l0 kq l0 a1 x5_2 x6_2 = some r) ∧ Aside0 (kq ≤ kj4) ∧ Aside0 (Kd.R (Kd.int .i64) 2 w' w.heap.size (fun _ => True) v5 x5_2) ∧ Aside0 (Below w.heap.size w w'))
     case atStart => exact ⟨(([] : List Int)),(0),(by first|rfl|(simp;done)|(simp [*];done)),H',⟨Nat.le_refl _⟩,⟨by first|exact Kd.R_nil _ _ _ _ _|exact Kd.N_nil _ _ _ _ _|exact Kd.V_nil _ _ _ _ _|exact Kd.Q_nil _ _ _ _ _|exact Kd.S_nil _ _ _ _ _⟩,⟨by repeat (first|(with_reducible first|exact HB.out|apply ba_|apply bb_|apply bc_)|exact HB.out)⟩⟩
     case round =>
      clear H'
      try clear p2
      try clear c4
      try clear c7
      try clear c7b0
      try clear c7b1
      try clear c8
      try clear c8b0
      try clear c9
      try clear p2
      obtain ⟨x5_2,x6_2,rfl,HA,HK2,HO_5,HB⟩:=hrel
      (try simp only [i64_w,i32_w])
      cases gk with
      | zero => exact absurd HA.out (by simp [madrigallaw12_LevinTwice.l0])
      | succ k2 =>
       have H:=HA.out
       clear HA
       simp only [madrigallaw12_LevinTwice.l0] at H
       by_cases c10 : x6_2 < (l0.length : Int)
       ·rw [if_pos c10] at H
        have c10b0:=decide_eq_true c10
        clear c10
        by_cases c11 : 0 ≤ x6_2
        ·rw [if_pos c11] at H
         have c11b0:=decide_eq_true c11
         clear c11
         by_cases c12 : (rd l0 x6_2) < (-16383)
         ·rw [if_pos c12] at H
          have c12b0:=decide_eq_true c12
          clear c12
          obtain rfl:=Option.some.inj H
          have p777 : 0 ≤ (x6_2 : Int):=of_decide_eq_true (by first|(with_reducible assumption)|assumption)
          have q777 : x6_2 < (l0.length : Int):=of_decide_eq_true (by first|(with_reducible assumption)|assumption)
          obtain ⟨ad777,e777,hx777_0⟩:=Kd.at_int HR0.out x6_2 p777 q777
          cases e777
          replace hx777_0:=(HB.out.cell (World.block_lt_of_cell? w _ hx777_0)).trans hx777_0
          replace p777:=eq_true p777
          replace q777:=eq_true q777
          go_wp2
          repeat (go_quiet (fail);try go_wp2)
          go_ret
          exact ⟨by first|rfl|(simp [errW_none,errW_some] <;> rfl)|(simp [*,errW_none,errW_some] <;> rfl),by repeat (first|(with_reducible first|exact HB.out|apply ba_|apply bb_|apply bc_)|exact HB.out)⟩
         ·rw [if_neg c12] at H
          have c12b0:=decide_eq_false c12
          clear c12
          by_cases c13 : (rd l0 x6_2) > 16383
          ·rw [if_pos c13] at H
           have c13b0 : decide (16383 < (rd l0 x6_2)) = true:=decide_eq_true c13
           clear c13
           obtain rfl:=Option.some.inj H
           have p777 : 0 ≤ (x6_2 : Int):=of_decide_eq_true (by first|(with_reducible assumption)|assumption)
           have q777 : x6_2 < (l0.length : Int):=of_decide_eq_true (by first|(with_reducible assumption)|assumption)
           obtain ⟨ad777,e777,hx777_0⟩:=Kd.at_int HR0.out x6_2 p777 q777
           cases e777
           replace hx777_0:=(HB.out.cell (World.block_lt_of_cell? w _ hx777_0)).trans hx777_0
           replace p777:=eq_true p777
           replace q777:=eq_true q777
           have p778 : 0 ≤ (x6_2 : Int):=of_decide_eq_true (by first|(with_reducible assumption)|assumption)
           have q778 : x6_2 < (l0.length : Int):=of_decide_eq_true (by first|(with_reducible assumption)|assumption)
           obtain ⟨ad778,e778,hx778_0⟩:=Kd.at_int HR0.out x6_2 p778 q778
           obtain rfl : ad777 = ad778:=(by injection e778)
           replace hx778_0:=(HB.out.cell (World.block_lt_of_cell? w _ hx778_0)).trans hx778_0
           replace p778:=eq_true p778
           replace q778:=eq_true q778
           go_wp2
           repeat (go_quiet (fail);try go_wp2)
           go_ret
           exact ⟨by first|rfl|(simp [errW_none,errW_some] <;> rfl)|(simp [*,errW_none,errW_some] <;> rfl),by repeat (first|(with_reducible first|exact HB.out|apply ba_|apply bb_|apply bc_)|exact HB.out)⟩
          ·rw [if_neg c13] at H
           have c13b0 : decide (16383 < (rd l0 x6_2)) = false:=decide_eq_false c13
           clear c13
           by_cases c14 : x5_2.length < 17592186044416
           ·rw [if_pos c14] at H
            have LMc14:=ak_ c14
            clear c14
            obtain ⟨y780,hy780⟩ : ∃ y_ : List Int,y_ = (x5_2 ++ [wrap64 (2 * (rd l0 x6_2))]):=⟨_,rfl⟩
            replace H : (madrigallaw12_LevinTwice.l0 k2 l0 a1 y780 (wrap64 (x6_2 + 1))) = some r:=by first|(rw [hy780];with_reducible exact H)|(have H2_:=(Option.bind_some _ _).symm.trans H;rw [hy780];with_reducible exact H2_)|(have H2_:=(Option.bind_some _ _).symm.trans H;with_reducible exact H2_)|with_reducible exact H|(rw [hy780];exact H)|exact H
            have Ny780:=ak_ hy780
            clear hy780
            have H':=ak_ H
            clear H
            have p777 : 0 ≤ (x6_2 : Int):=of_decide_eq_true (by first|(with_reducible assumption)|assumption)
            have q777 : x6_2 < (l0.length : Int):=of_decide_eq_true (by first|(with_reducible assumption)|assumption)
            obtain ⟨ad777,e777,hx777_0⟩:=Kd.at_int HR0.out x6_2 p777 q777
            cases e777
            replace hx777_0:=(HB.out.cell (World.block_lt_of_cell? w _ hx777_0)).trans hx777_0
            replace p777:=eq_true p777
            replace q777:=eq_true q777
            have p778 : 0 ≤ (x6_2 : Int):=of_decide_eq_true (by first|(with_reducible assumption)|assumption)
            have q778 : x6_2 < (l0.length : Int):=of_decide_eq_true (by first|(with_reducible assumption)|assumption)
            obtain ⟨ad778,e778,hx778_0⟩:=Kd.at_int HR0.out x6_2 p778 q778
            obtain rfl : ad777 = ad778:=(by injection e778)
            replace hx778_0:=(HB.out.cell (World.block_lt_of_cell? w _ hx778_0)).trans hx778_0
            replace p778:=eq_true p778
            replace q778:=eq_true q778
            have p779 : 0 ≤ (x6_2 : Int):=of_decide_eq_true (by first|(with_reducible assumption)|assumption)
            have q779 : x6_2 < (l0.length : Int):=of_decide_eq_true (by first|(with_reducible assumption)|assumption)
            obtain ⟨ad779,e779,hx779_0⟩:=Kd.at_int HR0.out x6_2 p779 q779
            obtain rfl : ad777 = ad779:=(by injection e779)
            replace hx779_0:=(HB.out.cell (World.block_lt_of_cell? w _ hx779_0)).trans hx779_0
            replace p779:=eq_true p779
            replace q779:=eq_true q779
            go_wp2_with (first|((with_reducible refine gate_builtin (b:=.append) (xs:=#[.tmp 43,.tmp 49]) rfl ?_);(try (refine gate_guard (by rfl) ?_;dsimp only));at_builtin;refine Kd.R_append (Kd.int .i64) (w0:=w) w.heap.size rfl (.tmp 43) (.tmp 49) 23 2 (.int .i64 0) 8 rfl Try.underlying23 info2 rfl (by decide) (by omega) u5 x5_2 (wrap64 (2 * (rd l0 x6_2))) [.int .i64 (wrap64 (2 * (rd l0 x6_2)))] (fun _ => True) (fun _ => False) rfl rfl ?aP (fun _ hk => hk.elim) ?aF ?aO ?aB ?aS ?aL ?_;(case aP => exact rfl);(case aB => exact (by repeat (first|(with_reducible first|exact HB.out|apply ba_|apply bb_|apply bc_)|exact HB.out)));(case aF => exact (fun _ _ => trivial));(case aO => exact (by (with_reducible repeat (first|apply ra_|apply rb_|apply rc_));exact HO_5.out));(case aS => exact (below_size (by repeat (first|(with_reducible first|exact HB.out|apply ba_|apply bb_|apply bc_)|exact HB.out))));(case aL => have:=LMc14.out;omega);intro v781 w15 ho hb hg hat;rw [← Ny780.out] at ho;have n0_:=ak_ (hb);have n1_:=ak_ (ho);clear HB;clear HO_5;have HB:=n0_;have HO782:=n1_;clear n0_ n1_;clear ho hb hg hat))
            repeat (go_quiet (first|((with_reducible refine gate_builtin (b:=.append) (xs:=#[.tmp 43,.tmp 49]) rfl ?_);(try (refine gate_guard (by rfl) ?_;dsimp only));at_builtin;refine Kd.R_append (Kd.int .i64) (w0:=w) w.heap.size rfl (.tmp 43) (.tmp 49) 23 2 (.int .i64 0) 8 rfl Try.underlying23 info2 rfl (by decide) (by omega) u5 x5_2 (wrap64 (2 * (rd l0 x6_2))) [.int .i64 (wrap64 (2 * (rd l0 x6_2)))] (fun _ => True) (fun _ => False) rfl rfl ?aP (fun _ hk => hk.elim) ?aF ?aO ?aB ?aS ?aL ?_;(case aP => exact rfl);(case aB => exact (by repeat (first|(with_reducible first|exact HB.out|apply ba_|apply bb_|apply bc_)|exact HB.out)));(case aF => exact (fun _ _ => trivial));(case aO => exact (by (with_reducible repeat (first|apply ra_|apply rb_|apply rc_));exact HO_5.out));(case aS => exact (below_size (by repeat (first|(with_reducible first|exact HB.out|apply ba_|apply bb_|apply bc_)|exact HB.out))));(case aL => have:=LMc14.out;omega);intro v781 w15 ho hb hg hat;rw [← Ny780.out] at ho;have n0_:=ak_ (hb);have n1_:=ak_ (ho);clear HB;clear HO_5;have HB:=n0_;have HO782:=n1_;clear n0_ n1_;clear ho hb hg hat));try go_wp2_with (first|((with_reducible refine gate_builtin (b:=.append) (xs:=#[.tmp 43,.tmp 49]) rfl ?_);(try (refine gate_guard (by rfl) ?_;dsimp only));at_builtin;refine Kd.R_append (Kd.int .i64) (w0:=w) w.heap.size rfl (.tmp 43) (.tmp 49) 23 2 (.int .i64 0) 8 rfl Try.underlying23 info2 rfl (by decide) (by omega) u5 x5_2 (wrap64 (2 * (rd l0 x6_2))) [.int .i64 (wrap64 (2 * (rd l0 x6_2)))] (fun _ => True) (fun _ => False) rfl rfl ?aP (fun _ hk => hk.elim) ?aF ?aO ?aB ?aS ?aL ?_;(case aP => exact rfl);(case aB => exact (by repeat (first|(with_reducible first|exact HB.out|apply ba_|apply bb_|apply bc_)|exact HB.out)));(case aF => exact (fun _ _ => trivial));(case aO => exact (by (with_reducible repeat (first|apply ra_|apply rb_|apply rc_));exact HO_5.out));(case aS => exact (below_size (by repeat (first|(with_reducible first|exact HB.out|apply ba_|apply bb_|apply bc_)|exact HB.out))));(case aL => have:=LMc14.out;omega);intro v781 w15 ho hb hg hat;rw [← Ny780.out] at ho;have n0_:=ak_ (hb);have n1_:=ak_ (ho);clear HB;clear HO_5;have HB:=n0_;have HO782:=n1_;clear n0_ n1_;clear ho hb hg hat)))
            go_roundg k2
            case measure => have:=HJ4.out;have:=HK2.out;omega
            case rel => exact ⟨(y780),(wrap64 (x6_2 + 1)),(by first|rfl|(simp;done)|(simp [*];done)),H',⟨by have:=HJ4.out;have:=HK2.out;omega⟩,⟨by (with_reducible repeat (first|apply ra_|apply rb_|apply rc_));exact HO782.out⟩,⟨by repeat (first|(with_reducible first|exact HB.out|apply ba_|apply bb_|apply bc_)|exact HB.out)⟩⟩
           ·rw [if_neg c14] at H
            exact absurd H (by simp)
        ·rw [if_neg c11] at H
         exact absurd H (by simp)
       ·rw [if_neg c10] at H
        have c10b0:=decide_eq_false c10
        clear c10
        replace H:=Option.bind_eq_some_iff.mp H
        obtain ⟨⟨t783,t784⟩,A160,H⟩:=H
        (try dsimp only at H)
        have A16:=ak_ A160
        clear A160
        replace H:=Option.bind_eq_some_iff.mp H
        obtain ⟨⟨t787,t788⟩,A170,H⟩:=H
        (try dsimp only at H)
        have A17:=ak_ A170
        clear A170
        have HC18:=ak_ H
        clear H
        go_upto_region 14 with (first|(go_at_call 11;(with_reducible refine (levin_Auto.calls k2 _ _ l0 a1 t783 t784 _ ?side1 ?side2 A16.out).mono ?_);(case side1 => repeat (first|exact (Kd.C_below HR0.out HB.out)|(with_reducible refine Kd.C_alloc ?_ _)|(with_reducible refine Kd.C_drewN ?_ _)|(with_reducible refine Kd.C_drew ?_)));(case side2 => exact HC0.out);rintro e w19 ⟨v785,rfl,ho0,hb⟩;have n0_:=ak_ (Kd.R_elder' (by (with_reducible repeat (first|apply ra_|apply rb_|apply rc_));exact HO_5.out) (Kd.R_base ho0) hb);have n1_:=ak_ (Kd.R_lower (Kd.R_new' ho0 (Kd.R_lt (by (with_reducible repeat (first|apply ra_|apply rb_|apply rc_));exact HO_5.out))) (below_size (by repeat (first|(with_reducible first|exact HB.out|apply ba_|apply bb_|apply bc_)|exact HB.out))));have n2_:=ak_ (below_step (by repeat (first|(with_reducible first|exact HB.out|apply ba_|apply bb_|apply bc_)|exact HB.out)) hb);clear HO_5;clear HB;have HO_5:=n0_;have HO786:=n1_;have HB:=n2_;clear n0_ n1_ n2_;(try clear hb);(try clear ho0);obtain ⟨Ao20,co20,eo20⟩:=Kd.R_slice HO_5.out;subst eo20)|(go_at_call 11;(with_reducible refine (levin_Auto.calls k2 _ _ x5_2 a1 t787 t788 _ ?side1 ?side2 A17.out).mono ?_);(case side1 => repeat (first|exact (Kd.R_reads' HO_5.out).2.2|(with_reducible refine Kd.C_alloc ?_ _)|(with_reducible refine Kd.C_drewN ?_ _)|(with_reducible refine Kd.C_drew ?_)));(case side2 => exact (Kd.R_reads' HO_5.out).2.1);rintro e w21 ⟨v789,rfl,ho0,hb⟩;have n0_:=ak_ (Kd.R_elder' (by (with_reducible repeat (first|apply ra_|apply rb_|apply rc_));exact HO_5.out) (Kd.R_base ho0) hb);have n1_:=ak_ (Kd.R_elder' (by (with_reducible repeat (first|apply ra_|apply rb_|apply rc_));exact HO786.out) (Kd.R_base ho0) hb);have n2_:=ak_ (Kd.R_lower (Kd.R_new' (Kd.R_new' ho0 (Kd.R_lt (by (with_reducible repeat (first|apply ra_|apply rb_|apply rc_));exact HO_5.out))) (Kd.R_lt (by (with_reducible repeat (first|apply ra_|apply rb_|apply rc_));exact HO786.out))) (below_size (by repeat (first|(with_reducible first|exact HB.out|apply ba_|apply bb_|apply bc_)|exact HB.out))));have n3_:=ak_ (below_step (by repeat (first|(with_reducible first|exact HB.out|apply ba_|apply bb_|apply bc_)|exact HB.out)) hb);clear HO_5;clear HO786;clear HB;have HO_5:=n0_;have HO786:=n1_;have HO790:=n2_;have HB:=n3_;clear n0_ n1_ n2_ n3_;(try clear hb);(try clear ho0)))
        repeat (go_quiet (first|(go_at_call 11;(with_reducible refine (levin_Auto.calls k2 _ _ l0 a1 t783 t784 _ ?side1 ?side2 A16.out).mono ?_);(case side1 => repeat (first|exact (Kd.C_below HR0.out HB.out)|(with_reducible refine Kd.C_alloc ?_ _)|(with_reducible refine Kd.C_drewN ?_ _)|(with_reducible refine Kd.C_drew ?_)));(case side2 => exact HC0.out);rintro e w19 ⟨v785,rfl,ho0,hb⟩;have n0_:=ak_ (Kd.R_elder' (by (with_reducible repeat (first|apply ra_|apply rb_|apply rc_));exact HO_5.out) (Kd.R_base ho0) hb);have n1_:=ak_ (Kd.R_lower (Kd.R_new' ho0 (Kd.R_lt (by (with_reducible repeat (first|apply ra_|apply rb_|apply rc_));exact HO_5.out))) (below_size (by repeat (first|(with_reducible first|exact HB.out|apply ba_|apply bb_|apply bc_)|exact HB.out))));have n2_:=ak_ (below_step (by repeat (first|(with_reducible first|exact HB.out|apply ba_|apply bb_|apply bc_)|exact HB.out)) hb);clear HO_5;clear HB;have HO_5:=n0_;have HO786:=n1_;have HB:=n2_;clear n0_ n1_ n2_;(try clear hb);(try clear ho0);obtain ⟨Ao20,co20,eo20⟩:=Kd.R_slice HO_5.out;subst eo20)|(go_at_call 11;(with_reducible refine (levin_Auto.calls k2 _ _ x5_2 a1 t787 t788 _ ?side1 ?side2 A17.out).mono ?_);(case side1 => repeat (first|exact (Kd.R_reads' HO_5.out).2.2|(with_reducible refine Kd.C_alloc ?_ _)|(with_reducible refine Kd.C_drewN ?_ _)|(with_reducible refine Kd.C_drew ?_)));(case side2 => exact (Kd.R_reads' HO_5.out).2.1);rintro e w21 ⟨v789,rfl,ho0,hb⟩;have n0_:=ak_ (Kd.R_elder' (by (with_reducible repeat (first|apply ra_|apply rb_|apply rc_));exact HO_5.out) (Kd.R_base ho0) hb);have n1_:=ak_ (Kd.R_elder' (by (with_reducible repeat (first|apply ra_|apply rb_|apply rc_));exact HO786.out) (Kd.R_base ho0) hb);have n2_:=ak_ (Kd.R_lower (Kd.R_new' (Kd.R_new' ho0 (Kd.R_lt (by (with_reducible repeat (first|apply ra_|apply rb_|apply rc_));exact HO_5.out))) (Kd.R_lt (by (with_reducible repeat (first|apply ra_|apply rb_|apply rc_));exact HO786.out))) (below_size (by repeat (first|(with_reducible first|exact HB.out|apply ba_|apply bb_|apply bc_)|exact HB.out))));have n3_:=ak_ (below_step (by repeat (first|(with_reducible first|exact HB.out|apply ba_|apply bb_|apply bc_)|exact HB.out)) hb);clear HO_5;clear HO786;clear HB;have HO_5:=n0_;have HO786:=n1_;have HO790:=n2_;have HB:=n3_;clear n0_ n1_ n2_ n3_;(try clear hb);(try clear ho0)));go_upto_region 14 with (first|(go_at_call 11;(with_reducible refine (levin_Auto.calls k2 _ _ l0 a1 t783 t784 _ ?side1 ?side2 A16.out).mono ?_);(case side1 => repeat (first|exact (Kd.C_below HR0.out HB.out)|(with_reducible refine Kd.C_alloc ?_ _)|(with_reducible refine Kd.C_drewN ?_ _)|(with_reducible refine Kd.C_drew ?_)));(case side2 => exact HC0.out);rintro e w19 ⟨v785,rfl,ho0,hb⟩;have n0_:=ak_ (Kd.R_elder' (by (with_reducible repeat (first|apply ra_|apply rb_|apply rc_));exact HO_5.out) (Kd.R_base ho0) hb);have n1_:=ak_ (Kd.R_lower (Kd.R_new' ho0 (Kd.R_lt (by (with_reducible repeat (first|apply ra_|apply rb_|apply rc_));exact HO_5.out))) (below_size (by repeat (first|(with_reducible first|exact HB.out|apply ba_|apply bb_|apply bc_)|exact HB.out))));have n2_:=ak_ (below_step (by repeat (first|(with_reducible first|exact HB.out|apply ba_|apply bb_|apply bc_)|exact HB.out)) hb);clear HO_5;clear HB;have HO_5:=n0_;have HO786:=n1_;have HB:=n2_;clear n0_ n1_ n2_;(try clear hb);(try clear ho0);obtain ⟨Ao20,co20,eo20⟩:=Kd.R_slice HO_5.out;subst eo20)|(go_at_call 11;(with_reducible refine (levin_Auto.calls k2 _ _ x5_2 a1 t787 t788 _ ?side1 ?side2 A17.out).mono ?_);(case side1 => repeat (first|exact (Kd.R_reads' HO_5.out).2.2|(with_reducible refine Kd.C_alloc ?_ _)|(with_reducible refine Kd.C_drewN ?_ _)|(with_reducible refine Kd.C_drew ?_)));(case side2 => exact (Kd.R_reads' HO_5.out).2.1);rintro e w21 ⟨v789,rfl,ho0,hb⟩;have n0_:=ak_ (Kd.R_elder' (by (with_reducible repeat (first|apply ra_|apply rb_|apply rc_));exact HO_5.out) (Kd.R_base ho0) hb);have n1_:=ak_ (Kd.R_elder' (by (with_reducible repeat (first|apply ra_|apply rb_|apply rc_));exact HO786.out) (Kd.R_base ho0) hb);have n2_:=ak_ (Kd.R_lower (Kd.R_new' (Kd.R_new' ho0 (Kd.R_lt (by (with_reducible repeat (first|apply ra_|apply rb_|apply rc_));exact HO_5.out))) (Kd.R_lt (by (with_reducible repeat (first|apply ra_|apply rb_|apply rc_));exact HO786.out))) (below_size (by repeat (first|(with_reducible first|exact HB.out|apply ba_|apply bb_|apply bc_)|exact HB.out))));have n3_:=ak_ (below_step (by repeat (first|(with_reducible first|exact HB.out|apply ba_|apply bb_|apply bc_)|exact HB.out)) hb);clear HO_5;clear HO786;clear HB;have HO_5:=n0_;have HO786:=n1_;have HO790:=n2_;have HB:=n3_;clear n0_ n1_ n2_ n3_;(try clear hb);(try clear ho0))))
        (try simp only [Act.put,List.setIfInBounds_toArray,List.set_cons_zero,List.set_cons_succ])
        go_cut [75] (fun v75 wc => ∃ (kq : Nat) (x75_17 : Bool),v75 = .bool x75_17 ∧ Aside0 (madrigallaw12_LevinTwice.j2 kq t783 t787 x75_17 = some r) ∧ Aside0 (kq ≤ k2) ∧ Aside0 (Kd.R (Kd.int .i64) 2 wc w.heap.size (fun k_ => some k_ ≠ (v789 : Value).ownBlock) v785 t783) ∧ Aside0 (Kd.R (Kd.int .i64) 2 wc w.heap.size (fun k_ => some k_ ≠ (v785 : Value).ownBlock) v789 t787) ∧ Aside0 (Below w.heap.size w wc))
        case first =>
         have H:=HC18.out
         clear HC18
         by_cases c22 : t784 = 0
         ·rw [if_pos c22] at H
          have c22b0 : (t784 == 0) = true:=beq_iff_eq.mpr c22
          have c22b1 : (t784 != 0) = false:=bne_eq_false_iff_eq.mpr c22
          clear c22
          (first|rw [c22b0]|(simp only [i64_w,i32_w];rw [c22b0])|skip)
          by_cases c23 : t788 = 0
          ·rw [if_pos c23] at H
           have c23b0 : (t788 == 0) = true:=beq_iff_eq.mpr c23
           have c23b1 : (t788 != 0) = false:=bne_eq_false_iff_eq.mpr c23
           clear c23
           have H':=ak_ H
           clear H
           obtain ⟨Ao24,co24,eo24⟩:=Kd.R_slice HO790.out
           subst eo24
           obtain ⟨Ao25,co25,eo25⟩:=Kd.R_slice HO786.out
           subst eo25
           go_wp2
           repeat (go_quiet (fail);try go_wp2)
           go_meet
           case rel => exact ⟨_,(((t787.length : Int) != (t783.length : Int))),(by first|rfl|(simp;done)|(simp [*];done)),H',⟨by have:=HJ4.out;have:=HK2.out;first|omega|exact Nat.le_refl _⟩,⟨by (with_reducible repeat (first|apply ra_|apply rb_|apply rc_));exact Kd.R_mono HO786.out (fun _ hk => hk.2)⟩,⟨by (with_reducible repeat (first|apply ra_|apply rb_|apply rc_));exact Kd.R_mono HO790.out (fun _ hk => hk.2)⟩,⟨by repeat (first|(with_reducible first|exact HB.out|apply ba_|apply bb_|apply bc_)|exact HB.out)⟩⟩
          ·rw [if_neg c23] at H
           have c23b0 : (t788 == 0) = false:=beq_eq_false_iff_ne.mpr c23
           have c23b1 : (t788 != 0) = true:=bne_iff_ne.mpr c23
           have H':=ak_ H
           clear H
           go_wp2
           repeat (go_quiet (fail);try go_wp2)
           go_meet
           case rel => exact ⟨_,(true),(by first|rfl|(simp;done)|(simp [*];done)),H',⟨by have:=HJ4.out;have:=HK2.out;first|omega|exact Nat.le_refl _⟩,⟨by (with_reducible repeat (first|apply ra_|apply rb_|apply rc_));exact Kd.R_mono HO786.out (fun _ hk => hk.2)⟩,⟨by (with_reducible repeat (first|apply ra_|apply rb_|apply rc_));exact Kd.R_mono HO790.out (fun _ hk => hk.2)⟩,⟨by repeat (first|(with_reducible first|exact HB.out|apply ba_|apply bb_|apply bc_)|exact HB.out)⟩⟩
         ·rw [if_neg c22] at H
          have c22b0 : (t784 == 0) = false:=beq_eq_false_iff_ne.mpr c22
          have c22b1 : (t784 != 0) = true:=bne_iff_ne.mpr c22
          (first|rw [c22b0]|(simp only [i64_w,i32_w];rw [c22b0])|skip)
          have H':=ak_ H
          clear H
          go_wp2
          repeat (go_quiet (fail);try go_wp2)
          go_meet
          case rel => exact ⟨_,(true),(by first|rfl|(simp;done)|(simp [*];done)),H',⟨by have:=HJ4.out;have:=HK2.out;first|omega|exact Nat.le_refl _⟩,⟨by (with_reducible repeat (first|apply ra_|apply rb_|apply rc_));exact Kd.R_mono HO786.out (fun _ hk => hk.2)⟩,⟨by (with_reducible repeat (first|apply ra_|apply rb_|apply rc_));exact Kd.R_mono HO790.out (fun _ hk => hk.2)⟩,⟨by repeat (first|(with_reducible first|exact HB.out|apply ba_|apply bb_|apply bc_)|exact HB.out)⟩⟩
        case rest =>
         clear HC18
         try clear c1
         try clear c2
         try clear p2
         try clear c4
         try clear p6
         try clear c7
         try clear c7b0
         try clear c7b1
         try clear p7
         try clear q7
         try clear hx7
         try clear c8
         try clear c8b0
         try clear c9
         try clear c10
         try clear c10b0
         try clear c11
         try clear c11b0
         try clear c12
         try clear c12b0
         try clear c13
         try clear c13b0
         try clear c14
         try clear c22
         try clear c22b0
         try clear c22b1
         try clear c23
         try clear c23b0
         try clear c23b1
         try clear hx777_0
         try clear hx778_0
         try clear hx779_0
         try clear p2
         try clear p777
         try clear p778
         try clear p779
         try clear q777
         try clear q778
         try clear q779
         obtain ⟨kq,x75_17,rfl,HA,HJ17,HO_7,HO_9,HB⟩:=hcut
         (try simp only [i64_w,i32_w])
         cases kq with
         | zero => exact absurd HA.out (by simp [madrigallaw12_LevinTwice.j2])
         | succ kj17 =>
          have H:=HA.out
          clear HA
          simp only [madrigallaw12_LevinTwice.j2] at H
          by_cases c26 : x75_17 = true
          ·subst c26
           have H1 : (none) = some r:=by rw [if_pos rfl] at H;exact H
           clear H
           have H:=H1
           clear H1
           exact absurd H (by simp)
          ·replace c26:=Bool.eq_false_iff.mpr c26
           subst c26
           have H1 : (madrigallaw12_LevinTwice.l1 kj17 t783 t787 0) = some r:=by rw [if_neg (show ¬ (false = true) by decide)] at H;exact H
           clear H
           have H:=H1
           clear H1
           have H':=ak_ H
           clear H
           go_wp2
           repeat (go_quiet (fail);try go_wp2)
           go_loopg [11] kj17 (fun kq v11 w' => ∃ (x11_4 : Int),v11 = .int .i64 x11_4 ∧ Aside0 (madrigallaw12_LevinTwice.l1 kq t783 t787 x11_4 = some r) ∧ Aside0 (kq ≤ kj17) ∧ Aside0 (Kd.R (Kd.int .i64) 2 w' w.heap.size (fun k_ => some k_ ≠ (v789 : Value).ownBlock) v785 t783) ∧ Aside0 (Kd.R (Kd.int .i64) 2 w' w.heap.size (fun k_ => some k_ ≠ (v785 : Value).ownBlock) v789 t787) ∧ Aside0 (Below w.heap.size w w'))
           case atStart => exact ⟨(0),(by first|rfl|(simp;done)|(simp [*];done)),H',⟨Nat.le_refl _⟩,⟨by (with_reducible repeat (first|apply ra_|apply rb_|apply rc_));exact HO_7.out⟩,⟨by (with_reducible repeat (first|apply ra_|apply rb_|apply rc_));exact HO_9.out⟩,⟨by repeat (first|(with_reducible first|exact HB.out|apply ba_|apply bb_|apply bc_)|exact HB.out)⟩⟩
           case round =>
            clear H'
            try clear c1
            try clear c2
            try clear p2
            try clear c4
            try clear p6
            try clear c7
            try clear c7b0
            try clear c7b1
            try clear p7
            try clear q7
            try clear hx7
            try clear c8
            try clear c8b0
            try clear c9
            try clear c10
            try clear c10b0
            try clear c11
            try clear c11b0
            try clear c12
            try clear c12b0
            try clear c13
            try clear c13b0
            try clear c14
            try clear c22
            try clear c22b0
            try clear c22b1
            try clear c23
            try clear c23b0
            try clear c23b1
            try clear c26
            try clear hx777_0
            try clear hx778_0
            try clear hx779_0
            try clear p2
            try clear p6
            try clear p7
            try clear p777
            try clear p778
            try clear p779
            try clear q7
            try clear q777
            try clear q778
            try clear q779
            obtain ⟨x11_4,rfl,HA,HK4,HO_7,HO_9,HB⟩:=hrel
            (try simp only [i64_w,i32_w])
            cases gk with
            | zero => exact absurd HA.out (by simp [madrigallaw12_LevinTwice.l1])
            | succ k4 =>
             have H:=HA.out
             clear HA
             simp only [madrigallaw12_LevinTwice.l1] at H
             by_cases c27 : x11_4 < (t783.length : Int)
             ·rw [if_pos c27] at H
              have c27b0:=decide_eq_true c27
              clear c27
              by_cases c28 : 0 ≤ x11_4
              ·rw [if_pos c28] at H
               have c28b0:=decide_eq_true c28
               clear c28
               by_cases c29 : x11_4 < (t787.length : Int)
               ·rw [if_pos c29] at H
                have c29b0:=decide_eq_true c29
                clear c29
                by_cases c30 : (rd t787 x11_4) = (wrap64 (4 * (rd t783 x11_4)))
                ·rw [if_pos c30] at H
                 have c30b0 : ((rd t787 x11_4) == (wrap64 (4 * (rd t783 x11_4)))) = true:=beq_iff_eq.mpr c30
                 have c30b1 : ((rd t787 x11_4) != (wrap64 (4 * (rd t783 x11_4)))) = false:=bne_eq_false_iff_eq.mpr c30
                 clear c30
                 have H':=ak_ H
                 clear H
                 obtain ⟨Ao31,co31,eo31⟩:=Kd.R_slice HO_7.out
                 subst eo31
                 obtain ⟨Ao32,co32,eo32⟩:=Kd.R_slice HO_9.out
                 subst eo32
                 have p791 : 0 ≤ (x11_4 : Int):=of_decide_eq_true (by first|(with_reducible assumption)|assumption)
                 have q791 : x11_4 < (t787.length : Int):=of_decide_eq_true (by first|(with_reducible assumption)|assumption)
                 obtain ⟨ad791,e791,hx791_0⟩:=Kd.at_int (Kd.R_reads' HO_9.out).2.2 x11_4 p791 q791
                 cases e791
                 replace p791:=eq_true p791
                 replace q791:=eq_true q791
                 have p792 : 0 ≤ (x11_4 : Int):=of_decide_eq_true (by first|(with_reducible assumption)|assumption)
                 have q792 : x11_4 < (t783.length : Int):=of_decide_eq_true (by first|(with_reducible assumption)|assumption)
                 obtain ⟨ad792,e792,hx792_0⟩:=Kd.at_int (Kd.R_reads' HO_7.out).2.2 x11_4 p792 q792
                 cases e792
                 replace p792:=eq_true p792
                 replace q792:=eq_true q792
                 go_wp2
                 repeat (go_quiet (fail);try go_wp2)
                 go_roundg k4
                 case measure => have:=HJ4.out;have:=HK2.out;have:=HJ17.out;have:=HK4.out;omega
                 case rel => exact ⟨(wrap64 (x11_4 + 1)),(by first|rfl|(simp;done)|(simp [*];done)),H',⟨by have:=HJ4.out;have:=HK2.out;have:=HJ17.out;have:=HK4.out;omega⟩,⟨by (with_reducible repeat (first|apply ra_|apply rb_|apply rc_));exact HO_7.out⟩,⟨by (with_reducible repeat (first|apply ra_|apply rb_|apply rc_));exact HO_9.out⟩,⟨by repeat (first|(with_reducible first|exact HB.out|apply ba_|apply bb_|apply bc_)|exact HB.out)⟩⟩
                ·rw [if_neg c30] at H
                 exact absurd H (by simp)
               ·rw [if_neg c29] at H
                exact absurd H (by simp)
              ·rw [if_neg c28] at H
               exact absurd H (by simp)
             ·rw [if_neg c27] at H
              have c27b0:=decide_eq_false c27
              clear c27
              obtain rfl:=Option.some.inj H
              obtain ⟨Ao33,co33,eo33⟩:=Kd.R_slice HO_7.out
              subst eo33
              go_wp2
              repeat (go_quiet (fail);try go_wp2)
              go_ret
              exact ⟨by first|rfl|(simp [errW_none,errW_some] <;> rfl)|(simp [*,errW_none,errW_some] <;> rfl),by repeat (first|(with_reducible first|exact HB.out|apply ba_|apply bb_|apply bc_)|exact HB.out)⟩
 ·replace c4:=Bool.eq_false_iff.mpr c4
  subst c4
  have H1 : (none) = some r:=by rw [if_neg (show ¬ (false = true) by decide)] at H;exact H
  clear H
  have H:=H1
  clear H1
  exact absurd H (by simp)

/-- THE ONE PURE STATEMENT of madrigallaw12_LevinTwice. -/
def madrigallaw12_LevinTwice.Pure : Prop:=∀ (l0 : List Int) (a1 : Int),l0.length ≤ maxLen → l0.length * 8 ≤ 140737488351232 → (∀ x ∈ l0,(Lit.int .i64 x).wf = true) → (Lit.int .i64 a1).wf = true → ∃ k,madrigallaw12_LevinTwice.f k l0 a1 = some true
theorem madrigallaw12_LevinTwice.walk (P : madrigallaw12_LevinTwice.Pure) (a0 : Option Addr) (len0 cap0 : Nat) (z0 : List Int) (a1 : Int) (w : World) (w0 : (a0 = none ∧ len0 = 0 ∧ cap0 = 0 ∧ z0 = []) ∨ ∃ x,a0 = some x ∧ len0 ≤ cap0 ∧ cap0 ≤ maxLen ∧ z0.length = cap0 ∧ (∀ i,i < z0.length → w.cell? (x.add i) = some (.int .i64 (z0.getD i 0))) ∧ ∀ n ∈ z0,(Lit.int .i64 n).wf = true) (y0 : len0 * 8 ≤ 140737488351232) (w1 : (Lit.int .i64 a1).wf = true) :
  Calls Try.prog 9 #[.slice a0 len0 cap0,.int .i64 a1] w fun e w' => e = .returned (.bool true) ∧ Below w.heap.size w w':=by
 obtain ⟨l0,rfl,hr0,hm0,hw0,hc0⟩:=ReadsInt.ofRowC w0
 obtain ⟨k,h⟩:=P l0 a1 hm0 y0 hw0 w1
 refine (madrigallaw12_LevinTwice.calls k _ _ l0 a1 true w (Kd.C_of_reads (d:=(0 : Int)) (h1:=fun _ => rfl) hr0) hc0 h).mono ?_
 rintro e w' ⟨rfl,hd⟩
 exact ⟨rfl,hd⟩

end Go.Proofs.Ytllglpcpjeggcaa.P
