/- The machine side of the laws of one chapter, without conditions: each call of a Go function comes to what the Lean function of its name answers. Written for this claim by a program of the prover. -/
import Derived.Test.YtllglpcpjeggcaaPx0
import Derived.Test.YtllglpcpjeggcaaPx11
import Derived.Test.YtllglpcpjeggcaaPx12
import Derived.Test.YtllglpcpjeggcaaPx24
import Derived.Test.YtllglpcpjeggcaaPx25
namespace Go.Proofs.Ytllglpcpjeggcaa.P
open Go.RowKit Go.Proofs.YtllglpcpjeggcaaW.PrintWords Go.Proofs.YtllglpcpjeggcaaW.PrintLast Go.Proofs.YtllglpcpjeggcaaW.PrintMore
attribute [local go_sem] max2_int min2_int max_two min_two max_three min_three max_four min_four   -- for this text's walks alone
set_option linter.unusedVariables false
set_option linter.unusedSimpArgs false

/-! ### madrigallaw12_LevinNothing: function 7 -/
mutual
def madrigallaw12_LevinNothing.j0 : Nat → List Int → Int → Bool → Option (Bool)
 | 0,_,_,_ => none
 | k + 1,x0,x1,x24 => if x24 = true then (some true) else (madrigallaw12_LevinNothing.l0 k x0 x1 0)
def madrigallaw12_LevinNothing.l0 : Nat → List Int → Int → Int → Option (Bool)
 | 0,_,_,_ => none
 | k + 1,x0,x1,x5 => if x5 < (x0.length : Int) then (if 0 ≤ x5 then (if (rd x0 x5) < (-16383) then (some true) else (if (rd x0 x5) > 16383 then (some true) else (madrigallaw12_LevinNothing.l0 k x0 x1 (wrap64 (x5 + 1))))) else (none)) else (if 0 ≤ x1 then (if (x1 : Int).toNat ≤ 35184372088832 then ((levin_Rest.f k x0 (List.replicate (x1 : Int).toNat 0)).bind fun bt736 => (if 0 ≤ (x0.length : Int) then (if ((x0.length : Int) : Int).toNat ≤ 35184372088832 then ((levin_Rest.f k (List.replicate ((x0.length : Int) : Int).toNat 0) (([4000,(-900)] : List Int))).bind fun bt746 => (madrigallaw12_LevinNothing.l1 k x0 bt736.1 bt736.2 bt746.1 bt746.2 ([] : List Int) 0)) else (none)) else (none))) else (none)) else (none))
def madrigallaw12_LevinNothing.l1 : Nat → List Int → List Int → Int → List Int → Int → List Int → Int → Option (Bool)
 | 0,_,_,_,_,_,_,_ => none
 | k + 1,x0,x6,x7,x8,x9,x10,x11 => if x11 < (x0.length : Int) then (if 0 ≤ x11 then (if x10.length < 17592186044416 then (madrigallaw12_LevinNothing.l1 k x0 x6 x7 x8 x9 (x10 ++ [wrap64 (2 * (rd x0 x11))]) (wrap64 (x11 + 1))) else (none)) else (none)) else (if x7 = 0 then (if x9 = 0 then ((madrigallaw12_same.f k x6 x0).bind fun t754 => (if t754 = true then (if 0 ≤ (x0.length : Int) then (if ((x0.length : Int) : Int).toNat ≤ 35184372088832 then ((madrigallaw12_same.f k x8 (List.replicate ((x0.length : Int) : Int).toNat 0)).bind fun t758 => (if t758 = true then ((levin_Power.f k x10).bind fun t759 => ((levin_Power.f k x0).bind fun t760 => (some (t759 == (wrap64 (4 * t760)))))) else (none))) else (none)) else (none)) else (none))) else (none)) else (none))
end
def madrigallaw12_LevinNothing.f (k : Nat) (l0 : List Int) (a1 : Int) : Option (Bool):=(madrigallaw12_awake.f k).bind fun t730 => (if t730 = true then (if (l0.length : Int) > 400 then (madrigallaw12_LevinNothing.j0 k l0 a1 true) else (if a1 < 0 then (madrigallaw12_LevinNothing.j0 k l0 a1 true) else (madrigallaw12_LevinNothing.j0 k l0 a1 (decide (a1 > 32))))) else (none))
theorem madrigallaw12_LevinNothing.mono_l : ∀ k,(∀ y0 y1 y2,LeO (madrigallaw12_LevinNothing.j0 k y0 y1 y2) (madrigallaw12_LevinNothing.j0 (k + 1) y0 y1 y2)) ∧ (∀ y0 y1 y2,LeO (madrigallaw12_LevinNothing.l0 k y0 y1 y2) (madrigallaw12_LevinNothing.l0 (k + 1) y0 y1 y2)) ∧ (∀ y0 y1 y2 y3 y4 y5 y6,LeO (madrigallaw12_LevinNothing.l1 k y0 y1 y2 y3 y4 y5 y6) (madrigallaw12_LevinNothing.l1 (k + 1) y0 y1 y2 y3 y4 y5 y6))
 | 0 => ⟨fun _ _ _ r h => by simp [madrigallaw12_LevinNothing.j0] at h,fun _ _ _ r h => by simp [madrigallaw12_LevinNothing.l0] at h,fun _ _ _ _ _ _ _ r h => by simp [madrigallaw12_LevinNothing.l1] at h⟩
 | k + 1 => by
  obtain ⟨ih0,ih1,ih2⟩:=madrigallaw12_LevinNothing.mono_l k
  refine ⟨?_,?_,?_⟩
  all_goals (intros;first|unfold madrigallaw12_LevinNothing.j0|unfold madrigallaw12_LevinNothing.l0|unfold madrigallaw12_LevinNothing.l1)
  all_goals (repeat' first|(with_reducible first|exact ih0 _ _ _|exact ih1 _ _ _|exact ih2 _ _ _ _ _ _ _|exact levin_Power.mono _ _|exact levin_Rest.mono _ _ _|exact madrigallaw12_awake.mono _|exact madrigallaw12_same.mono _ _ _|exact LeO.refl _|exact LeO.none _|refine LeO.ite ?_ ?_|refine LeO.bind ?_ (fun _ => ?_))|exact ih0 _ _ _|exact ih1 _ _ _|exact ih2 _ _ _ _ _ _ _|exact levin_Power.mono _ _|exact levin_Rest.mono _ _ _|exact madrigallaw12_awake.mono _|exact madrigallaw12_same.mono _ _ _|exact LeO.none _|refine LeO.ite ?_ ?_|refine LeO.bind ?_ (fun _ => ?_))
theorem madrigallaw12_LevinNothing.mono : ∀ a0 a1 k,LeO (madrigallaw12_LevinNothing.f k a0 a1) (madrigallaw12_LevinNothing.f (k + 1) a0 a1):=by
 intro a0 a1 k
 obtain ⟨ih0,ih1,ih2⟩:=madrigallaw12_LevinNothing.mono_l k
 unfold madrigallaw12_LevinNothing.f
 repeat' first|(with_reducible first|exact ih0 _ _ _|exact ih1 _ _ _|exact ih2 _ _ _ _ _ _ _|exact levin_Power.mono _ _|exact levin_Rest.mono _ _ _|exact madrigallaw12_awake.mono _|exact madrigallaw12_same.mono _ _ _|exact LeO.refl _|exact LeO.none _|refine LeO.ite ?_ ?_|refine LeO.bind ?_ (fun _ => ?_))|exact ih0 _ _ _|exact ih1 _ _ _|exact ih2 _ _ _ _ _ _ _|exact levin_Power.mono _ _|exact levin_Rest.mono _ _ _|exact madrigallaw12_awake.mono _|exact madrigallaw12_same.mono _ _ _|exact LeO.none _|refine LeO.ite ?_ ?_|refine LeO.bind ?_ (fun _ => ?_)
set_option maxHeartbeats 8000000 in
set_option maxRecDepth 100000 in
theorem madrigallaw12_LevinNothing.calls (k : Nat) (A0 : Option Addr) (c0 : Nat) (l0 : List Int) (a1 : Int) (r : Bool) (w : World) (hr0 : Kd.C (Kd.int .i64) w A0 l0.length l0) (hc0 : l0.length ≤ c0) (h : madrigallaw12_LevinNothing.f k l0 a1 = some r) :
  Calls Try.prog 7 #[.slice A0 l0.length c0,.int .i64 a1] w fun e w' => e = .returned (.bool r) ∧ Below w.heap.size w w':=by
 have HR0:=ak_ hr0
 have HC0:=ak_ hc0
 clear hr0 hc0
 have HB:=ak_ (Below.refl w.heap.size w)
 have H : ((madrigallaw12_awake.f k).bind fun t730 => (if t730 = true then (if (l0.length : Int) > 400 then (madrigallaw12_LevinNothing.j0 k l0 a1 true) else (if a1 < 0 then (madrigallaw12_LevinNothing.j0 k l0 a1 true) else (madrigallaw12_LevinNothing.j0 k l0 a1 (decide (a1 > 32))))) else (none))) = some r:=h
 clear h
 replace H:=Option.bind_eq_some_iff.mp H
 obtain ⟨t730,A30,H⟩:=H
 (try dsimp only at H)
 have A3:=ak_ A30
 clear A30
 by_cases c4 : t730 = true
 ·subst c4
  have H1 : (if (l0.length : Int) > 400 then (madrigallaw12_LevinNothing.j0 k l0 a1 true) else (if a1 < 0 then (madrigallaw12_LevinNothing.j0 k l0 a1 true) else (madrigallaw12_LevinNothing.j0 k l0 a1 (decide (a1 > 32))))) = some r:=by rw [if_pos rfl] at H;exact H
  clear H
  have H:=H1
  clear H1
  have HC5:=ak_ H
  clear H
  go_enter Try.func7,Try.ntmps7
  go_upto_region 3 with (first|((with_reducible refine gate_callee (f:=10) rfl ?_);refine goesL_ (some 12) rfl rfl Try.func10 (by kernel_rfl) rfl #[] rfl (by (try simp only [List.map_toArray,List.map_cons,List.map_nil]);first|done|rfl|(simp only [List.length_drop,List.length_take];rfl)) ?_;(with_reducible refine (madrigallaw12_awake.calls k  true _ A3.out).mono ?_);rintro e w6 ⟨rfl,hb⟩;refine ⟨_,rfl,?_⟩;have n0_:=ak_ (below_step (by repeat (first|(with_reducible first|exact HB.out|apply ba_|apply bb_|apply bc_)|exact HB.out)) hb);clear HB;have HB:=n0_;clear n0_;(try clear hb)))
  (try simp only [Act.put,List.setIfInBounds_toArray,List.set_cons_zero,List.set_cons_succ])
  go_cut [24] (fun v24 wc => ∃ (kq : Nat) (x24_4 : Bool),v24 = .bool x24_4 ∧ Aside0 (madrigallaw12_LevinNothing.j0 kq l0 a1 x24_4 = some r) ∧ Aside0 (kq ≤ k) ∧ Aside0 (Below w.heap.size w wc))
  case first =>
   have H:=HC5.out
   clear HC5
   by_cases c7 : (l0.length : Int) > 400
   ·rw [if_pos c7] at H
    have c7b0 : decide (400 < (l0.length : Int)) = true:=decide_eq_true c7
    have c7b1 : decide (400 < l0.length) = true:=decide_eq_true (by omega)
    clear c7
    (first|rw [c7b0]|(simp only [i64_w,i32_w];rw [c7b0])|skip)
    have H':=ak_ H
    clear H
    go_wp2
    refine Met.intro ?_
    go_step
    (repeat apply Exists.intro)
    first|refine ⟨?rel64,rfl⟩|(refine ⟨?rel64,?st64⟩;case' st64 => (first|rw [c7b0]|simp only [c7b0]))
    case rel64 => exact ⟨_,(true),(by first|rfl|(simp;done)|(simp [*];done)),H',⟨by first|omega|exact Nat.le_refl _⟩,⟨by repeat (first|(with_reducible first|exact HB.out|apply ba_|apply bb_|apply bc_)|exact HB.out)⟩⟩
   ·rw [if_neg c7] at H
    have c7b0 : decide (400 < (l0.length : Int)) = false:=decide_eq_false c7
    have c7b1 : decide (400 < l0.length) = false:=decide_eq_false (by omega)
    clear c7
    (first|rw [c7b0]|(simp only [i64_w,i32_w];rw [c7b0])|skip)
    by_cases c8 : a1 < 0
    ·rw [if_pos c8] at H
     have c8b0:=decide_eq_true c8
     clear c8
     have H':=ak_ H
     clear H
     go_wp2
     refine Met.intro ?_
     go_step
     (repeat apply Exists.intro)
     first|refine ⟨?rel78,rfl⟩|(refine ⟨?rel78,?st78⟩;case' st78 => (first|rw [c8b0]|simp only [c8b0]))
     case rel78 => exact ⟨_,(true),(by first|rfl|(simp;done)|(simp [*];done)),H',⟨by first|omega|exact Nat.le_refl _⟩,⟨by repeat (first|(with_reducible first|exact HB.out|apply ba_|apply bb_|apply bc_)|exact HB.out)⟩⟩
    ·rw [if_neg c8] at H
     have c8b0:=decide_eq_false c8
     clear c8
     have H':=ak_ H
     clear H
     go_wp2
     refine Met.intro ?_
     go_step
     (repeat apply Exists.intro)
     first|refine ⟨?rel86,rfl⟩|(refine ⟨?rel86,?st86⟩;case' st86 => (first|rw [c8b0]|simp only [c8b0]))
     case rel86 => exact ⟨_,(decide (a1 > 32)),(by first|rfl|(simp;done)|(simp [*];done)),H',⟨by first|omega|exact Nat.le_refl _⟩,⟨by repeat (first|(with_reducible first|exact HB.out|apply ba_|apply bb_|apply bc_)|exact HB.out)⟩⟩
  case rest =>
   clear HC5
   try clear c1
   try clear p2
   try clear c4
   try clear c7
   try clear c7b0
   try clear c7b1
   try clear c8
   try clear c8b0
   obtain ⟨kq,x24_4,rfl,HA,HJ4,HB⟩:=hcut
   (try simp only [i64_w,i32_w])
   cases kq with
   | zero => exact absurd HA.out (by simp [madrigallaw12_LevinNothing.j0])
   | succ kj4 =>
    have H:=HA.out
    clear HA
    simp only [madrigallaw12_LevinNothing.j0] at H
    by_cases c9 : x24_4 = true
    ·subst c9
     have H1 : (some true) = some r:=by rw [if_pos rfl] at H;exact H
     clear H
     have H:=H1
     clear H1
     obtain rfl:=Option.some.inj H
     go_wp2
     go_ret
     exact ⟨by first|rfl|(simp [errW_none,errW_some] <;> rfl)|(simp [*,errW_none,errW_some] <;> rfl),by repeat (first|(with_reducible first|exact HB.out|apply ba_|apply bb_|apply bc_)|exact HB.out)⟩
    ·replace c9:=Bool.eq_false_iff.mpr c9
     subst c9
     have H1 : (madrigallaw12_LevinNothing.l0 kj4 l0 a1 0) = some r:=by rw [if_neg (show ¬ (false = true) by decide)] at H;exact H
     clear H
     have H:=H1
     clear H1
     have H':=ak_ H
     clear H
     go_wp2
     go_loopg [5] kj4 (fun kq v5 w' => ∃ (x5_2 : Int),v5 = .int .i64 x5_2 ∧ Aside0 (madrigallaw12_LevinNothing.l0 kq l0 a1 x5_2 = some r) ∧ Aside0 (kq ≤ kj4) ∧ Aside0 (Below w.heap.size w w'))
     case atStart => exact ⟨(0),(by first|rfl|(simp;done)|(simp [*];done)),H',⟨Nat.le_refl _⟩,⟨by repeat (first|(with_reducible first|exact HB.out|apply ba_|apply bb_|apply bc_)|exact HB.out)⟩⟩
     case round =>
      clear H'
      try clear c1
      try clear p2
      try clear c4
      try clear c7
      try clear c7b0
      try clear c7b1
      try clear c8
      try clear c8b0
      try clear c9
      try clear p2
      obtain ⟨x5_2,rfl,HA,HK2,HB⟩:=hrel
      (try simp only [i64_w,i32_w])
      cases gk with
      | zero => exact absurd HA.out (by simp [madrigallaw12_LevinNothing.l0])
      | succ k2 =>
       have H:=HA.out
       clear HA
       simp only [madrigallaw12_LevinNothing.l0] at H
       by_cases c10 : x5_2 < (l0.length : Int)
       ·rw [if_pos c10] at H
        have c10b0:=decide_eq_true c10
        clear c10
        by_cases c11 : 0 ≤ x5_2
        ·rw [if_pos c11] at H
         have c11b0:=decide_eq_true c11
         clear c11
         by_cases c12 : (rd l0 x5_2) < (-16383)
         ·rw [if_pos c12] at H
          have c12b0:=decide_eq_true c12
          clear c12
          obtain rfl:=Option.some.inj H
          have p731 : 0 ≤ (x5_2 : Int):=of_decide_eq_true (by first|(with_reducible assumption)|assumption)
          have q731 : x5_2 < (l0.length : Int):=of_decide_eq_true (by first|(with_reducible assumption)|assumption)
          obtain ⟨ad731,e731,hx731_0⟩:=Kd.at_int HR0.out x5_2 p731 q731
          cases e731
          replace hx731_0:=(HB.out.cell (World.block_lt_of_cell? w _ hx731_0)).trans hx731_0
          replace p731:=eq_true p731
          replace q731:=eq_true q731
          go_wp2
          go_ret
          exact ⟨by first|rfl|(simp [errW_none,errW_some] <;> rfl)|(simp [*,errW_none,errW_some] <;> rfl),by repeat (first|(with_reducible first|exact HB.out|apply ba_|apply bb_|apply bc_)|exact HB.out)⟩
         ·rw [if_neg c12] at H
          have c12b0:=decide_eq_false c12
          clear c12
          by_cases c13 : (rd l0 x5_2) > 16383
          ·rw [if_pos c13] at H
           have c13b0 : decide (16383 < (rd l0 x5_2)) = true:=decide_eq_true c13
           clear c13
           obtain rfl:=Option.some.inj H
           have p731 : 0 ≤ (x5_2 : Int):=of_decide_eq_true (by first|(with_reducible assumption)|assumption)
           have q731 : x5_2 < (l0.length : Int):=of_decide_eq_true (by first|(with_reducible assumption)|assumption)
           obtain ⟨ad731,e731,hx731_0⟩:=Kd.at_int HR0.out x5_2 p731 q731
           cases e731
           replace hx731_0:=(HB.out.cell (World.block_lt_of_cell? w _ hx731_0)).trans hx731_0
           replace p731:=eq_true p731
           replace q731:=eq_true q731
           have p732 : 0 ≤ (x5_2 : Int):=of_decide_eq_true (by first|(with_reducible assumption)|assumption)
           have q732 : x5_2 < (l0.length : Int):=of_decide_eq_true (by first|(with_reducible assumption)|assumption)
           obtain ⟨ad732,e732,hx732_0⟩:=Kd.at_int HR0.out x5_2 p732 q732
           obtain rfl : ad731 = ad732:=(by injection e732)
           replace hx732_0:=(HB.out.cell (World.block_lt_of_cell? w _ hx732_0)).trans hx732_0
           replace p732:=eq_true p732
           replace q732:=eq_true q732
           go_wp2
           go_ret
           exact ⟨by first|rfl|(simp [errW_none,errW_some] <;> rfl)|(simp [*,errW_none,errW_some] <;> rfl),by repeat (first|(with_reducible first|exact HB.out|apply ba_|apply bb_|apply bc_)|exact HB.out)⟩
          ·rw [if_neg c13] at H
           have c13b0 : decide (16383 < (rd l0 x5_2)) = false:=decide_eq_false c13
           clear c13
           have H':=ak_ H
           clear H
           have p731 : 0 ≤ (x5_2 : Int):=of_decide_eq_true (by first|(with_reducible assumption)|assumption)
           have q731 : x5_2 < (l0.length : Int):=of_decide_eq_true (by first|(with_reducible assumption)|assumption)
           obtain ⟨ad731,e731,hx731_0⟩:=Kd.at_int HR0.out x5_2 p731 q731
           cases e731
           replace hx731_0:=(HB.out.cell (World.block_lt_of_cell? w _ hx731_0)).trans hx731_0
           replace p731:=eq_true p731
           replace q731:=eq_true q731
           have p732 : 0 ≤ (x5_2 : Int):=of_decide_eq_true (by first|(with_reducible assumption)|assumption)
           have q732 : x5_2 < (l0.length : Int):=of_decide_eq_true (by first|(with_reducible assumption)|assumption)
           obtain ⟨ad732,e732,hx732_0⟩:=Kd.at_int HR0.out x5_2 p732 q732
           obtain rfl : ad731 = ad732:=(by injection e732)
           replace hx732_0:=(HB.out.cell (World.block_lt_of_cell? w _ hx732_0)).trans hx732_0
           replace p732:=eq_true p732
           replace q732:=eq_true q732
           go_wp2
           go_roundg k2
           case measure => have:=HJ4.out;have:=HK2.out;omega
           case rel => exact ⟨(wrap64 (x5_2 + 1)),(by first|rfl|(simp;done)|(simp [*];done)),H',⟨by have:=HJ4.out;have:=HK2.out;omega⟩,⟨by repeat (first|(with_reducible first|exact HB.out|apply ba_|apply bb_|apply bc_)|exact HB.out)⟩⟩
        ·rw [if_neg c11] at H
         exact absurd H (by simp)
       ·rw [if_neg c10] at H
        have c10b0:=decide_eq_false c10
        clear c10
        by_cases c14 : 0 ≤ a1
        ·rw [if_pos c14] at H
         have c14b0:=eq_true c14
         have c14b1 : decide (0 ≤ a1) = true:=decide_eq_true c14
         clear c14
         by_cases c15 : (a1 : Int).toNat ≤ 35184372088832
         ·rw [if_pos c15] at H
          have c15b0:=eq_true c15
          have c15b1 : decide ((a1 : Int).toNat ≤ 35184372088832) = true:=decide_eq_true c15
          clear c15
          obtain ⟨y733,hy733⟩ : ∃ y_ : List Int,y_ = (List.replicate (a1 : Int).toNat 0):=⟨_,rfl⟩
          replace H : ((levin_Rest.f k2 l0 y733).bind fun bt736 => (if 0 ≤ (l0.length : Int) then (if ((l0.length : Int) : Int).toNat ≤ 35184372088832 then ((levin_Rest.f k2 (List.replicate ((l0.length : Int) : Int).toNat 0) (([4000,(-900)] : List Int))).bind fun bt746 => (madrigallaw12_LevinNothing.l1 k2 l0 bt736.1 bt736.2 bt746.1 bt746.2 ([] : List Int) 0)) else (none)) else (none))) = some r:=by first|(rw [hy733];with_reducible exact H)|(have H2_:=(Option.bind_some _ _).symm.trans H;rw [hy733];with_reducible exact H2_)|(have H2_:=(Option.bind_some _ _).symm.trans H;with_reducible exact H2_)|with_reducible exact H|(rw [hy733];exact H)|exact H
          have Ny733:=ak_ hy733
          clear hy733
          replace H:=Option.bind_eq_some_iff.mp H
          obtain ⟨⟨t736,t737⟩,A160,H⟩:=H
          (try dsimp only at H)
          have A16:=ak_ A160
          clear A160
          by_cases c17 : 0 ≤ (l0.length : Int)
          ·rw [if_pos c17] at H
           have c17b0:=eq_true c17
           have c17b1 : decide (0 ≤ (l0.length : Int)) = true:=decide_eq_true c17
           clear c17
           by_cases c18 : ((l0.length : Int) : Int).toNat ≤ 35184372088832
           ·rw [if_pos c18] at H
            have c18b0:=eq_true c18
            have c18b1 : decide (((l0.length : Int) : Int).toNat ≤ 35184372088832) = true:=decide_eq_true c18
            clear c18
            obtain ⟨y740,hy740⟩ : ∃ y_ : List Int,y_ = (List.replicate ((l0.length : Int) : Int).toNat 0):=⟨_,rfl⟩
            replace H : ((levin_Rest.f k2 y740 (([4000,(-900)] : List Int))).bind fun bt746 => (madrigallaw12_LevinNothing.l1 k2 l0 t736 t737 bt746.1 bt746.2 ([] : List Int) 0)) = some r:=by first|(rw [hy740];with_reducible exact H)|(have H2_:=(Option.bind_some _ _).symm.trans H;rw [hy740];with_reducible exact H2_)|(have H2_:=(Option.bind_some _ _).symm.trans H;with_reducible exact H2_)|with_reducible exact H|(rw [hy740];exact H)|exact H
            have Ny740:=ak_ hy740
            clear hy740
            obtain ⟨y743,hy743⟩ : ∃ y_ : List Int,y_ = (([4000,(-900)] : List Int)):=⟨_,rfl⟩
            replace H : ((levin_Rest.f k2 y740 y743).bind fun bt746 => (madrigallaw12_LevinNothing.l1 k2 l0 t736 t737 bt746.1 bt746.2 ([] : List Int) 0)) = some r:=by first|(rw [hy743];with_reducible exact H)|(have H2_:=(Option.bind_some _ _).symm.trans H;rw [hy743];with_reducible exact H2_)|(have H2_:=(Option.bind_some _ _).symm.trans H;with_reducible exact H2_)|with_reducible exact H|(rw [hy743];exact H)|exact H
            have Ny743:=ak_ hy743
            clear hy743
            replace H:=Option.bind_eq_some_iff.mp H
            obtain ⟨⟨t746,t747⟩,A190,H⟩:=H
            (try dsimp only at H)
            have A19:=ak_ A190
            clear A190
            have H':=ak_ H
            clear H
            go_wp2_with (first|((with_reducible refine gate_dst (N:=46) rfl ?_);(try (refine gate_guard (by rfl) ?_;dsimp only));refine Kd.R_make (Kd.int .i64) _ 2 rfl (N:=46) rfl 23 _ _ rfl a1 rfl rfl Try.underlying23 (.int .i64 0) 8 info2 rfl (by decide) (by omega) 0 (ok:=fun _ => True) (okp:=fun _ => True) rfl (fun _ hk => hk) trivial (of_decide_eq_true (by first|(with_reducible assumption)|assumption)) (Nat.le_trans (Nat.mul_le_mul_right _ (of_decide_eq_true (by first|(with_reducible assumption)|assumption) : a1.toNat ≤ 35184372088832)) (by omega)) (Below.refl _ _) (Nat.le_refl _) ?_;intro v734 w20 ho21 hb hg_ hnew_;clear hg_ hnew_;(first|rw [← Ny733.out] at ho21|(simp only [Int.reduceToNat] at ho21;rw [← Ny733.out] at ho21));have n0_:=ak_ (Kd.R_lower ho21 (below_size (by repeat (first|(with_reducible first|exact HB.out|apply ba_|apply bb_|apply bc_)|exact HB.out))));have n1_:=ak_ (below_step (by repeat (first|(with_reducible first|exact HB.out|apply ba_|apply bb_|apply bc_)|exact HB.out)) hb);clear HB;have HO735:=n0_;have HB:=n1_;clear n0_ n1_;clear hb ho21;obtain ⟨Ao22,co22,eo22⟩:=Kd.R_slice HO735.out;subst eo22)|((with_reducible refine gate_callee (f:=13) rfl ?_);refine goesL_ (some 47) rfl rfl Try.func13 (by kernel_rfl) rfl #[.slice A0 l0.length c0,.slice Ao22 y733.length co22] rfl (by (try simp only [List.map_toArray,List.map_cons,List.map_nil]);first|done|rfl|(simp only [List.length_drop,List.length_take];rfl)) ?_;(with_reducible refine (levin_Rest.calls k2 _ _ l0 _ _ y733 t736 t737 _ ?side1 ?side2 ?side3 ?side4 A16.out).mono ?_);(case side1 => repeat (first|exact (Kd.C_below HR0.out HB.out)|(with_reducible refine Kd.C_alloc ?_ _)|(with_reducible refine Kd.C_drewN ?_ _)|(with_reducible refine Kd.C_drew ?_)));(case side2 => exact HC0.out);(case side3 => repeat (first|exact (Kd.R_reads' HO735.out).2.2|(with_reducible refine Kd.C_alloc ?_ _)|(with_reducible refine Kd.C_drewN ?_ _)|(with_reducible refine Kd.C_drew ?_)));(case side4 => exact (Kd.R_reads' HO735.out).2.1);rintro e w23 ⟨v738,rfl,ho0,hb⟩;refine ⟨_,rfl,?_⟩;have n0_:=ak_ (Kd.R_elder' (by (with_reducible repeat (first|apply ra_|apply rb_|apply rc_));exact HO735.out) (Kd.R_base ho0) hb);have n1_:=ak_ (Kd.R_lower (Kd.R_new' ho0 (Kd.R_lt (by (with_reducible repeat (first|apply ra_|apply rb_|apply rc_));exact HO735.out))) (below_size (by repeat (first|(with_reducible first|exact HB.out|apply ba_|apply bb_|apply bc_)|exact HB.out))));have n2_:=ak_ (below_step (by repeat (first|(with_reducible first|exact HB.out|apply ba_|apply bb_|apply bc_)|exact HB.out)) hb);clear HO735;clear HB;have HO735:=n0_;have HO739:=n1_;have HB:=n2_;clear n0_ n1_ n2_;(try clear hb);(try clear ho0))|((with_reducible refine gate_dst (N:=53) rfl ?_);(try (refine gate_guard (by rfl) ?_;dsimp only));refine Kd.R_make (Kd.int .i64) _ 2 rfl (N:=53) rfl 23 _ _ rfl (l0.length : Int) rfl rfl Try.underlying23 (.int .i64 0) 8 info2 rfl (by decide) (by omega) 0 (ok:=fun _ => True) (okp:=fun _ => True) rfl (fun _ hk => hk) trivial (of_decide_eq_true (by first|(with_reducible assumption)|assumption)) (Nat.le_trans (Nat.mul_le_mul_right _ (of_decide_eq_true (by first|(with_reducible assumption)|assumption) : (l0.length : Int).toNat ≤ 35184372088832)) (by omega)) (Below.refl _ _) (Nat.le_refl _) ?_;intro v741 w24 ho25 hb hg_ hnew_;clear hg_ hnew_;(first|rw [← Ny740.out] at ho25|(simp only [Int.reduceToNat] at ho25;rw [← Ny740.out] at ho25));have n0_:=ak_ (Kd.R_elder' (by (with_reducible repeat (first|apply ra_|apply rb_|apply rc_));exact HO735.out) (Kd.R_base ho25) hb);have n1_:=ak_ (Kd.R_elder' (by (with_reducible repeat (first|apply ra_|apply rb_|apply rc_));exact HO739.out) (Kd.R_base ho25) hb);have n2_:=ak_ (Kd.R_lower (Kd.R_new' (Kd.R_new' ho25 (Kd.R_lt (by (with_reducible repeat (first|apply ra_|apply rb_|apply rc_));exact HO735.out))) (Kd.R_lt (by (with_reducible repeat (first|apply ra_|apply rb_|apply rc_));exact HO739.out))) (below_size (by repeat (first|(with_reducible first|exact HB.out|apply ba_|apply bb_|apply bc_)|exact HB.out))));have n3_:=ak_ (below_step (by repeat (first|(with_reducible first|exact HB.out|apply ba_|apply bb_|apply bc_)|exact HB.out)) hb);clear HO735;clear HO739;clear HB;have HO735:=n0_;have HO739:=n1_;have HO742:=n2_;have HB:=n3_;clear n0_ n1_ n2_ n3_;clear hb ho25)|((with_reducible refine gate_dst (N:=54) rfl ?_);(try (refine gate_guard (by rfl) ?_;dsimp only));refine Kd.R_lit (Kd.int .i64) _ 2 ?hg (N:=54) ?hd (xs:=([4000,(-900)] : List Int)) (inner:=[.int .i64 4000,.int .i64 (-900)]) (ok:=fun _ => True) (okp:=fun _ => True) ?hr ?hp (fun _ hk => hk) trivial (Below.refl _ _) (Nat.le_refl _) (by simp) ?_;(case hd => rfl);(case hg => rfl);(case hr => first|(go_simp;done)|(go_simp;rfl));(case hp => exact (Reps.one (show Kd.M (Kd.int .i64) _ _ _ 4000 [.int .i64 4000] from rfl) (Reps.one (show Kd.M (Kd.int .i64) _ _ _ (-900) [.int .i64 (-900)] from rfl) (Reps.none _ _))));intro v744 w26 ho27 hb hg_ hnew_;clear hg_ hnew_;(first|rw [← Ny743.out] at ho27|(simp only [Int.reduceToNat] at ho27;rw [← Ny743.out] at ho27));have n0_:=ak_ (Kd.R_elder' (by (with_reducible repeat (first|apply ra_|apply rb_|apply rc_));exact HO735.out) (Kd.R_base ho27) hb);have n1_:=ak_ (Kd.R_elder' (by (with_reducible repeat (first|apply ra_|apply rb_|apply rc_));exact HO739.out) (Kd.R_base ho27) hb);have n2_:=ak_ (Kd.R_elder' (by (with_reducible repeat (first|apply ra_|apply rb_|apply rc_));exact HO742.out) (Kd.R_base ho27) hb);have n3_:=ak_ (Kd.R_lower (Kd.R_new' (Kd.R_new' (Kd.R_new' ho27 (Kd.R_lt (by (with_reducible repeat (first|apply ra_|apply rb_|apply rc_));exact HO735.out))) (Kd.R_lt (by (with_reducible repeat (first|apply ra_|apply rb_|apply rc_));exact HO739.out))) (Kd.R_lt (by (with_reducible repeat (first|apply ra_|apply rb_|apply rc_));exact HO742.out))) (below_size (by repeat (first|(with_reducible first|exact HB.out|apply ba_|apply bb_|apply bc_)|exact HB.out))));have n4_:=ak_ (below_step (by repeat (first|(with_reducible first|exact HB.out|apply ba_|apply bb_|apply bc_)|exact HB.out)) hb);clear HO735;clear HO739;clear HO742;clear HB;have HO735:=n0_;have HO739:=n1_;have HO742:=n2_;have HO745:=n3_;have HB:=n4_;clear n0_ n1_ n2_ n3_ n4_;clear hb ho27;obtain ⟨Ao28,co28,eo28⟩:=Kd.R_slice HO742.out;subst eo28;obtain ⟨Ao29,co29,eo29⟩:=Kd.R_slice HO745.out;subst eo29)|((with_reducible refine gate_callee (f:=13) rfl ?_);refine goesL_ (some 55) rfl rfl Try.func13 (by kernel_rfl) rfl #[.slice Ao28 y740.length co28,.slice Ao29 y743.length co29] rfl (by (try simp only [List.map_toArray,List.map_cons,List.map_nil]);first|done|rfl|(simp only [List.length_drop,List.length_take];rfl)) ?_;(with_reducible refine (levin_Rest.calls k2 _ _ y740 _ _ y743 t746 t747 _ ?side1 ?side2 ?side3 ?side4 A19.out).mono ?_);(case side1 => repeat (first|exact (Kd.R_reads' HO742.out).2.2|(with_reducible refine Kd.C_alloc ?_ _)|(with_reducible refine Kd.C_drewN ?_ _)|(with_reducible refine Kd.C_drew ?_)));(case side2 => exact (Kd.R_reads' HO742.out).2.1);(case side3 => repeat (first|exact (Kd.R_reads' HO745.out).2.2|(with_reducible refine Kd.C_alloc ?_ _)|(with_reducible refine Kd.C_drewN ?_ _)|(with_reducible refine Kd.C_drew ?_)));(case side4 => exact (Kd.R_reads' HO745.out).2.1);rintro e w30 ⟨v748,rfl,ho0,hb⟩;refine ⟨_,rfl,?_⟩;have n0_:=ak_ (Kd.R_elder' (by (with_reducible repeat (first|apply ra_|apply rb_|apply rc_));exact HO735.out) (Kd.R_base ho0) hb);have n1_:=ak_ (Kd.R_elder' (by (with_reducible repeat (first|apply ra_|apply rb_|apply rc_));exact HO739.out) (Kd.R_base ho0) hb);have n2_:=ak_ (Kd.R_elder' (by (with_reducible repeat (first|apply ra_|apply rb_|apply rc_));exact HO742.out) (Kd.R_base ho0) hb);have n3_:=ak_ (Kd.R_elder' (by (with_reducible repeat (first|apply ra_|apply rb_|apply rc_));exact HO745.out) (Kd.R_base ho0) hb);have n4_:=ak_ (Kd.R_lower (Kd.R_new' (Kd.R_new' (Kd.R_new' (Kd.R_new' ho0 (Kd.R_lt (by (with_reducible repeat (first|apply ra_|apply rb_|apply rc_));exact HO735.out))) (Kd.R_lt (by (with_reducible repeat (first|apply ra_|apply rb_|apply rc_));exact HO739.out))) (Kd.R_lt (by (with_reducible repeat (first|apply ra_|apply rb_|apply rc_));exact HO742.out))) (Kd.R_lt (by (with_reducible repeat (first|apply ra_|apply rb_|apply rc_));exact HO745.out))) (below_size (by repeat (first|(with_reducible first|exact HB.out|apply ba_|apply bb_|apply bc_)|exact HB.out))));have n5_:=ak_ (below_step (by repeat (first|(with_reducible first|exact HB.out|apply ba_|apply bb_|apply bc_)|exact HB.out)) hb);clear HO735;clear HO739;clear HO742;clear HO745;clear HB;have HO735:=n0_;have HO739:=n1_;have HO742:=n2_;have HO745:=n3_;have HO749:=n4_;have HB:=n5_;clear n0_ n1_ n2_ n3_ n4_ n5_;(try clear hb);(try clear ho0)))
            go_loopg [10,11] k2 (fun kq v10 v11 w' => ∃ (x10_3 : List Int) (x11_3 : Int),v11 = .int .i64 x11_3 ∧ Aside0 (madrigallaw12_LevinNothing.l1 kq l0 t736 t737 t746 t747 x10_3 x11_3 = some r) ∧ Aside0 (kq ≤ k2) ∧ Aside0 (Kd.R (Kd.int .i64) 2 w' w.heap.size (fun k_ => some k_ ≠ (v748 : Value).ownBlock ∧ some k_ ≠ (v10 : Value).ownBlock) v738 t736) ∧ Aside0 (Kd.R (Kd.int .i64) 2 w' w.heap.size (fun k_ => some k_ ≠ (v738 : Value).ownBlock ∧ some k_ ≠ (v10 : Value).ownBlock) v748 t746) ∧ Aside0 (Kd.R (Kd.int .i64) 2 w' w.heap.size (fun k_ => some k_ ≠ (v738 : Value).ownBlock ∧ some k_ ≠ (v748 : Value).ownBlock) v10 x10_3) ∧ Aside0 (Below w.heap.size w w'))
            case atStart => exact ⟨(([] : List Int)),(0),(by first|rfl|(simp;done)|(simp [*];done)),H',⟨Nat.le_refl _⟩,⟨by (with_reducible repeat (first|apply ra_|apply rb_|apply rc_));exact Kd.R_mono HO739.out (fun _ hk => ⟨hk.2,(by simp [Value.ownBlock])⟩)⟩,⟨by (with_reducible repeat (first|apply ra_|apply rb_|apply rc_));exact Kd.R_mono HO749.out (fun _ hk => ⟨hk.1.1.2,(by simp [Value.ownBlock])⟩)⟩,⟨by first|exact Kd.R_nil _ _ _ _ _|exact Kd.N_nil _ _ _ _ _|exact Kd.V_nil _ _ _ _ _|exact Kd.Q_nil _ _ _ _ _|exact Kd.S_nil _ _ _ _ _⟩,⟨by repeat (first|(with_reducible first|exact HB.out|apply ba_|apply bb_|apply bc_)|exact HB.out)⟩⟩
            case round =>
             clear H'
             try clear c1
             try clear p2
             try clear c4
             try clear p6
             try clear c7
             try clear c7b0
             try clear c7b1
             try clear p7
             try clear q7
             try clear hx7
             try clear c8
             try clear c8b0
             try clear c9
             try clear c10
             try clear c10b0
             try clear c11
             try clear c11b0
             try clear c12
             try clear c12b0
             try clear c13
             try clear c13b0
             try clear c14
             try clear c14b0
             try clear c14b1
             try clear c15
             try clear c15b0
             try clear c15b1
             try clear c17
             try clear c17b0
             try clear c17b1
             try clear c18
             try clear c18b0
             try clear c18b1
             try clear hx731_0
             try clear hx732_0
             try clear p2
             try clear p731
             try clear p732
             try clear q731
             try clear q732
             obtain ⟨x10_3,x11_3,rfl,HA,HK3,HO_6,HO_8,HO_10,HB⟩:=hrel
             (try simp only [i64_w,i32_w])
             cases gk with
             | zero => exact absurd HA.out (by simp [madrigallaw12_LevinNothing.l1])
             | succ k3 =>
              have H:=HA.out
              clear HA
              simp only [madrigallaw12_LevinNothing.l1] at H
              by_cases c31 : x11_3 < (l0.length : Int)
              ·rw [if_pos c31] at H
               have c31b0:=decide_eq_true c31
               clear c31
               by_cases c32 : 0 ≤ x11_3
               ·rw [if_pos c32] at H
                have c32b0:=decide_eq_true c32
                clear c32
                by_cases c33 : x10_3.length < 17592186044416
                ·rw [if_pos c33] at H
                 have LMc33:=ak_ c33
                 clear c33
                 obtain ⟨y751,hy751⟩ : ∃ y_ : List Int,y_ = (x10_3 ++ [wrap64 (2 * (rd l0 x11_3))]):=⟨_,rfl⟩
                 replace H : (madrigallaw12_LevinNothing.l1 k3 l0 t736 t737 t746 t747 y751 (wrap64 (x11_3 + 1))) = some r:=by first|(rw [hy751];with_reducible exact H)|(have H2_:=(Option.bind_some _ _).symm.trans H;rw [hy751];with_reducible exact H2_)|(have H2_:=(Option.bind_some _ _).symm.trans H;with_reducible exact H2_)|with_reducible exact H|(rw [hy751];exact H)|exact H
                 have Ny751:=ak_ hy751
                 clear hy751
                 have H':=ak_ H
                 clear H
                 have p750 : 0 ≤ (x11_3 : Int):=of_decide_eq_true (by first|(with_reducible assumption)|assumption)
                 have q750 : x11_3 < (l0.length : Int):=of_decide_eq_true (by first|(with_reducible assumption)|assumption)
                 obtain ⟨ad750,e750,hx750_0⟩:=Kd.at_int HR0.out x11_3 p750 q750
                 cases e750
                 replace hx750_0:=(HB.out.cell (World.block_lt_of_cell? w _ hx750_0)).trans hx750_0
                 replace p750:=eq_true p750
                 replace q750:=eq_true q750
                 go_wp2_with (first|((with_reducible refine gate_builtin (b:=.append) (xs:=#[.tmp 64,.tmp 70]) rfl ?_);(try (refine gate_guard (by rfl) ?_;dsimp only));at_builtin;refine Kd.R_append (Kd.int .i64) (w0:=w) w.heap.size rfl (.tmp 64) (.tmp 70) 23 2 (.int .i64 0) 8 rfl Try.underlying23 info2 rfl (by decide) (by omega) u10 x10_3 (wrap64 (2 * (rd l0 x11_3))) [.int .i64 (wrap64 (2 * (rd l0 x11_3)))] (fun k_ => some k_ ≠ (v738 : Value).ownBlock ∧ some k_ ≠ (v748 : Value).ownBlock) (fun _ => False) rfl rfl ?aP (fun _ hk => hk.elim) ?aF ?aO ?aB ?aS ?aL ?_;(case aP => exact rfl);(case aB => exact (by repeat (first|(with_reducible first|exact HB.out|apply ba_|apply bb_|apply bc_)|exact HB.out)));(case aF => exact (fun k_ hk => ⟨Kd.fresh' (Kd.R_lt (by (with_reducible repeat (first|apply ra_|apply rb_|apply rc_));exact HO_6.out)) k_ hk,Kd.fresh' (Kd.R_lt (by (with_reducible repeat (first|apply ra_|apply rb_|apply rc_));exact HO_8.out)) k_ hk⟩));(case aO => exact (by (with_reducible repeat (first|apply ra_|apply rb_|apply rc_));exact HO_10.out));(case aS => exact (below_size (by repeat (first|(with_reducible first|exact HB.out|apply ba_|apply bb_|apply bc_)|exact HB.out))));(case aL => have:=LMc33.out;omega);intro v752 w34 ho hb hg hat;rw [← Ny751.out] at ho;have n0_:=ak_ (Kd.R_after (ok:=(fun k_ => some k_ ≠ (v748 : Value).ownBlock)) (by (with_reducible repeat (first|apply ra_|apply rb_|apply rc_));exact HO_6.out) hg hat);have n1_:=ak_ (Kd.R_after (ok:=(fun k_ => some k_ ≠ (v738 : Value).ownBlock)) (by (with_reducible repeat (first|apply ra_|apply rb_|apply rc_));exact HO_8.out) hg hat);have n2_:=ak_ (hb);have n3_:=ak_ (ho);clear HO_6;clear HO_8;clear HB;clear HO_10;have HO_6:=n0_;have HO_8:=n1_;have HB:=n2_;have HO753:=n3_;clear n0_ n1_ n2_ n3_;clear ho hb hg hat))
                 go_roundg k3
                 case measure => have:=HJ4.out;have:=HK2.out;have:=HK3.out;omega
                 case rel => exact ⟨(y751),(wrap64 (x11_3 + 1)),(by first|rfl|(simp;done)|(simp [*];done)),H',⟨by have:=HJ4.out;have:=HK2.out;have:=HK3.out;omega⟩,⟨by (with_reducible repeat (first|apply ra_|apply rb_|apply rc_));exact HO_6.out⟩,⟨by (with_reducible repeat (first|apply ra_|apply rb_|apply rc_));exact HO_8.out⟩,⟨by (with_reducible repeat (first|apply ra_|apply rb_|apply rc_));exact HO753.out⟩,⟨by repeat (first|(with_reducible first|exact HB.out|apply ba_|apply bb_|apply bc_)|exact HB.out)⟩⟩
                ·rw [if_neg c33] at H
                 exact absurd H (by simp)
               ·rw [if_neg c32] at H
                exact absurd H (by simp)
              ·rw [if_neg c31] at H
               have c31b0:=decide_eq_false c31
               clear c31
               by_cases c35 : t737 = 0
               ·rw [if_pos c35] at H
                have c35b0 : (t737 == 0) = true:=beq_iff_eq.mpr c35
                have c35b1 : (t737 != 0) = false:=bne_eq_false_iff_eq.mpr c35
                clear c35
                by_cases c36 : t747 = 0
                ·rw [if_pos c36] at H
                 have c36b0 : (t747 == 0) = true:=beq_iff_eq.mpr c36
                 have c36b1 : (t747 != 0) = false:=bne_eq_false_iff_eq.mpr c36
                 clear c36
                 replace H:=Option.bind_eq_some_iff.mp H
                 obtain ⟨t754,A370,H⟩:=H
                 (try dsimp only at H)
                 have A37:=ak_ A370
                 clear A370
                 by_cases c38 : t754 = true
                 ·subst c38
                  have H1 : (if 0 ≤ (l0.length : Int) then (if ((l0.length : Int) : Int).toNat ≤ 35184372088832 then ((madrigallaw12_same.f k3 t746 (List.replicate ((l0.length : Int) : Int).toNat 0)).bind fun t758 => (if t758 = true then ((levin_Power.f k3 x10_3).bind fun t759 => ((levin_Power.f k3 l0).bind fun t760 => (some (t759 == (wrap64 (4 * t760)))))) else (none))) else (none)) else (none)) = some r:=by rw [if_pos rfl] at H;exact H
                  clear H
                  have H:=H1
                  clear H1
                  by_cases c39 : 0 ≤ (l0.length : Int)
                  ·rw [if_pos c39] at H
                   have c39b0:=eq_true c39
                   have c39b1 : decide (0 ≤ (l0.length : Int)) = true:=decide_eq_true c39
                   clear c39
                   by_cases c40 : ((l0.length : Int) : Int).toNat ≤ 35184372088832
                   ·rw [if_pos c40] at H
                    have c40b0:=eq_true c40
                    have c40b1 : decide (((l0.length : Int) : Int).toNat ≤ 35184372088832) = true:=decide_eq_true c40
                    clear c40
                    obtain ⟨y755,hy755⟩ : ∃ y_ : List Int,y_ = (List.replicate ((l0.length : Int) : Int).toNat 0):=⟨_,rfl⟩
                    replace H : ((madrigallaw12_same.f k3 t746 y755).bind fun t758 => (if t758 = true then ((levin_Power.f k3 x10_3).bind fun t759 => ((levin_Power.f k3 l0).bind fun t760 => (some (t759 == (wrap64 (4 * t760)))))) else (none))) = some r:=by first|(rw [hy755];with_reducible exact H)|(have H2_:=(Option.bind_some _ _).symm.trans H;rw [hy755];with_reducible exact H2_)|(have H2_:=(Option.bind_some _ _).symm.trans H;with_reducible exact H2_)|with_reducible exact H|(rw [hy755];exact H)|exact H
                    have Ny755:=ak_ hy755
                    clear hy755
                    replace H:=Option.bind_eq_some_iff.mp H
                    obtain ⟨t758,A410,H⟩:=H
                    (try dsimp only at H)
                    have A41:=ak_ A410
                    clear A410
                    by_cases c42 : t758 = true
                    ·subst c42
                     have H1 : ((levin_Power.f k3 x10_3).bind fun t759 => ((levin_Power.f k3 l0).bind fun t760 => (some (t759 == (wrap64 (4 * t760)))))) = some r:=by rw [if_pos rfl] at H;exact H
                     clear H
                     have H:=H1
                     clear H1
                     replace H:=Option.bind_eq_some_iff.mp H
                     obtain ⟨t759,A430,H⟩:=H
                     (try dsimp only at H)
                     have A43:=ak_ A430
                     clear A430
                     replace H:=Option.bind_eq_some_iff.mp H
                     obtain ⟨t760,A440,H⟩:=H
                     (try dsimp only at H)
                     have A44:=ak_ A440
                     clear A440
                     obtain rfl:=Option.some.inj H
                     obtain ⟨Ao45,co45,eo45⟩:=Kd.R_slice HO_6.out
                     subst eo45
                     go_wp2_with (first|(go_at_call 15;(with_reducible refine (madrigallaw12_same.calls k3 _ _ t736 _ _ l0 true _ ?side1 ?side2 ?side3 ?side4 A37.out).mono ?_);(case side1 => repeat (first|exact (Kd.R_reads' HO_6.out).2.2|(with_reducible refine Kd.C_alloc ?_ _)|(with_reducible refine Kd.C_drewN ?_ _)|(with_reducible refine Kd.C_drew ?_)));(case side2 => exact (Kd.R_reads' HO_6.out).2.1);(case side3 => repeat (first|exact (Kd.C_below HR0.out HB.out)|(with_reducible refine Kd.C_alloc ?_ _)|(with_reducible refine Kd.C_drewN ?_ _)|(with_reducible refine Kd.C_drew ?_)));(case side4 => exact HC0.out);rintro e w' ⟨rfl,⟨nd,rfl⟩⟩)|((with_reducible refine gate_dst (N:=87) rfl ?_);(try (refine gate_guard (by rfl) ?_;dsimp only));refine Kd.R_make (Kd.int .i64) _ 2 rfl (N:=87) rfl 23 _ _ rfl (l0.length : Int) rfl rfl Try.underlying23 (.int .i64 0) 8 info2 rfl (by decide) (by omega) 0 (ok:=fun _ => True) (okp:=fun _ => True) rfl (fun _ hk => hk) trivial (of_decide_eq_true (by first|(with_reducible assumption)|assumption)) (Nat.le_trans (Nat.mul_le_mul_right _ (of_decide_eq_true (by first|(with_reducible assumption)|assumption) : (l0.length : Int).toNat ≤ 35184372088832)) (by omega)) (Below.refl _ _) (Nat.le_refl _) ?_;intro v756 w46 ho47 hb hg_ hnew_;clear hg_ hnew_;(first|rw [← Ny755.out] at ho47|(simp only [Int.reduceToNat] at ho47;rw [← Ny755.out] at ho47));have n0_:=ak_ (Kd.R_elder' (by (with_reducible repeat (first|apply ra_|apply rb_|apply rc_));exact HO_6.out) (Kd.R_base ho47) hb);have n1_:=ak_ (Kd.R_elder' (by (with_reducible repeat (first|apply ra_|apply rb_|apply rc_));exact HO_8.out) (Kd.R_base ho47) hb);have n2_:=ak_ (Kd.R_elder' (by (with_reducible repeat (first|apply ra_|apply rb_|apply rc_));exact HO_10.out) (Kd.R_base ho47) hb);have n3_:=ak_ (Kd.R_lower (Kd.R_new' (Kd.R_new' (Kd.R_new' ho47 (Kd.R_lt (by (with_reducible repeat (first|apply ra_|apply rb_|apply rc_));exact HO_6.out))) (Kd.R_lt (by (with_reducible repeat (first|apply ra_|apply rb_|apply rc_));exact HO_8.out))) (Kd.R_lt (by (with_reducible repeat (first|apply ra_|apply rb_|apply rc_));exact HO_10.out))) (below_size (by repeat (first|(with_reducible first|exact HB.out|apply ba_|apply bb_|apply bc_)|exact HB.out))));have n4_:=ak_ (below_step (by repeat (first|(with_reducible first|exact HB.out|apply ba_|apply bb_|apply bc_)|exact HB.out)) hb);clear HO_6;clear HO_8;clear HO_10;clear HB;have HO_6:=n0_;have HO_8:=n1_;have HO_10:=n2_;have HO757:=n3_;have HB:=n4_;clear n0_ n1_ n2_ n3_ n4_;clear hb ho47;obtain ⟨Ao48,co48,eo48⟩:=Kd.R_slice HO_8.out;subst eo48;obtain ⟨Ao49,co49,eo49⟩:=Kd.R_slice HO757.out;subst eo49)|(go_at_call 15;(with_reducible refine (madrigallaw12_same.calls k3 _ _ t746 _ _ y755 true _ ?side1 ?side2 ?side3 ?side4 A41.out).mono ?_);(case side1 => repeat (first|exact (Kd.R_reads' HO_8.out).2.2|(with_reducible refine Kd.C_alloc ?_ _)|(with_reducible refine Kd.C_drewN ?_ _)|(with_reducible refine Kd.C_drew ?_)));(case side2 => exact (Kd.R_reads' HO_8.out).2.1);(case side3 => repeat (first|exact (Kd.R_reads' HO757.out).2.2|(with_reducible refine Kd.C_alloc ?_ _)|(with_reducible refine Kd.C_drewN ?_ _)|(with_reducible refine Kd.C_drew ?_)));(case side4 => exact (Kd.R_reads' HO757.out).2.1);rintro e w' ⟨rfl,⟨nd,rfl⟩⟩;obtain ⟨Ao50,co50,eo50⟩:=Kd.R_slice HO_10.out;subst eo50)|(go_at_call 16;(with_reducible refine (levin_Power.calls k3 _ _ x10_3 t759 _ ?side1 ?side2 A43.out).mono ?_);(case side1 => repeat (first|exact (Kd.R_reads' HO_10.out).2.2|(with_reducible refine Kd.C_alloc ?_ _)|(with_reducible refine Kd.C_drewN ?_ _)|(with_reducible refine Kd.C_drew ?_)));(case side2 => exact (Kd.R_reads' HO_10.out).2.1);rintro e w51 ⟨rfl,hb⟩;have n0_:=ak_ (Kd.R_below (by (with_reducible repeat (first|apply ra_|apply rb_|apply rc_));exact HO_6.out) hb);have n1_:=ak_ (Kd.R_below (by (with_reducible repeat (first|apply ra_|apply rb_|apply rc_));exact HO_8.out) hb);have n2_:=ak_ (Kd.R_below (by (with_reducible repeat (first|apply ra_|apply rb_|apply rc_));exact HO_10.out) hb);have n3_:=ak_ (Kd.R_below (by (with_reducible repeat (first|apply ra_|apply rb_|apply rc_));exact HO757.out) hb);have n4_:=ak_ (below_step (by repeat (first|(with_reducible first|exact HB.out|apply ba_|apply bb_|apply bc_)|exact HB.out)) hb);clear HO_6;clear HO_8;clear HO_10;clear HO757;clear HB;have HO_6:=n0_;have HO_8:=n1_;have HO_10:=n2_;have HO757:=n3_;have HB:=n4_;clear n0_ n1_ n2_ n3_ n4_;(try clear hb))|(go_at_call 16;(with_reducible refine (levin_Power.calls k3 _ _ l0 t760 _ ?side1 ?side2 A44.out).mono ?_);(case side1 => repeat (first|exact (Kd.C_below HR0.out HB.out)|(with_reducible refine Kd.C_alloc ?_ _)|(with_reducible refine Kd.C_drewN ?_ _)|(with_reducible refine Kd.C_drew ?_)));(case side2 => exact HC0.out);rintro e w52 ⟨rfl,hb⟩;have n0_:=ak_ (Kd.R_below (by (with_reducible repeat (first|apply ra_|apply rb_|apply rc_));exact HO_6.out) hb);have n1_:=ak_ (Kd.R_below (by (with_reducible repeat (first|apply ra_|apply rb_|apply rc_));exact HO_8.out) hb);have n2_:=ak_ (Kd.R_below (by (with_reducible repeat (first|apply ra_|apply rb_|apply rc_));exact HO_10.out) hb);have n3_:=ak_ (Kd.R_below (by (with_reducible repeat (first|apply ra_|apply rb_|apply rc_));exact HO757.out) hb);have n4_:=ak_ (below_step (by repeat (first|(with_reducible first|exact HB.out|apply ba_|apply bb_|apply bc_)|exact HB.out)) hb);clear HO_6;clear HO_8;clear HO_10;clear HO757;clear HB;have HO_6:=n0_;have HO_8:=n1_;have HO_10:=n2_;have HO757:=n3_;have HB:=n4_;clear n0_ n1_ n2_ n3_ n4_;(try clear hb)))
                     go_ret
                     exact ⟨by first|rfl|(simp [errW_none,errW_some] <;> rfl)|(simp [*,errW_none,errW_some] <;> rfl),by repeat (first|(with_reducible first|exact HB.out|apply ba_|apply bb_|apply bc_)|exact HB.out)⟩
                    ·replace c42:=Bool.eq_false_iff.mpr c42
                     subst c42
                     have H1 : (none) = some r:=by rw [if_neg (show ¬ (false = true) by decide)] at H;exact H
                     clear H
                     have H:=H1
                     clear H1
                     exact absurd H (by simp)
                   ·rw [if_neg c40] at H
                    exact absurd H (by simp)
                  ·rw [if_neg c39] at H
                   exact absurd H (by simp)
                 ·replace c38:=Bool.eq_false_iff.mpr c38
                  subst c38
                  have H1 : (none) = some r:=by rw [if_neg (show ¬ (false = true) by decide)] at H;exact H
                  clear H
                  have H:=H1
                  clear H1
                  exact absurd H (by simp)
                ·rw [if_neg c36] at H
                 exact absurd H (by simp)
               ·rw [if_neg c35] at H
                exact absurd H (by simp)
           ·rw [if_neg c18] at H
            exact absurd H (by simp)
          ·rw [if_neg c17] at H
           exact absurd H (by simp)
         ·rw [if_neg c15] at H
          exact absurd H (by simp)
        ·rw [if_neg c14] at H
         exact absurd H (by simp)
 ·replace c4:=Bool.eq_false_iff.mpr c4
  subst c4
  have H1 : (none) = some r:=by rw [if_neg (show ¬ (false = true) by decide)] at H;exact H
  clear H
  have H:=H1
  clear H1
  exact absurd H (by simp)

/-- THE ONE PURE STATEMENT of madrigallaw12_LevinNothing. -/
def madrigallaw12_LevinNothing.Pure : Prop:=∀ (l0 : List Int) (a1 : Int),l0.length ≤ maxLen → l0.length * 8 ≤ 140737488351232 → (∀ x ∈ l0,(Lit.int .i64 x).wf = true) → (Lit.int .i64 a1).wf = true → ∃ k,madrigallaw12_LevinNothing.f k l0 a1 = some true
theorem madrigallaw12_LevinNothing.walk (P : madrigallaw12_LevinNothing.Pure) (a0 : Option Addr) (len0 cap0 : Nat) (z0 : List Int) (a1 : Int) (w : World) (w0 : (a0 = none ∧ len0 = 0 ∧ cap0 = 0 ∧ z0 = []) ∨ ∃ x,a0 = some x ∧ len0 ≤ cap0 ∧ cap0 ≤ maxLen ∧ z0.length = cap0 ∧ (∀ i,i < z0.length → w.cell? (x.add i) = some (.int .i64 (z0.getD i 0))) ∧ ∀ n ∈ z0,(Lit.int .i64 n).wf = true) (y0 : len0 * 8 ≤ 140737488351232) (w1 : (Lit.int .i64 a1).wf = true) :
  Calls Try.prog 7 #[.slice a0 len0 cap0,.int .i64 a1] w fun e w' => e = .returned (.bool true) ∧ Below w.heap.size w w':=by
 obtain ⟨l0,rfl,hr0,hm0,hw0,hc0⟩:=ReadsInt.ofRowC w0
 obtain ⟨k,h⟩:=P l0 a1 hm0 y0 hw0 w1
 refine (madrigallaw12_LevinNothing.calls k _ _ l0 a1 true w (Kd.C_of_reads (d:=(0 : Int)) (h1:=fun _ => rfl) hr0) hc0 h).mono ?_
 rintro e w' ⟨rfl,hd⟩
 exact ⟨rfl,hd⟩

end Go.Proofs.Ytllglpcpjeggcaa.P
