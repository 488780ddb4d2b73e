/- The machine side of the laws of one chapter, without conditions: each call of a Go function comes to what the Lean function of its name answers. Written for this claim by a program of the prover. -/
import Derived.Test.YtllglpcpjeggcaaPx0
import Derived.Test.YtllglpcpjeggcaaPx27
import Derived.Test.YtllglpcpjeggcaaPx30
namespace Go.Proofs.Ytllglpcpjeggcaa.P
open Go.RowKit Go.Proofs.YtllglpcpjeggcaaW.PrintWords Go.Proofs.YtllglpcpjeggcaaW.PrintLast Go.Proofs.YtllglpcpjeggcaaW.PrintMore
attribute [local go_sem] max2_int min2_int max_two min_two max_three min_three max_four min_four   -- for this text's walks alone
set_option linter.unusedVariables false
set_option linter.unusedSimpArgs false

/-! ### madrigalref1_Div: function 35 -/
def madrigalref1_Div.j0 : Nat → Int → Int → Int → Bool → Option (Int)
 | 0,_,_,_,_ => none
 | k + 1,x0,x1,x2,x20 => if x20 = true then (some 0) else (if x1 < 0 then (if 0 ≤ (IntKind.u64.wrap (x2)) then ((madrigalref1_Down.f (wrap64 ((wrap64 (-x0)) * (shl .i64 1 (IntKind.u64.wrap (x2))))) (wrap64 (-x1))).bind fun t458 => (some t458)) else (none)) else (if 0 ≤ (IntKind.u64.wrap (x2)) then ((madrigalref1_Down.f (wrap64 (x0 * (shl .i64 1 (IntKind.u64.wrap (x2))))) x1).bind fun t459 => (some t459)) else (none)))
def madrigalref1_Div.f (k : Nat) (a0 : Int) (a1 : Int) (a2 : Int) : Option (Int):=(madrigalref1_Clamp.f k a0 (-2147483648) 2147483648).bind fun t456 => ((madrigalref1_Clamp.f k a1 (-2147483648) 2147483648).bind fun t457 => (if t457 = 0 then (madrigalref1_Div.j0 k t456 t457 a2 true) else (if a2 < 0 then (madrigalref1_Div.j0 k t456 t457 a2 true) else (madrigalref1_Div.j0 k t456 t457 a2 (decide (a2 > 30))))))
theorem madrigalref1_Div.mono_l : ∀ k,(∀ y0 y1 y2 y3,LeO (madrigalref1_Div.j0 k y0 y1 y2 y3) (madrigalref1_Div.j0 (k + 1) y0 y1 y2 y3))
 | 0 => fun _ _ _ _ r h => by simp [madrigalref1_Div.j0] at h
 | k + 1 => by
  have ih0:=madrigalref1_Div.mono_l k
  all_goals (intros;first|unfold madrigalref1_Div.j0)
  all_goals (repeat' first|(with_reducible first|exact ih0 _ _ _ _|exact madrigalref1_Clamp.mono _ _ _ _|exact LeO.refl _|exact LeO.none _|refine LeO.ite ?_ ?_|refine LeO.bind ?_ (fun _ => ?_))|exact ih0 _ _ _ _|exact madrigalref1_Clamp.mono _ _ _ _|exact LeO.none _|refine LeO.ite ?_ ?_|refine LeO.bind ?_ (fun _ => ?_))
theorem madrigalref1_Div.mono : ∀ a0 a1 a2 k,LeO (madrigalref1_Div.f k a0 a1 a2) (madrigalref1_Div.f (k + 1) a0 a1 a2):=by
 intro a0 a1 a2 k
 have ih0:=madrigalref1_Div.mono_l k
 unfold madrigalref1_Div.f
 repeat' first|(with_reducible first|exact ih0 _ _ _ _|exact madrigalref1_Clamp.mono _ _ _ _|exact LeO.refl _|exact LeO.none _|refine LeO.ite ?_ ?_|refine LeO.bind ?_ (fun _ => ?_))|exact ih0 _ _ _ _|exact madrigalref1_Clamp.mono _ _ _ _|exact LeO.none _|refine LeO.ite ?_ ?_|refine LeO.bind ?_ (fun _ => ?_)
set_option maxHeartbeats 8000000 in
set_option maxRecDepth 100000 in
theorem madrigalref1_Div.calls (k : Nat) (a0 : Int) (a1 : Int) (a2 : Int) (r : Int) (w : World) (h : madrigalref1_Div.f k a0 a1 a2 = some r) :
  Calls Try.prog 35 #[.int .i64 a0,.int .i64 a1,.int .i64 a2] w fun e w' => e = .returned (.int .i64 r) ∧ Drawn0 w w':=by
 have H : ((madrigalref1_Clamp.f k a0 (-2147483648) 2147483648).bind fun t456 => ((madrigalref1_Clamp.f k a1 (-2147483648) 2147483648).bind fun t457 => (if t457 = 0 then (madrigalref1_Div.j0 k t456 t457 a2 true) else (if a2 < 0 then (madrigalref1_Div.j0 k t456 t457 a2 true) else (madrigalref1_Div.j0 k t456 t457 a2 (decide (a2 > 30))))))) = some r:=h
 clear h
 replace H:=Option.bind_eq_some_iff.mp H
 obtain ⟨t456,A40,H⟩:=H
 (try dsimp only at H)
 have A4:=ak_ A40
 clear A40
 replace H:=Option.bind_eq_some_iff.mp H
 obtain ⟨t457,A50,H⟩:=H
 (try dsimp only at H)
 have A5:=ak_ A50
 clear A50
 have HC6:=ak_ H
 clear H
 go_enter Try.func35,Try.ntmps35
 go_upto_region 3 with (first|((with_reducible refine gate_callee (f:=32) rfl ?_);refine goesL_ (some 8) rfl rfl Try.func32 (by kernel_rfl) rfl #[.int .i64 a0,.int .i64 (-2147483648),.int .i64 2147483648] rfl (by (try simp only [List.map_toArray,List.map_cons,List.map_nil]);first|done|rfl|(simp only [List.length_drop,List.length_take];rfl)) ?_;(with_reducible refine (madrigalref1_Clamp.calls k a0 (-2147483648) 2147483648 t456 _ A4.out).mono ?_);rintro e w' ⟨rfl,⟨nd,rfl⟩⟩;refine ⟨_,rfl,?_⟩)|((with_reducible refine gate_callee (f:=32) rfl ?_);refine goesL_ (some 10) rfl rfl Try.func32 (by kernel_rfl) rfl #[.int .i64 a1,.int .i64 (-2147483648),.int .i64 2147483648] rfl (by (try simp only [List.map_toArray,List.map_cons,List.map_nil]);first|done|rfl|(simp only [List.length_drop,List.length_take];rfl)) ?_;(with_reducible refine (madrigalref1_Clamp.calls k a1 (-2147483648) 2147483648 t457 _ A5.out).mono ?_);rintro e w' ⟨rfl,⟨nd,rfl⟩⟩;refine ⟨_,rfl,?_⟩))
 (try simp only [Act.put,List.setIfInBounds_toArray,List.set_cons_zero,List.set_cons_succ])
 go_cut [20] (fun v20 wc => ∃ (kq : Nat) (x20_5 : Bool),v20 = .bool x20_5 ∧ Aside0 (madrigalref1_Div.j0 kq t456 t457 a2 x20_5 = some r) ∧ Aside0 (kq ≤ k) ∧ Drawn0 w wc)
 case first =>
  have H:=HC6.out
  clear HC6
  by_cases c7 : t457 = 0
  ·rw [if_pos c7] at H
   have c7b0 : (t457 == 0) = true:=beq_iff_eq.mpr c7
   have c7b1 : (t457 != 0) = false:=bne_eq_false_iff_eq.mpr c7
   clear c7
   (first|rw [c7b0]|(simp only [i64_w,i32_w];rw [c7b0])|skip)
   have H':=ak_ H
   clear H
   go_wp2
   go_meet
   case rel => exact ⟨_,(true),(by first|rfl|(simp;done)|(simp [*];done)),H',⟨by first|omega|exact Nat.le_refl _⟩,by repeat (first|exact Drawn0.refl _|apply Drawn0.step)⟩
  ·rw [if_neg c7] at H
   have c7b0 : (t457 == 0) = false:=beq_eq_false_iff_ne.mpr c7
   have c7b1 : (t457 != 0) = true:=bne_iff_ne.mpr c7
   (first|rw [c7b0]|(simp only [i64_w,i32_w];rw [c7b0])|skip)
   by_cases c8 : a2 < 0
   ·rw [if_pos c8] at H
    have c8b0:=decide_eq_true c8
    clear c8
    have H':=ak_ H
    clear H
    go_wp2
    refine Met.intro ?_
    go_step
    (repeat apply Exists.intro)
    first|refine ⟨?rel63,rfl⟩|(refine ⟨?rel63,?st63⟩;case' st63 => (first|rw [c8b0]|simp only [c8b0]))
    case rel63 => exact ⟨_,(true),(by first|rfl|(simp;done)|(simp [*];done)),H',⟨by first|omega|exact Nat.le_refl _⟩,by repeat (first|exact Drawn0.refl _|apply Drawn0.step)⟩
   ·rw [if_neg c8] at H
    have c8b0:=decide_eq_false c8
    clear c8
    have H':=ak_ H
    clear H
    go_wp2
    refine Met.intro ?_
    go_step
    (repeat apply Exists.intro)
    first|refine ⟨?rel71,rfl⟩|(refine ⟨?rel71,?st71⟩;case' st71 => (first|rw [c8b0]|simp only [c8b0]))
    case rel71 => exact ⟨_,(decide (a2 > 30)),(by first|rfl|(simp;done)|(simp [*];done)),H',⟨by first|omega|exact Nat.le_refl _⟩,by repeat (first|exact Drawn0.refl _|apply Drawn0.step)⟩
 case rest =>
  clear HC6
  try clear p2
  try clear c3
  try clear c7
  try clear c7b0
  try clear c7b1
  try clear c8
  try clear c8b0
  obtain ⟨kq,x20_5,rfl,HA,HJ5,⟨mc5,rfl⟩⟩:=hcut
  (try simp only [i64_w,i32_w])
  cases kq with
  | zero => exact absurd HA.out (by simp [madrigalref1_Div.j0])
  | succ kj5 =>
   have H:=HA.out
   clear HA
   simp only [madrigalref1_Div.j0] at H
   by_cases c9 : x20_5 = true
   ·subst c9
    have H1 : (some 0) = some r:=by rw [if_pos rfl] at H;exact H
    clear H
    have H:=H1
    clear H1
    obtain rfl:=Option.some.inj H
    go_wp2
    go_ret
    exact ⟨by first|rfl|(simp;done)|(simp [*];done),by repeat (first|exact Drawn0.refl _|apply Drawn0.step)⟩
   ·replace c9:=Bool.eq_false_iff.mpr c9
    subst c9
    have H1 : (if t457 < 0 then (if 0 ≤ (IntKind.u64.wrap (a2)) then ((madrigalref1_Down.f (wrap64 ((wrap64 (-t456)) * (shl .i64 1 (IntKind.u64.wrap (a2))))) (wrap64 (-t457))).bind fun t458 => (some t458)) else (none)) else (if 0 ≤ (IntKind.u64.wrap (a2)) then ((madrigalref1_Down.f (wrap64 (t456 * (shl .i64 1 (IntKind.u64.wrap (a2))))) t457).bind fun t459 => (some t459)) else (none))) = some r:=by rw [if_neg (show ¬ (false = true) by decide)] at H;exact H
    clear H
    have H:=H1
    clear H1
    by_cases c10 : t457 < 0
    ·rw [if_pos c10] at H
     have c10b0:=decide_eq_true c10
     clear c10
     obtain ⟨ji11,hji11⟩ : ∃ j_ : Int,(IntKind.u64.wrap (a2)) = j_:=⟨_,rfl⟩
     replace H : (if 0 ≤ (ji11) then ((madrigalref1_Down.f (wrap64 ((wrap64 (-t456)) * (shl .i64 1 (ji11)))) (wrap64 (-t457))).bind fun t458 => (some t458)) else (none)) = some r:=by first|(rw [hji11] at H;exact H)|(simp only [hji11] at H ⊢;exact H)
     by_cases c12 : 0 ≤ (ji11)
     ·rw [if_pos c12] at H
      have c12b0:=eq_true c12
      have c12b1 : decide (0 ≤ (ji11)) = true:=decide_eq_true c12
      clear c12
      obtain ⟨ji13,hji13⟩ : ∃ j_ : Int,(shl .i64 1 (ji11)) = j_:=⟨_,rfl⟩
      replace H : ((madrigalref1_Down.f (wrap64 ((wrap64 (-t456)) * (ji13))) (wrap64 (-t457))).bind fun t458 => (some t458)) = some r:=by first|(rw [hji13] at H;exact H)|(simp only [hji13] at H ⊢;exact H)
      have hji13_ : (IntKind.i64.wrap (1 * 2 ^ min (ji11).toNat 64)) = ji13:=hji13
      have hji13z : (ji11) ≤ 64 → (IntKind.i64.wrap (1 * 2 ^ (ji11).toNat)) = ji13:=shl_small hji13
      have hji13u : (IntKind.i64.wrap (2 ^ min (ji11).toNat 64)) = ji13:=by have h_:=hji13_;rw [Int.one_mul] at h_;exact h_
      have hji13v : (ji11) ≤ 64 → (IntKind.i64.wrap (2 ^ (ji11).toNat)) = ji13:=fun hle_ => by have h_:=hji13z hle_;rw [Int.one_mul] at h_;exact h_
      have hji13y : (wrap64 (1 * 2 ^ min (ji11).toNat 64)) = ji13:=(i64_w _).symm.trans hji13_
      have hji13x : (ji11) ≤ 64 → (wrap64 (1 * 2 ^ (ji11).toNat)) = ji13:=fun h_ => (i64_w _).symm.trans (hji13z h_)
      replace H:=Option.bind_eq_some_iff.mp H
      obtain ⟨t458,A140,H⟩:=H
      (try dsimp only at H)
      have A14:=ak_ A140
      clear A140
      obtain rfl:=Option.some.inj H
      go_wp2_with (first|((with_reducible refine gate_callee (f:=33) rfl ?_);refine goesL_ (some 33) rfl rfl Try.func33 (by kernel_rfl) rfl #[.int .i64 (wrap64 ((wrap64 (-t456)) * (ji13))),.int .i64 (wrap64 (-t457))] rfl (by (try simp only [List.map_toArray,List.map_cons,List.map_nil]);first|done|(simp only [hji13];rfl)|rfl|(simp only [List.length_drop,List.length_take];rfl)) ?_;(with_reducible refine (madrigalref1_Down.calls (wrap64 ((wrap64 (-t456)) * (ji13))) (wrap64 (-t457)) t458 _ A14.out).mono ?_);rintro e w' ⟨rfl,⟨nd,rfl⟩⟩;refine ⟨_,rfl,?_⟩))
      go_ret
      exact ⟨by first|rfl|(simp;done)|(simp only [← hji11,← hji13] <;> (first|rfl|simp))|(simp [*];done),by repeat (first|exact Drawn0.refl _|apply Drawn0.step)⟩
     ·rw [if_neg c12] at H
      exact absurd H (by simp)
    ·rw [if_neg c10] at H
     have c10b0:=decide_eq_false c10
     clear c10
     obtain ⟨ji15,hji15⟩ : ∃ j_ : Int,(IntKind.u64.wrap (a2)) = j_:=⟨_,rfl⟩
     replace H : (if 0 ≤ (ji15) then ((madrigalref1_Down.f (wrap64 (t456 * (shl .i64 1 (ji15)))) t457).bind fun t459 => (some t459)) else (none)) = some r:=by first|(rw [hji15] at H;exact H)|(simp only [hji15] at H ⊢;exact H)
     by_cases c16 : 0 ≤ (ji15)
     ·rw [if_pos c16] at H
      have c16b0:=eq_true c16
      have c16b1 : decide (0 ≤ (ji15)) = true:=decide_eq_true c16
      clear c16
      obtain ⟨ji17,hji17⟩ : ∃ j_ : Int,(shl .i64 1 (ji15)) = j_:=⟨_,rfl⟩
      replace H : ((madrigalref1_Down.f (wrap64 (t456 * (ji17))) t457).bind fun t459 => (some t459)) = some r:=by first|(rw [hji17] at H;exact H)|(simp only [hji17] at H ⊢;exact H)
      have hji17_ : (IntKind.i64.wrap (1 * 2 ^ min (ji15).toNat 64)) = ji17:=hji17
      have hji17z : (ji15) ≤ 64 → (IntKind.i64.wrap (1 * 2 ^ (ji15).toNat)) = ji17:=shl_small hji17
      have hji17u : (IntKind.i64.wrap (2 ^ min (ji15).toNat 64)) = ji17:=by have h_:=hji17_;rw [Int.one_mul] at h_;exact h_
      have hji17v : (ji15) ≤ 64 → (IntKind.i64.wrap (2 ^ (ji15).toNat)) = ji17:=fun hle_ => by have h_:=hji17z hle_;rw [Int.one_mul] at h_;exact h_
      have hji17y : (wrap64 (1 * 2 ^ min (ji15).toNat 64)) = ji17:=(i64_w _).symm.trans hji17_
      have hji17x : (ji15) ≤ 64 → (wrap64 (1 * 2 ^ (ji15).toNat)) = ji17:=fun h_ => (i64_w _).symm.trans (hji17z h_)
      replace H:=Option.bind_eq_some_iff.mp H
      obtain ⟨t459,A180,H⟩:=H
      (try dsimp only at H)
      have A18:=ak_ A180
      clear A180
      obtain rfl:=Option.some.inj H
      go_wp2_with (first|((with_reducible refine gate_callee (f:=33) rfl ?_);refine goesL_ (some 33) rfl rfl Try.func33 (by kernel_rfl) rfl #[.int .i64 (wrap64 (t456 * (ji17))),.int .i64 t457] rfl (by (try simp only [List.map_toArray,List.map_cons,List.map_nil]);first|done|(simp only [hji17];rfl)|rfl|(simp only [List.length_drop,List.length_take];rfl)) ?_;(with_reducible refine (madrigalref1_Down.calls (wrap64 (t456 * (ji17))) t457 t459 _ A18.out).mono ?_);rintro e w' ⟨rfl,⟨nd,rfl⟩⟩;refine ⟨_,rfl,?_⟩))
      go_ret
      exact ⟨by first|rfl|(simp;done)|(simp only [← hji15,← hji17] <;> (first|rfl|simp))|(simp [*];done),by repeat (first|exact Drawn0.refl _|apply Drawn0.step)⟩
     ·rw [if_neg c16] at H
      exact absurd H (by simp)

end Go.Proofs.Ytllglpcpjeggcaa.P
