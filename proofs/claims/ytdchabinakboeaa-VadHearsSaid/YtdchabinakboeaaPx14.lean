/- The machine side of the laws of one chapter, without conditions: each call of a Go function comes to what the Lean function of its name answers. Written for this claim by a program of the prover. -/
import Derived.Test.YtdchabinakboeaaPx0
import Derived.Test.YtdchabinakboeaaPx13
namespace Go.Proofs.Ytdchabinakboeaa.P
open Go.RowKit Go.Proofs.YtdchabinakboeaaW.PrintWords Go.Proofs.YtdchabinakboeaaW.PrintLast Go.Proofs.YtdchabinakboeaaW.PrintMore
attribute [local go_sem] max2_int min2_int max_two min_two max_three min_three max_four min_four   -- for this text's walks alone
set_option linter.unusedVariables false
set_option linter.unusedSimpArgs false

/-! ### madrigalref1_Log2: function 40 -/
mutual
def madrigalref1_Log2.l0 : Nat → Int → Int → Int → Option (Int)
 | 0,_,_,_ => none
 | k + 1,x3,x4,x5 => if x5 < 31 then (madrigalref1_Log2.l0 k x3 (wrap64 (x4 * 2)) (wrap64 (x5 + 1))) else (if x3 > 31 then (if 0 ≤ (IntKind.u64.wrap (wrap64 (x3 - 31))) then (madrigalref1_Log2.j1 k x3 (shr .i64 x4 (IntKind.u64.wrap (wrap64 (x3 - 31))))) else (none)) else (madrigalref1_Log2.j1 k x3 x4))
def madrigalref1_Log2.j1 : Nat → Int → Int → Option (Int)
 | 0,_,_ => none
 | k + 1,x3,x4 => madrigalref1_Log2.l1 k x3 x4 0 0
def madrigalref1_Log2.l1 : Nat → Int → Int → Int → Int → Option (Int)
 | 0,_,_,_,_ => none
 | k + 1,x3,x4,x6,x7 => if x7 < 8 then (if ((wrap64 (x4 * x4)) / 1073741824) ≥ 2147483648 then (madrigalref1_Log2.l1 k x3 (wrap64 (Int.tdiv ((wrap64 (x4 * x4)) / 1073741824) 2)) (wrap64 ((wrap64 (2 * x6)) + 1)) (wrap64 (x7 + 1))) else (madrigalref1_Log2.l1 k x3 ((wrap64 (x4 * x4)) / 1073741824) (wrap64 (2 * x6)) (wrap64 (x7 + 1)))) else (some (wrap64 ((wrap64 (256 * (wrap64 (x3 - 1)))) + x6)))
end
def madrigalref1_Log2.f (k : Nat) (a0 : Int) : Option (Int):=if a0 < 1 then (some 0) else ((madrigalref1_Len.f k a0).bind fun t192 => (madrigalref1_Log2.l0 k t192 a0 t192))
theorem madrigalref1_Log2.mono_l : ∀ k,(∀ y0 y1 y2,LeO (madrigalref1_Log2.l0 k y0 y1 y2) (madrigalref1_Log2.l0 (k + 1) y0 y1 y2)) ∧ (∀ y0 y1,LeO (madrigalref1_Log2.j1 k y0 y1) (madrigalref1_Log2.j1 (k + 1) y0 y1)) ∧ (∀ y0 y1 y2 y3,LeO (madrigalref1_Log2.l1 k y0 y1 y2 y3) (madrigalref1_Log2.l1 (k + 1) y0 y1 y2 y3))
 | 0 => ⟨fun _ _ _ r h => by simp [madrigalref1_Log2.l0] at h,fun _ _ r h => by simp [madrigalref1_Log2.j1] at h,fun _ _ _ _ r h => by simp [madrigalref1_Log2.l1] at h⟩
 | k + 1 => by
  obtain ⟨ih0,ih1,ih2⟩:=madrigalref1_Log2.mono_l k
  refine ⟨?_,?_,?_⟩
  all_goals (intros;first|unfold madrigalref1_Log2.l0|unfold madrigalref1_Log2.j1|unfold madrigalref1_Log2.l1)
  all_goals (repeat' first|(with_reducible first|exact ih0 _ _ _|exact ih1 _ _|exact ih2 _ _ _ _|exact madrigalref1_Len.mono _ _|exact LeO.refl _|exact LeO.none _|refine LeO.ite ?_ ?_|refine LeO.bind ?_ (fun _ => ?_))|exact ih0 _ _ _|exact ih1 _ _|exact ih2 _ _ _ _|exact madrigalref1_Len.mono _ _|exact LeO.none _|refine LeO.ite ?_ ?_|refine LeO.bind ?_ (fun _ => ?_))
theorem madrigalref1_Log2.mono : ∀ a0 k,LeO (madrigalref1_Log2.f k a0) (madrigalref1_Log2.f (k + 1) a0):=by
 intro a0 k
 obtain ⟨ih0,ih1,ih2⟩:=madrigalref1_Log2.mono_l k
 unfold madrigalref1_Log2.f
 repeat' first|(with_reducible first|exact ih0 _ _ _|exact ih1 _ _|exact ih2 _ _ _ _|exact madrigalref1_Len.mono _ _|exact LeO.refl _|exact LeO.none _|refine LeO.ite ?_ ?_|refine LeO.bind ?_ (fun _ => ?_))|exact ih0 _ _ _|exact ih1 _ _|exact ih2 _ _ _ _|exact madrigalref1_Len.mono _ _|exact LeO.none _|refine LeO.ite ?_ ?_|refine LeO.bind ?_ (fun _ => ?_)
set_option maxHeartbeats 8000000 in
set_option maxRecDepth 100000 in
theorem madrigalref1_Log2.calls (k : Nat) (a0 : Int) (r : Int) (w : World) (h : madrigalref1_Log2.f k a0 = some r) :
  Calls Try.prog 40 #[.int .i64 a0] w fun e w' => e = .returned (.int .i64 r) ∧ Drawn0 w w':=by
 have H : (if a0 < 1 then (some 0) else ((madrigalref1_Len.f k a0).bind fun t192 => (madrigalref1_Log2.l0 k t192 a0 t192))) = some r:=h
 clear h
 by_cases c2 : a0 < 1
 ·rw [if_pos c2] at H
  have c2b0:=decide_eq_true c2
  clear c2
  obtain rfl:=Option.some.inj H
  go_enter Try.func40,Try.ntmps40
  go_wp2
  go_ret
  exact ⟨by first|rfl|(simp;done)|(simp [*];done),by repeat (first|exact Drawn0.refl _|apply Drawn0.step)⟩
 ·rw [if_neg c2] at H
  have c2b0:=decide_eq_false c2
  clear c2
  replace H:=Option.bind_eq_some_iff.mp H
  obtain ⟨t192,A30,H⟩:=H
  (try dsimp only at H)
  have A3:=ak_ A30
  clear A30
  have H':=ak_ H
  clear H
  go_enter Try.func40,Try.ntmps40
  go_wp2_with (first|((with_reducible refine gate_callee (f:=50) rfl ?_);refine goesL_ (some 11) rfl rfl Try.func50 (by kernel_rfl) rfl #[.int .i64 a0] rfl (by (try simp only [List.map_toArray,List.map_cons,List.map_nil]);first|done|rfl|(simp only [List.length_drop,List.length_take];rfl)) ?_;(with_reducible refine (madrigalref1_Len.calls k a0 t192 _ A3.out).mono ?_);rintro e w' ⟨rfl,⟨nd,rfl⟩⟩;refine ⟨_,rfl,?_⟩))
  go_loopg [4,5] k (fun kq v4 v5 w' => ∃ (x4_1 : Int) (x5_1 : Int),v4 = .int .i64 x4_1 ∧ v5 = .int .i64 x5_1 ∧ Aside0 (madrigalref1_Log2.l0 kq t192 x4_1 x5_1 = some r) ∧ Aside0 (kq ≤ k) ∧ Drawn0 w w')
  case atStart => exact ⟨(a0),(t192),(by first|rfl|(simp;done)|(simp [*];done)),(by first|rfl|(simp;done)|(simp [*];done)),H',⟨Nat.le_refl _⟩,by repeat (first|exact Drawn0.refl _|apply Drawn0.step)⟩
  case round =>
   clear H'
   try clear c2
   try clear c2b0
   try clear p2
   obtain ⟨x4_1,x5_1,rfl,rfl,HA,HK1,⟨m1,rfl⟩⟩:=hrel
   (try simp only [i64_w,i32_w])
   cases gk with
   | zero => exact absurd HA.out (by simp [madrigalref1_Log2.l0])
   | succ k1 =>
    have H:=HA.out
    clear HA
    simp only [madrigalref1_Log2.l0] at H
    by_cases c4 : x5_1 < 31
    ·rw [if_pos c4] at H
     have c4b0:=decide_eq_true c4
     clear c4
     have H':=ak_ H
     clear H
     go_wp2
     go_roundg k1
     case measure => have:=HK1.out;omega
     case rel => exact ⟨(wrap64 (x4_1 * 2)),(wrap64 (x5_1 + 1)),(by first|rfl|(simp;done)|(simp [*];done)),(by first|rfl|(simp;done)|(simp [*];done)),H',⟨by have:=HK1.out;omega⟩,by repeat (first|exact Drawn0.refl _|apply Drawn0.step)⟩
    ·rw [if_neg c4] at H
     have c4b0:=decide_eq_false c4
     clear c4
     have HC5:=ak_ H
     clear H
     go_upto_if 21 with (fail)
     go_cut [4] (fun v4 wc => ∃ (kq : Nat) (x4_4 : Int),v4 = .int .i64 x4_4 ∧ Aside0 (madrigalref1_Log2.j1 kq t192 x4_4 = some r) ∧ Aside0 (kq ≤ k1) ∧ Drawn0 w wc)
     case first =>
      have H:=HC5.out
      clear HC5
      by_cases c6 : t192 > 31
      ·rw [if_pos c6] at H
       have c6b0 : decide (31 < t192) = true:=decide_eq_true c6
       clear c6
       (first|rw [c6b0]|(simp only [i64_w,i32_w];rw [c6b0])|skip)
       obtain ⟨ji7,hji7⟩ : ∃ j_ : Int,(IntKind.u64.wrap (wrap64 (t192 - 31))) = j_:=⟨_,rfl⟩
       replace H : (if 0 ≤ (ji7) then (madrigalref1_Log2.j1 k1 t192 (shr .i64 x4_1 (ji7))) else (none)) = some r:=by first|(rw [hji7] at H;exact H)|(simp only [hji7] at H ⊢;exact H)
       by_cases c8 : 0 ≤ (ji7)
       ·rw [if_pos c8] at H
        have c8b0:=eq_true c8
        have c8b1 : decide (0 ≤ (ji7)) = true:=decide_eq_true c8
        clear c8
        obtain ⟨ji9,hji9⟩ : ∃ j_ : Int,(shr .i64 x4_1 (ji7)) = j_:=⟨_,rfl⟩
        replace H : (madrigalref1_Log2.j1 k1 t192 ji9) = some r:=by first|(rw [hji9] at H;exact H)|(simp only [hji9] at H ⊢;exact H)
        have hji9_ : (x4_1 / 2 ^ min (ji7).toNat 64) = ji9:=hji9
        have hji9z : (ji7) ≤ 64 → (x4_1 / 2 ^ (ji7).toNat) = ji9:=shr_small hji9
        have H':=ak_ H
        clear H
        go_wp2
        go_meet
        case rel => exact ⟨_,(ji9),(by first|rfl|(simp;done)|(simp only [← hji9] <;> (first|rfl|simp))|(simp [*];done)),H',⟨by have:=HK1.out;first|omega|exact Nat.le_refl _⟩,by repeat (first|exact Drawn0.refl _|apply Drawn0.step)⟩
       ·rw [if_neg c8] at H
        exact absurd H (by simp)
      ·rw [if_neg c6] at H
       have c6b0 : decide (31 < t192) = false:=decide_eq_false c6
       clear c6
       (first|rw [c6b0]|(simp only [i64_w,i32_w];rw [c6b0])|skip)
       have H':=ak_ H
       clear H
       go_wp2
       refine Met.intro ?_
       go_step
       (repeat apply Exists.intro)
       first|refine ⟨?rel117,rfl⟩|(refine ⟨?rel117,?st117⟩;case' st117 => (first|rw [c6b0]|simp only [c6b0]))
       case rel117 => exact ⟨_,(x4_1),(by first|rfl|(simp;done)|(simp [*];done)),H',⟨by have:=HK1.out;first|omega|exact Nat.le_refl _⟩,by repeat (first|exact Drawn0.refl _|apply Drawn0.step)⟩
     case rest =>
      clear HC5
      try clear c2
      try clear c2b0
      try clear p2
      try clear c4
      try clear c4b0
      try clear c5
      try clear c6
      try clear c6b0
      try clear p6
      try clear c8
      try clear c8b0
      try clear c8b1
      try clear p2
      obtain ⟨kq,x4_4,rfl,HA,HJ4,⟨mc4,rfl⟩⟩:=hcut
      (try simp only [i64_w,i32_w])
      cases kq with
      | zero => exact absurd HA.out (by simp [madrigalref1_Log2.j1])
      | succ kj4 =>
       have H:=HA.out
       clear HA
       simp only [madrigalref1_Log2.j1] at H
       have H':=ak_ H
       clear H
       go_wp2
       go_loopg [4,6,7] kj4 (fun kq v4 v6 v7 w' => ∃ (x4_3 : Int) (x6_3 : Int) (x7_3 : Int),v4 = .int .i64 x4_3 ∧ v6 = .int .i64 x6_3 ∧ v7 = .int .i64 x7_3 ∧ Aside0 (madrigalref1_Log2.l1 kq t192 x4_3 x6_3 x7_3 = some r) ∧ Aside0 (kq ≤ kj4) ∧ Drawn0 w w')
       case atStart => exact ⟨(x4_4),(0),(0),(by first|rfl|(simp;done)|(simp [*];done)),(by first|rfl|(simp;done)|(simp [*];done)),(by first|rfl|(simp;done)|(simp [*];done)),H',⟨Nat.le_refl _⟩,by repeat (first|exact Drawn0.refl _|apply Drawn0.step)⟩
       case round =>
        clear H'
        try clear c2
        try clear c2b0
        try clear p2
        try clear c4
        try clear c4b0
        try clear c5
        try clear c6
        try clear c6b0
        try clear p6
        try clear c8
        try clear c8b0
        try clear c8b1
        try clear p2
        try clear p6
        obtain ⟨x4_3,x6_3,x7_3,rfl,rfl,rfl,HA,HK3,⟨m3,rfl⟩⟩:=hrel
        (try simp only [i64_w,i32_w])
        cases gk with
        | zero => exact absurd HA.out (by simp [madrigalref1_Log2.l1])
        | succ k3 =>
         have H:=HA.out
         clear HA
         simp only [madrigalref1_Log2.l1] at H
         by_cases c10 : x7_3 < 8
         ·rw [if_pos c10] at H
          have c10b0:=decide_eq_true c10
          clear c10
          by_cases c11 : ((wrap64 (x4_3 * x4_3)) / 1073741824) ≥ 2147483648
          ·rw [if_pos c11] at H
           have c11b0 : decide (2147483648 ≤ ((wrap64 (x4_3 * x4_3)) / 1073741824)) = true:=decide_eq_true c11
           clear c11
           have H':=ak_ H
           clear H
           go_wp2
           go_roundg k3
           case measure => have:=HK1.out;have:=HJ4.out;have:=HK3.out;omega
           case rel => exact ⟨(wrap64 (Int.tdiv ((wrap64 (x4_3 * x4_3)) / 1073741824) 2)),(wrap64 ((wrap64 (2 * x6_3)) + 1)),(wrap64 (x7_3 + 1)),(by first|rfl|(simp;done)|(simp [*];done)),(by first|rfl|(simp;done)|(simp [*];done)),(by first|rfl|(simp;done)|(simp [*];done)),H',⟨by have:=HK1.out;have:=HJ4.out;have:=HK3.out;omega⟩,by repeat (first|exact Drawn0.refl _|apply Drawn0.step)⟩
          ·rw [if_neg c11] at H
           have c11b0 : decide (2147483648 ≤ ((wrap64 (x4_3 * x4_3)) / 1073741824)) = false:=decide_eq_false c11
           clear c11
           have H':=ak_ H
           clear H
           go_wp2
           go_roundg k3
           case measure => have:=HK1.out;have:=HJ4.out;have:=HK3.out;omega
           case rel => exact ⟨((wrap64 (x4_3 * x4_3)) / 1073741824),(wrap64 (2 * x6_3)),(wrap64 (x7_3 + 1)),(by first|rfl|(simp;done)|(simp [*];done)),(by first|rfl|(simp;done)|(simp [*];done)),(by first|rfl|(simp;done)|(simp [*];done)),H',⟨by have:=HK1.out;have:=HJ4.out;have:=HK3.out;omega⟩,by repeat (first|exact Drawn0.refl _|apply Drawn0.step)⟩
         ·rw [if_neg c10] at H
          have c10b0:=decide_eq_false c10
          clear c10
          obtain rfl:=Option.some.inj H
          go_wp2
          go_ret
          exact ⟨by first|rfl|(simp;done)|(simp [*];done),by repeat (first|exact Drawn0.refl _|apply Drawn0.step)⟩

end Go.Proofs.Ytdchabinakboeaa.P
