/- The machine side of the laws of one chapter, without conditions: each call of a Go function comes to what the Lean function of its name answers. Written for this claim by a program of the prover. -/
import Derived.Test.YtcicenmmpbgmoaaPx0
import Derived.Test.YtcicenmmpbgmoaaPx17
import Derived.Test.YtcicenmmpbgmoaaPx20
import Derived.Test.YtcicenmmpbgmoaaPx23
import Derived.Test.YtcicenmmpbgmoaaPx24
namespace Go.Proofs.Ytcicenmmpbgmoaa.P
open Go.RowKit Go.Proofs.YtcicenmmpbgmoaaW.PrintWords Go.Proofs.YtcicenmmpbgmoaaW.PrintLast Go.Proofs.YtcicenmmpbgmoaaW.PrintMore
attribute [local go_sem] max2_int min2_int max_two min_two max_three min_three max_four min_four   -- for this text's walks alone
set_option linter.unusedVariables false
set_option linter.unusedSimpArgs false

/-! ### madrigalref10_Phase: function 19 -/
mutual
def madrigalref10_Phase.j0 : Nat → Int → Int → Int → Int → Option (List Int)
 | 0,_,_,_,_ => none
 | k + 1,x0,x2,x7,x9 => madrigalref10_Phase.l0 k x0 x2 x7 x9 ([] : List Int) 0 (-7)
def madrigalref10_Phase.l0 : Nat → Int → Int → Int → Int → List Int → Int → Int → Option (List Int)
 | 0,_,_,_,_,_,_,_ => none
 | k + 1,x0,x2,x7,x9,x10,x11,x12 => if x12 ≤ 8 then (if x0 = 0 then (none) else (if (wrap64 ((wrap64 (x12 * x7)) - x2)) = 0 then (madrigalref10_Phase.j2 k x0 x2 x7 x9 x10 x11 x12 (wrap64 ((wrap64 (x12 * x7)) - x2)) (wrap64 (Int.tdiv (wrap64 (32768 * x9)) x0))) else ((madrigalref1_Down.f (wrap64 ((wrap64 (32768 * x9)) * (wrap64 ((wrap64 (x12 * x7)) - x2)))) (wrap64 (x0 * x7))).bind fun t313 => ((madrigalref1_Sin.f k t313).bind fun t314 => ((madrigalref10_quotient.f (wrap64 ((wrap64 (t314 * x7)) * 32768)) (wrap64 (102944 * (wrap64 ((wrap64 (x12 * x7)) - x2))))).bind fun t315 => (madrigalref10_Phase.j2 k x0 x2 x7 x9 x10 x11 x12 (wrap64 ((wrap64 (x12 * x7)) - x2)) t315)))))) else (if 7 < (x10.length : Int) then (some (x10.set (7 : Int).toNat (wrap64 ((wrap64 ((rd x10 7) + 32768)) - x11)))) else (none))
def madrigalref10_Phase.j2 : Nat → Int → Int → Int → Int → List Int → Int → Int → Int → Int → Option (List Int)
 | 0,_,_,_,_,_,_,_,_,_ => none
 | k + 1,x0,x2,x7,x9,x10,x11,x12,x13,x14 => (madrigalref1_Down.f (wrap64 (4096 * x13)) x7).bind fun t316 => ((madrigalref1_Cos.f k t316).bind fun t317 => ((madrigalref1_Mul.f k t317 1 1).bind fun t318 => ((madrigalref1_Mul.f k x14 (wrap64 (16384 + t318)) 15).bind fun t319 => (if x10.length < 17592186044416 then (madrigalref10_Phase.l0 k x0 x2 x7 x9 (x10 ++ [t319]) (wrap64 (x11 + t319)) (wrap64 (x12 + 1))) else (none)))))
end
def madrigalref10_Phase.f (k : Nat) (a0 : Int) (a1 : Int) (a2 : Int) : Option (List Int):=(madrigalref10_Parts.f k a0 a1).bind fun bt309 => (if a1 < a0 then (madrigalref10_Phase.j0 k a0 a2 bt309.1 a1) else (madrigalref10_Phase.j0 k a0 a2 bt309.1 a0))
theorem madrigalref10_Phase.mono_l : ∀ k,(∀ y0 y1 y2 y3,LeO (madrigalref10_Phase.j0 k y0 y1 y2 y3) (madrigalref10_Phase.j0 (k + 1) y0 y1 y2 y3)) ∧ (∀ y0 y1 y2 y3 y4 y5 y6,LeO (madrigalref10_Phase.l0 k y0 y1 y2 y3 y4 y5 y6) (madrigalref10_Phase.l0 (k + 1) y0 y1 y2 y3 y4 y5 y6)) ∧ (∀ y0 y1 y2 y3 y4 y5 y6 y7 y8,LeO (madrigalref10_Phase.j2 k y0 y1 y2 y3 y4 y5 y6 y7 y8) (madrigalref10_Phase.j2 (k + 1) y0 y1 y2 y3 y4 y5 y6 y7 y8))
 | 0 => ⟨fun _ _ _ _ r h => by simp [madrigalref10_Phase.j0] at h,fun _ _ _ _ _ _ _ r h => by simp [madrigalref10_Phase.l0] at h,fun _ _ _ _ _ _ _ _ _ r h => by simp [madrigalref10_Phase.j2] at h⟩
 | k + 1 => by
  obtain ⟨ih0,ih1,ih2⟩:=madrigalref10_Phase.mono_l k
  refine ⟨?_,?_,?_⟩
  all_goals (intros;first|unfold madrigalref10_Phase.j0|unfold madrigalref10_Phase.l0|unfold madrigalref10_Phase.j2)
  all_goals (repeat' first|(with_reducible first|exact ih0 _ _ _ _|exact ih1 _ _ _ _ _ _ _|exact ih2 _ _ _ _ _ _ _ _ _|exact madrigalref10_Parts.mono _ _ _|exact madrigalref1_Cos.mono _ _|exact madrigalref1_Mul.mono _ _ _ _|exact madrigalref1_Sin.mono _ _|exact LeO.refl _|exact LeO.none _|refine LeO.ite ?_ ?_|refine LeO.bind ?_ (fun _ => ?_))|exact ih0 _ _ _ _|exact ih1 _ _ _ _ _ _ _|exact ih2 _ _ _ _ _ _ _ _ _|exact madrigalref10_Parts.mono _ _ _|exact madrigalref1_Cos.mono _ _|exact madrigalref1_Mul.mono _ _ _ _|exact madrigalref1_Sin.mono _ _|exact LeO.none _|refine LeO.ite ?_ ?_|refine LeO.bind ?_ (fun _ => ?_))
theorem madrigalref10_Phase.mono : ∀ a0 a1 a2 k,LeO (madrigalref10_Phase.f k a0 a1 a2) (madrigalref10_Phase.f (k + 1) a0 a1 a2):=by
 intro a0 a1 a2 k
 obtain ⟨ih0,ih1,ih2⟩:=madrigalref10_Phase.mono_l k
 unfold madrigalref10_Phase.f
 repeat' first|(with_reducible first|exact ih0 _ _ _ _|exact ih1 _ _ _ _ _ _ _|exact ih2 _ _ _ _ _ _ _ _ _|exact madrigalref10_Parts.mono _ _ _|exact madrigalref1_Cos.mono _ _|exact madrigalref1_Mul.mono _ _ _ _|exact madrigalref1_Sin.mono _ _|exact LeO.refl _|exact LeO.none _|refine LeO.ite ?_ ?_|refine LeO.bind ?_ (fun _ => ?_))|exact ih0 _ _ _ _|exact ih1 _ _ _ _ _ _ _|exact ih2 _ _ _ _ _ _ _ _ _|exact madrigalref10_Parts.mono _ _ _|exact madrigalref1_Cos.mono _ _|exact madrigalref1_Mul.mono _ _ _ _|exact madrigalref1_Sin.mono _ _|exact LeO.none _|refine LeO.ite ?_ ?_|refine LeO.bind ?_ (fun _ => ?_)
set_option maxHeartbeats 8000000 in
set_option maxRecDepth 100000 in
theorem madrigalref10_Phase.calls (k : Nat) (a0 : Int) (a1 : Int) (a2 : Int) (r : List Int) (w : World) (h : madrigalref10_Phase.f k a0 a1 a2 = some r) :
  Calls Try.prog 19 #[.int .i64 a0,.int .i64 a1,.int .i64 a2] w fun e w' => ∃ v0_ : Value,e = .returned (v0_) ∧ Kd.R (Kd.int .i64) 2 w' w.heap.size (fun _ => True) v0_ r ∧ Below w.heap.size w w':=by
 have HB:=ak_ (Below.refl w.heap.size w)
 have H : ((madrigalref10_Parts.f k a0 a1).bind fun bt309 => (if a1 < a0 then (madrigalref10_Phase.j0 k a0 a2 bt309.1 a1) else (madrigalref10_Phase.j0 k a0 a2 bt309.1 a0))) = some r:=h
 clear h
 replace H:=Option.bind_eq_some_iff.mp H
 obtain ⟨⟨t309,t310⟩,A40,H⟩:=H
 (try dsimp only at H)
 have A4:=ak_ A40
 clear A40
 have HC5:=ak_ H
 clear H
 go_enter Try.func19,Try.ntmps19
 go_upto_if 26 with (first|((with_reducible refine gate_callee (f:=17) rfl ?_);refine goesL_ (some 20) rfl rfl Try.func17 (by kernel_rfl) rfl #[.int .i64 a0,.int .i64 a1] rfl (by (try simp only [List.map_toArray,List.map_cons,List.map_nil]);first|done|rfl|(simp only [List.length_drop,List.length_take];rfl)) ?_;(with_reducible refine (madrigalref10_Parts.calls k a0 a1 t309 t310 _ A4.out).mono ?_);rintro e w' ⟨rfl,⟨nd,rfl⟩⟩;refine ⟨_,rfl,?_⟩))
 (try simp only [Act.put,List.setIfInBounds_toArray,List.set_cons_zero,List.set_cons_succ])
 go_cut [9] (fun v9 wc => ∃ (kq : Nat) (x9_4 : Int),v9 = .int .i64 x9_4 ∧ Aside0 (madrigalref10_Phase.j0 kq a0 a2 t309 x9_4 = some r) ∧ Aside0 (kq ≤ k) ∧ Aside0 (Below w.heap.size w wc))
 case first =>
  have H:=HC5.out
  clear HC5
  by_cases c6 : a1 < a0
  ·rw [if_pos c6] at H
   have c6b0:=decide_eq_true c6
   clear c6
   (first|rw [c6b0]|(simp only [i64_w,i32_w];rw [c6b0])|skip)
   have H':=ak_ H
   clear H
   go_wp2
   refine Met.intro ?_
   go_step
   (repeat apply Exists.intro)
   first|refine ⟨?rel54,rfl⟩|(refine ⟨?rel54,?st54⟩;case' st54 => (first|rw [c6b0]|simp only [c6b0]))
   case rel54 => exact ⟨_,(a1),(by first|rfl|(simp;done)|(simp [*];done)),H',⟨by first|omega|exact Nat.le_refl _⟩,⟨by repeat (first|(with_reducible first|exact HB.out|apply ba_|apply bb_|apply bc_)|exact HB.out)⟩⟩
  ·rw [if_neg c6] at H
   have c6b0:=decide_eq_false c6
   clear c6
   (first|rw [c6b0]|(simp only [i64_w,i32_w];rw [c6b0])|skip)
   have H':=ak_ H
   clear H
   go_wp2
   refine Met.intro ?_
   go_step
   (repeat apply Exists.intro)
   first|refine ⟨?rel63,rfl⟩|(refine ⟨?rel63,?st63⟩;case' st63 => (first|rw [c6b0]|simp only [c6b0]))
   case rel63 => exact ⟨_,(a0),(by first|rfl|(simp;done)|(simp [*];done)),H',⟨by first|omega|exact Nat.le_refl _⟩,⟨by repeat (first|(with_reducible first|exact HB.out|apply ba_|apply bb_|apply bc_)|exact HB.out)⟩⟩
 case rest =>
  clear HC5
  try clear c1
  try clear p2
  try clear c6
  try clear c6b0
  obtain ⟨kq,x9_4,rfl,HA,HJ4,HB⟩:=hcut
  (try simp only [i64_w,i32_w])
  cases kq with
  | zero => exact absurd HA.out (by simp [madrigalref10_Phase.j0])
  | succ kj4 =>
   have H:=HA.out
   clear HA
   simp only [madrigalref10_Phase.j0] at H
   have H':=ak_ H
   clear H
   go_wp2
   go_loopg [10,11,12] kj4 (fun kq v10 v11 v12 w' => ∃ (x10_2 : List Int) (x11_2 : Int) (x12_2 : Int),v11 = .int .i64 x11_2 ∧ v12 = .int .i64 x12_2 ∧ Aside0 (madrigalref10_Phase.l0 kq a0 a2 t309 x9_4 x10_2 x11_2 x12_2 = some r) ∧ Aside0 (kq ≤ kj4) ∧ Aside0 (Kd.R (Kd.int .i64) 2 w' w.heap.size (fun _ => True) v10 x10_2) ∧ Aside0 (Below w.heap.size w w'))
   case atStart => exact ⟨(([] : List Int)),(0),((-7)),(by first|rfl|(simp;done)|(simp [*];done)),(by first|rfl|(simp;done)|(simp [*];done)),H',⟨Nat.le_refl _⟩,⟨by first|exact Kd.R_nil _ _ _ _ _|exact Kd.N_nil _ _ _ _ _|exact Kd.V_nil _ _ _ _ _|exact Kd.Q_nil _ _ _ _ _|exact Kd.S_nil _ _ _ _ _⟩,⟨by repeat (first|(with_reducible first|exact HB.out|apply ba_|apply bb_|apply bc_)|exact HB.out)⟩⟩
   case round =>
    clear H'
    try clear c1
    try clear p2
    try clear c6
    try clear c6b0
    try clear p2
    obtain ⟨x10_2,x11_2,x12_2,rfl,rfl,HA,HK2,HO_10,HB⟩:=hrel
    (try simp only [i64_w,i32_w])
    cases gk with
    | zero => exact absurd HA.out (by simp [madrigalref10_Phase.l0])
    | succ k2 =>
     have H:=HA.out
     clear HA
     simp only [madrigalref10_Phase.l0] at H
     by_cases c7 : x12_2 ≤ 8
     ·rw [if_pos c7] at H
      have c7b0:=decide_eq_true c7
      clear c7
      by_cases c8 : a0 = 0
      ·rw [if_pos c8] at H
       exact absurd H (by simp)
      ·rw [if_neg c8] at H
       have c8b0 : (a0 == 0) = false:=beq_eq_false_iff_ne.mpr c8
       have c8b1 : (a0 != 0) = true:=bne_iff_ne.mpr c8
       have HC9:=ak_ H
       clear H
       go_upto_if 42 with (fail)
       go_cut [14] (fun v14 wc => ∃ (kq : Nat) (x14_8 : Int),v14 = .int .i64 x14_8 ∧ Aside0 (madrigalref10_Phase.j2 kq a0 a2 t309 x9_4 x10_2 x11_2 x12_2 (wrap64 ((wrap64 (x12_2 * t309)) - a2)) x14_8 = some r) ∧ Aside0 (kq ≤ k2) ∧ Aside0 (Kd.R (Kd.int .i64) 2 wc w.heap.size (fun _ => True) u10 x10_2) ∧ Aside0 (Below w.heap.size w wc))
       case first =>
        have H:=HC9.out
        clear HC9
        by_cases c10 : (wrap64 ((wrap64 (x12_2 * t309)) - a2)) = 0
        ·rw [if_pos c10] at H
         have c10b0 : ((wrap64 ((wrap64 (x12_2 * t309)) - a2)) == 0) = true:=beq_iff_eq.mpr c10
         have c10b1 : ((wrap64 ((wrap64 (x12_2 * t309)) - a2)) != 0) = false:=bne_eq_false_iff_eq.mpr c10
         clear c10
         (first|rw [c10b0]|(simp only [i64_w,i32_w];rw [c10b0])|skip)
         have H':=ak_ H
         clear H
         go_wp2
         go_meet
         case rel => exact ⟨_,(wrap64 (Int.tdiv (wrap64 (32768 * x9_4)) a0)),(by first|rfl|(simp;done)|(simp [*];done)),H',⟨by have:=HJ4.out;have:=HK2.out;first|omega|exact Nat.le_refl _⟩,⟨by (with_reducible repeat (first|apply ra_|apply rb_|apply rc_));exact HO_10.out⟩,⟨by repeat (first|(with_reducible first|exact HB.out|apply ba_|apply bb_|apply bc_)|exact HB.out)⟩⟩
        ·rw [if_neg c10] at H
         have c10b0 : ((wrap64 ((wrap64 (x12_2 * t309)) - a2)) == 0) = false:=beq_eq_false_iff_ne.mpr c10
         have c10b1 : ((wrap64 ((wrap64 (x12_2 * t309)) - a2)) != 0) = true:=bne_iff_ne.mpr c10
         (first|rw [c10b0]|(simp only [i64_w,i32_w];rw [c10b0])|skip)
         replace H:=Option.bind_eq_some_iff.mp H
         obtain ⟨t313,A110,H⟩:=H
         (try dsimp only at H)
         have A11:=ak_ A110
         clear A110
         replace H:=Option.bind_eq_some_iff.mp H
         obtain ⟨t314,A120,H⟩:=H
         (try dsimp only at H)
         have A12:=ak_ A120
         clear A120
         replace H:=Option.bind_eq_some_iff.mp H
         obtain ⟨t315,A130,H⟩:=H
         (try dsimp only at H)
         have A13:=ak_ A130
         clear A130
         have H':=ak_ H
         clear H
         go_wp2_with (first|((with_reducible refine gate_callee (f:=35) rfl ?_);refine goesL_ (some 50) rfl rfl Try.func35 (by kernel_rfl) rfl #[.int .i64 (wrap64 ((wrap64 (32768 * x9_4)) * (wrap64 ((wrap64 (x12_2 * t309)) - a2)))),.int .i64 (wrap64 (a0 * t309))] rfl (by (try simp only [List.map_toArray,List.map_cons,List.map_nil]);first|done|rfl|(simp only [List.length_drop,List.length_take];rfl)) ?_;(with_reducible refine (madrigalref1_Down.calls (wrap64 ((wrap64 (32768 * x9_4)) * (wrap64 ((wrap64 (x12_2 * t309)) - a2)))) (wrap64 (a0 * t309)) t313 _ A11.out).mono ?_);rintro e w' ⟨rfl,⟨nd,rfl⟩⟩;refine ⟨_,rfl,?_⟩)|((with_reducible refine gate_callee (f:=34) rfl ?_);refine goesL_ (some 51) rfl rfl Try.func34 (by kernel_rfl) rfl #[.int .i64 t313] rfl (by (try simp only [List.map_toArray,List.map_cons,List.map_nil]);first|done|rfl|(simp only [List.length_drop,List.length_take];rfl)) ?_;(with_reducible refine (madrigalref1_Sin.calls k2 t313 t314 _ A12.out).mono ?_);rintro e w14 ⟨rfl,hb⟩;refine ⟨_,rfl,?_⟩;have n0_:=ak_ (Kd.R_below (by (with_reducible repeat (first|apply ra_|apply rb_|apply rc_));exact HO_10.out) hb);have n1_:=ak_ (below_step (by repeat (first|(with_reducible first|exact HB.out|apply ba_|apply bb_|apply bc_)|exact HB.out)) hb);clear HO_10;clear HB;have HO_10:=n0_;have HB:=n1_;clear n0_ n1_;(try clear hb))|((with_reducible refine gate_callee (f:=36) rfl ?_);refine goesL_ (some 58) rfl rfl Try.func36 (by kernel_rfl) rfl #[.int .i64 (wrap64 ((wrap64 (t314 * t309)) * 32768)),.int .i64 (wrap64 (102944 * (wrap64 ((wrap64 (x12_2 * t309)) - a2))))] rfl (by (try simp only [List.map_toArray,List.map_cons,List.map_nil]);first|done|rfl|(simp only [List.length_drop,List.length_take];rfl)) ?_;(with_reducible refine (madrigalref10_quotient.calls (wrap64 ((wrap64 (t314 * t309)) * 32768)) (wrap64 (102944 * (wrap64 ((wrap64 (x12_2 * t309)) - a2)))) t315 _ A13.out).mono ?_);rintro e w' ⟨rfl,⟨nd,rfl⟩⟩;refine ⟨_,rfl,?_⟩))
         go_meet
         case rel => exact ⟨_,(t315),(by first|rfl|(simp;done)|(simp [*];done)),H',⟨by have:=HJ4.out;have:=HK2.out;first|omega|exact Nat.le_refl _⟩,⟨by (with_reducible repeat (first|apply ra_|apply rb_|apply rc_));exact HO_10.out⟩,⟨by repeat (first|(with_reducible first|exact HB.out|apply ba_|apply bb_|apply bc_)|exact HB.out)⟩⟩
       case rest =>
        clear HC9
        try clear c1
        try clear p2
        try clear c3
        try clear c6
        try clear c6b0
        try clear p6
        try clear c7
        try clear c7b0
        try clear c8
        try clear c8b0
        try clear c8b1
        try clear c10
        try clear c10b0
        try clear c10b1
        try clear p2
        obtain ⟨kq,x14_8,rfl,HA,HJ8,HO_10,HB⟩:=hcut
        (try simp only [i64_w,i32_w])
        cases kq with
        | zero => exact absurd HA.out (by simp [madrigalref10_Phase.j2])
        | succ kj8 =>
         have H:=HA.out
         clear HA
         simp only [madrigalref10_Phase.j2] at H
         replace H:=Option.bind_eq_some_iff.mp H
         obtain ⟨t316,A150,H⟩:=H
         (try dsimp only at H)
         have A15:=ak_ A150
         clear A150
         replace H:=Option.bind_eq_some_iff.mp H
         obtain ⟨t317,A160,H⟩:=H
         (try dsimp only at H)
         have A16:=ak_ A160
         clear A160
         replace H:=Option.bind_eq_some_iff.mp H
         obtain ⟨t318,A170,H⟩:=H
         (try dsimp only at H)
         have A17:=ak_ A170
         clear A170
         replace H:=Option.bind_eq_some_iff.mp H
         obtain ⟨t319,A180,H⟩:=H
         (try dsimp only at H)
         have A18:=ak_ A180
         clear A180
         by_cases c19 : x10_2.length < 17592186044416
         ·rw [if_pos c19] at H
          have LMc19:=ak_ c19
          clear c19
          obtain ⟨y320,hy320⟩ : ∃ y_ : List Int,y_ = (x10_2 ++ [t319]):=⟨_,rfl⟩
          replace H : (madrigalref10_Phase.l0 kj8 a0 a2 t309 x9_4 y320 (wrap64 (x11_2 + t319)) (wrap64 (x12_2 + 1))) = some r:=by first|(rw [hy320];with_reducible exact H)|(have H2_:=(Option.bind_some _ _).symm.trans H;rw [hy320];with_reducible exact H2_)|(have H2_:=(Option.bind_some _ _).symm.trans H;with_reducible exact H2_)|with_reducible exact H|(rw [hy320];exact H)|exact H
          have Ny320:=ak_ hy320
          clear hy320
          have H':=ak_ H
          clear H
          go_wp2_with (first|((with_reducible refine gate_callee (f:=35) rfl ?_);refine goesL_ (some 62) rfl rfl Try.func35 (by kernel_rfl) rfl #[.int .i64 (wrap64 (4096 * (wrap64 ((wrap64 (x12_2 * t309)) - a2)))),.int .i64 t309] rfl (by (try simp only [List.map_toArray,List.map_cons,List.map_nil]);first|done|rfl|(simp only [List.length_drop,List.length_take];rfl)) ?_;(with_reducible refine (madrigalref1_Down.calls (wrap64 (4096 * (wrap64 ((wrap64 (x12_2 * t309)) - a2)))) t309 t316 _ A15.out).mono ?_);rintro e w' ⟨rfl,⟨nd,rfl⟩⟩;refine ⟨_,rfl,?_⟩)|((with_reducible refine gate_callee (f:=38) rfl ?_);refine goesL_ (some 63) rfl rfl Try.func38 (by kernel_rfl) rfl #[.int .i64 t316] rfl (by (try simp only [List.map_toArray,List.map_cons,List.map_nil]);first|done|rfl|(simp only [List.length_drop,List.length_take];rfl)) ?_;(with_reducible refine (madrigalref1_Cos.calls kj8 t316 t317 _ A16.out).mono ?_);rintro e w20 ⟨rfl,hb⟩;refine ⟨_,rfl,?_⟩;have n0_:=ak_ (Kd.R_below (by (with_reducible repeat (first|apply ra_|apply rb_|apply rc_));exact HO_10.out) hb);have n1_:=ak_ (below_step (by repeat (first|(with_reducible first|exact HB.out|apply ba_|apply bb_|apply bc_)|exact HB.out)) hb);clear HO_10;clear HB;have HO_10:=n0_;have HB:=n1_;clear n0_ n1_;(try clear hb))|((with_reducible refine gate_callee (f:=37) rfl ?_);refine goesL_ (some 64) rfl rfl Try.func37 (by kernel_rfl) rfl #[.int .i64 t317,.int .i64 1,.int .i64 1] rfl (by (try simp only [List.map_toArray,List.map_cons,List.map_nil]);first|done|rfl|(simp only [List.length_drop,List.length_take];rfl)) ?_;(with_reducible refine (madrigalref1_Mul.calls kj8 t317 1 1 t318 _ A17.out).mono ?_);rintro e w' ⟨rfl,⟨nd,rfl⟩⟩;refine ⟨_,rfl,?_⟩)|((with_reducible refine gate_callee (f:=37) rfl ?_);refine goesL_ (some 68) rfl rfl Try.func37 (by kernel_rfl) rfl #[.int .i64 x14_8,.int .i64 (wrap64 (16384 + t318)),.int .i64 15] rfl (by (try simp only [List.map_toArray,List.map_cons,List.map_nil]);first|done|rfl|(simp only [List.length_drop,List.length_take];rfl)) ?_;(with_reducible refine (madrigalref1_Mul.calls kj8 x14_8 (wrap64 (16384 + t318)) 15 t319 _ A18.out).mono ?_);rintro e w' ⟨rfl,⟨nd,rfl⟩⟩;refine ⟨_,rfl,?_⟩)|((with_reducible refine gate_builtin (b:=.append) (xs:=#[.tmp 69,.tmp 71]) rfl ?_);at_builtin;refine Kd.R_append (Kd.int .i64) (w0:=w) w.heap.size rfl (.tmp 69) (.tmp 71) 27 2 (.int .i64 0) 8 rfl Try.underlying27 info2 rfl (by decide) (by omega) u10 x10_2 t319 [.int .i64 t319] (fun _ => True) (fun _ => False) rfl rfl ?aP (fun _ hk => hk.elim) ?aF ?aO ?aB ?aS ?aL ?_;(case aP => exact rfl);(case aB => exact (by repeat (first|(with_reducible first|exact HB.out|apply ba_|apply bb_|apply bc_)|exact HB.out)));(case aF => exact (fun _ _ => trivial));(case aO => exact (by (with_reducible repeat (first|apply ra_|apply rb_|apply rc_));exact HO_10.out));(case aS => exact (below_size (by repeat (first|(with_reducible first|exact HB.out|apply ba_|apply bb_|apply bc_)|exact HB.out))));(case aL => have:=LMc19.out;omega);intro v321 w21 ho hb hg hat;rw [← Ny320.out] at ho;have n0_:=ak_ (hb);have n1_:=ak_ (ho);clear HB;clear HO_10;have HB:=n0_;have HO322:=n1_;clear n0_ n1_;clear ho hb hg hat))
          go_roundg kj8
          case measure => have:=HJ4.out;have:=HK2.out;have:=HJ8.out;omega
          case rel => exact ⟨(y320),(wrap64 (x11_2 + t319)),(wrap64 (x12_2 + 1)),(by first|rfl|(simp;done)|(simp [*];done)),(by first|rfl|(simp;done)|(simp [*];done)),H',⟨by have:=HJ4.out;have:=HK2.out;have:=HJ8.out;omega⟩,⟨by (with_reducible repeat (first|apply ra_|apply rb_|apply rc_));exact HO322.out⟩,⟨by repeat (first|(with_reducible first|exact HB.out|apply ba_|apply bb_|apply bc_)|exact HB.out)⟩⟩
         ·rw [if_neg c19] at H
          exact absurd H (by simp)
     ·rw [if_neg c7] at H
      have c7b0:=decide_eq_false c7
      clear c7
      by_cases c22 : 7 < (x10_2.length : Int)
      ·rw [if_pos c22] at H
       have c22b0:=decide_eq_true c22
       have c22b1 : decide (7 < x10_2.length) = true:=decide_eq_true (by omega)
       clear c22
       obtain ⟨y312,hy312⟩ : ∃ y_ : List Int,y_ = (x10_2.set (7 : Int).toNat (wrap64 ((wrap64 ((rd x10_2 7) + 32768)) - x11_2))):=⟨_,rfl⟩
       replace H : (some y312) = some r:=by first|(rw [hy312];with_reducible exact H)|(have H2_:=(Option.bind_some _ _).symm.trans H;rw [hy312];with_reducible exact H2_)|(have H2_:=(Option.bind_some _ _).symm.trans H;with_reducible exact H2_)|with_reducible exact H|(rw [hy312];exact H)|exact H
       have Ny312:=ak_ hy312
       clear hy312
       obtain rfl:=Option.some.inj H
       obtain ⟨Ao24,co24,eo24⟩:=Kd.R_slice HO_10.out
       subst eo24
       have p311 : 0 ≤ (7 : Int):=(by omega)
       have q311 : 7 < (x10_2.length : Int):=of_decide_eq_true (by first|(with_reducible assumption)|assumption)
       obtain ⟨ad311,e311,hx311_0⟩:=Kd.at_int (Kd.R_reads' HO_10.out).2.2 7 p311 q311
       cases e311
       (try simp only [show (7 : Int).toNat = 7 from rfl,Nat.reduceMul,Nat.reduceEqDiff,Go.Addr.add,↓reduceIte] at hx311_0)
       have qi311 : (7 < x10_2.length) = True:=eq_true (by omega)
       (try rw [show ((7 : Int)).toNat = 7 from rfl] at hx311_0)
       replace p311:=eq_true p311
       replace q311:=eq_true q311
       have p23 : 0 ≤ (7 : Int):=(by omega)
       have q23 : (7 : Int) < ((x10_2.length : Int) : Int):=of_decide_eq_true (by first|(with_reducible assumption)|assumption)
       have qi23 : (7 < x10_2.length) = True:=eq_true (by omega)
       obtain ⟨go23,co23,eo23,gb23,gl23,cl23,HG23⟩:=Kd.R_form HO_10.out (by omega)
       (first|cases eo23|(injection eo23 with ea_ en_ ec_;(first|subst ea_|(injection ea_ with ea_;subst ea_));subst ec_;clear en_))
       have GB23:=ak_ gb23
       have GG23:=ak_ HG23
       clear gb23 gl23 HG23
       (first|simp only [add_plain] at hx311_0|skip)
       obtain ⟨hx23_0,hf23_0⟩:=Kd.R_celln 0 HO_10.out (7 : Int) p23 q23
       (try rw [show ((7 : Int)).toNat = 7 from rfl] at hx23_0)
       (try simp only [Nat.reduceMul,Nat.zero_mul,Nat.zero_add,Nat.reduceAdd] at hx23_0)
       (try rw [show ((7 : Int)).toNat = 7 from rfl] at hf23_0)
       (try simp only [Nat.reduceMul,Nat.zero_mul,Nat.zero_add,Nat.reduceAdd] at hf23_0)
       replace p23:=eq_true p23
       replace q23:=eq_true q23
       have HP25:=Kd.R_putg HO_10.out (7 : Int) (wrap64 ((wrap64 ((rd x10_2 7) + 32768)) - x11_2))
       go_wp2_with (first|((with_reducible refine gate_store (t:=2) (p:=83) rfl ?_);refine store_event (t:=2) (p:=83) (v:=?vo_w26) (w1:=(wr.setCell ⟨go23,(7 : Int).toNat,none⟩ (.int .i64 (wrap64 ((wrap64 ((rd x10_2 7) + 32768)) - x11_2))))) ?hg ?ho ?hn ?hr ?_;(case ho => rfl);(case hg => rfl);(case hn => rfl);(case hr => first|(go_simp;done)|(go_simp;rfl));intro w26 hw;have hg : wr.grownBy w26 (some go23):=(by rw [hw];exact HP25.2);have hp_ : Kd.R (Kd.int .i64) 2 w26 w.heap.size (fun _ => True) (.slice (some ⟨go23,0,none⟩) x10_2.length co24) y312:=(by rw [hw,Ny312.out];exact HP25.1);clear HP25;have n0_:=ak_ (hp_);have n1_:=ak_ ((by rw [hw];exact below_set (HB.out) GB23.out : Below w.heap.size w w26));clear HO_10;clear HB;have HO_10:=n0_;have HB:=n1_;clear n0_ n1_;clear hg hw hp_))
       go_ret
       exact ⟨_,by first|rfl|(simp [errW_none,errW_some] <;> rfl)|(simp [*,errW_none,errW_some] <;> rfl),by (with_reducible repeat (first|apply ra_|apply rb_|apply rc_));exact HO_10.out,by repeat (first|(with_reducible first|exact HB.out|apply ba_|apply bb_|apply bc_)|exact HB.out)⟩
      ·rw [if_neg c22] at H
       exact absurd H (by simp)

end Go.Proofs.Ytcicenmmpbgmoaa.P
