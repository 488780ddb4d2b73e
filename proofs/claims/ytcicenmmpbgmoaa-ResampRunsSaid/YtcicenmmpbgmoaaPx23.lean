/- The machine side of the laws of one chapter, without conditions: each call of a Go function comes to what the Lean function of its name answers. Written for this claim by a program of the prover. -/
import Derived.Test.YtcicenmmpbgmoaaPx0
import Derived.Test.YtcicenmmpbgmoaaPx22
namespace Go.Proofs.Ytcicenmmpbgmoaa.P
open Go.RowKit Go.Proofs.YtcicenmmpbgmoaaW.PrintWords Go.Proofs.YtcicenmmpbgmoaaW.PrintLast Go.Proofs.YtcicenmmpbgmoaaW.PrintMore
attribute [local go_sem] max2_int min2_int max_two min_two max_three min_three max_four min_four   -- for this text's walks alone
set_option linter.unusedVariables false
set_option linter.unusedSimpArgs false

/-! ### madrigalref1_Cos: function 38 -/
def madrigalref1_Cos.j0 : Nat → Int → Option (Int)
 | 0,_ => none
 | k + 1,x0 => if x0 > 16384 then ((madrigalref1_quarter.f k (wrap64 (32768 - x0))).bind fun t304 => (some (wrap64 (-t304)))) else ((madrigalref1_quarter.f k x0).bind fun t305 => (some t305))
def madrigalref1_Cos.f (k : Nat) (a0 : Int) : Option (Int):=if (Go.bits .and .i64 a0 65535) > 32768 then (madrigalref1_Cos.j0 k (wrap64 (65536 - (Go.bits .and .i64 a0 65535)))) else (madrigalref1_Cos.j0 k (Go.bits .and .i64 a0 65535))
theorem madrigalref1_Cos.mono_l : ∀ k,(∀ y0,LeO (madrigalref1_Cos.j0 k y0) (madrigalref1_Cos.j0 (k + 1) y0))
 | 0 => fun _ r h => by simp [madrigalref1_Cos.j0] at h
 | k + 1 => by
  have ih0:=madrigalref1_Cos.mono_l k
  all_goals (intros;first|unfold madrigalref1_Cos.j0)
  all_goals (repeat' first|(with_reducible first|exact ih0 _|exact madrigalref1_quarter.mono _ _|exact LeO.refl _|exact LeO.none _|refine LeO.ite ?_ ?_|refine LeO.bind ?_ (fun _ => ?_))|exact ih0 _|exact madrigalref1_quarter.mono _ _|exact LeO.none _|refine LeO.ite ?_ ?_|refine LeO.bind ?_ (fun _ => ?_))
theorem madrigalref1_Cos.mono : ∀ a0 k,LeO (madrigalref1_Cos.f k a0) (madrigalref1_Cos.f (k + 1) a0):=by
 intro a0 k
 have ih0:=madrigalref1_Cos.mono_l k
 unfold madrigalref1_Cos.f
 repeat' first|(with_reducible first|exact ih0 _|exact madrigalref1_quarter.mono _ _|exact LeO.refl _|exact LeO.none _|refine LeO.ite ?_ ?_|refine LeO.bind ?_ (fun _ => ?_))|exact ih0 _|exact madrigalref1_quarter.mono _ _|exact LeO.none _|refine LeO.ite ?_ ?_|refine LeO.bind ?_ (fun _ => ?_)
set_option maxHeartbeats 8000000 in
set_option maxRecDepth 100000 in
theorem madrigalref1_Cos.calls (k : Nat) (a0 : Int) (r : Int) (w : World) (h : madrigalref1_Cos.f k a0 = some r) :
  Calls Try.prog 38 #[.int .i64 a0] w fun e w' => e = .returned (.int .i64 r) ∧ Below w.heap.size w w':=by
 have HB:=ak_ (Below.refl w.heap.size w)
 have H : (if (Go.bits .and .i64 a0 65535) > 32768 then (madrigalref1_Cos.j0 k (wrap64 (65536 - (Go.bits .and .i64 a0 65535)))) else (madrigalref1_Cos.j0 k (Go.bits .and .i64 a0 65535))) = some r:=h
 clear h
 have HC2:=ak_ H
 clear H
 go_enter Try.func38,Try.ntmps38
 go_upto_if 6 with (fail)
 go_cut [0] (fun v0 wc => ∃ (kq : Nat) (x0_1 : Int),v0 = .int .i64 x0_1 ∧ Aside0 (madrigalref1_Cos.j0 kq x0_1 = some r) ∧ Aside0 (kq ≤ k) ∧ Aside0 (Below w.heap.size w wc))
 case first =>
  have H:=HC2.out
  clear HC2
  by_cases c3 : (Go.bits .and .i64 a0 65535) > 32768
  ·rw [if_pos c3] at H
   have c3b0 : decide (32768 < (Go.bits .and .i64 a0 65535)) = true:=decide_eq_true c3
   clear c3
   (first|rw [c3b0]|(simp only [i64_w,i32_w];rw [c3b0])|skip)
   have H':=ak_ H
   clear H
   go_wp2
   refine Met.intro ?_
   go_step
   (repeat apply Exists.intro)
   first|refine ⟨?rel39,rfl⟩|(refine ⟨?rel39,?st39⟩;case' st39 => (first|rw [c3b0]|simp only [c3b0]))
   case rel39 => exact ⟨_,(wrap64 (65536 - (Go.bits .and .i64 a0 65535))),(by first|rfl|(simp;done)|(simp [*];done)),H',⟨by first|omega|exact Nat.le_refl _⟩,⟨by repeat (first|(with_reducible first|exact HB.out|apply ba_|apply bb_|apply bc_)|exact HB.out)⟩⟩
  ·rw [if_neg c3] at H
   have c3b0 : decide (32768 < (Go.bits .and .i64 a0 65535)) = false:=decide_eq_false c3
   clear c3
   (first|rw [c3b0]|(simp only [i64_w,i32_w];rw [c3b0])|skip)
   have H':=ak_ H
   clear H
   go_wp2
   refine Met.intro ?_
   go_step
   (repeat apply Exists.intro)
   first|refine ⟨?rel48,rfl⟩|(refine ⟨?rel48,?st48⟩;case' st48 => (first|rw [c3b0]|simp only [c3b0]))
   case rel48 => exact ⟨_,(Go.bits .and .i64 a0 65535),(by first|rfl|(simp;done)|(simp [*];done)),H',⟨by first|omega|exact Nat.le_refl _⟩,⟨by repeat (first|(with_reducible first|exact HB.out|apply ba_|apply bb_|apply bc_)|exact HB.out)⟩⟩
 case rest =>
  clear HC2
  try clear p2
  try clear c3
  try clear c3b0
  obtain ⟨kq,x0_1,rfl,HA,HJ1,HB⟩:=hcut
  (try simp only [i64_w,i32_w])
  cases kq with
  | zero => exact absurd HA.out (by simp [madrigalref1_Cos.j0])
  | succ kj1 =>
   have H:=HA.out
   clear HA
   simp only [madrigalref1_Cos.j0] at H
   by_cases c4 : x0_1 > 16384
   ·rw [if_pos c4] at H
    have c4b0 : decide (16384 < x0_1) = true:=decide_eq_true c4
    clear c4
    replace H:=Option.bind_eq_some_iff.mp H
    obtain ⟨t304,A50,H⟩:=H
    (try dsimp only at H)
    have A5:=ak_ A50
    clear A50
    obtain rfl:=Option.some.inj H
    go_wp2_with (first|((with_reducible refine gate_callee (f:=44) rfl ?_);refine goesL_ (some 13) rfl rfl Try.func44 (by kernel_rfl) rfl #[.int .i64 (wrap64 (32768 - x0_1))] rfl (by (try simp only [List.map_toArray,List.map_cons,List.map_nil]);first|done|rfl|(simp only [List.length_drop,List.length_take];rfl)) ?_;(with_reducible refine (madrigalref1_quarter.calls kj1 (wrap64 (32768 - x0_1)) t304 _ A5.out).mono ?_);rintro e w6 ⟨rfl,hb⟩;refine ⟨_,rfl,?_⟩;have n0_:=ak_ (below_step (by repeat (first|(with_reducible first|exact HB.out|apply ba_|apply bb_|apply bc_)|exact HB.out)) hb);clear HB;have HB:=n0_;clear n0_;(try clear hb)))
    go_ret
    exact ⟨by first|rfl|(simp [errW_none,errW_some] <;> rfl)|(simp [*,errW_none,errW_some] <;> rfl),by repeat (first|(with_reducible first|exact HB.out|apply ba_|apply bb_|apply bc_)|exact HB.out)⟩
   ·rw [if_neg c4] at H
    have c4b0 : decide (16384 < x0_1) = false:=decide_eq_false c4
    clear c4
    replace H:=Option.bind_eq_some_iff.mp H
    obtain ⟨t305,A70,H⟩:=H
    (try dsimp only at H)
    have A7:=ak_ A70
    clear A70
    obtain rfl:=Option.some.inj H
    go_wp2_with (first|((with_reducible refine gate_callee (f:=44) rfl ?_);refine goesL_ (some 16) rfl rfl Try.func44 (by kernel_rfl) rfl #[.int .i64 x0_1] rfl (by (try simp only [List.map_toArray,List.map_cons,List.map_nil]);first|done|rfl|(simp only [List.length_drop,List.length_take];rfl)) ?_;(with_reducible refine (madrigalref1_quarter.calls kj1 x0_1 t305 _ A7.out).mono ?_);rintro e w8 ⟨rfl,hb⟩;refine ⟨_,rfl,?_⟩;have n0_:=ak_ (below_step (by repeat (first|(with_reducible first|exact HB.out|apply ba_|apply bb_|apply bc_)|exact HB.out)) hb);clear HB;have HB:=n0_;clear n0_;(try clear hb)))
    go_ret
    exact ⟨by first|rfl|(simp [errW_none,errW_some] <;> rfl)|(simp [*,errW_none,errW_some] <;> rfl),by repeat (first|(with_reducible first|exact HB.out|apply ba_|apply bb_|apply bc_)|exact HB.out)⟩

/-! ### madrigalref1_Sin: function 34 -/
def madrigalref1_Sin.f (k : Nat) (a0 : Int) : Option (Int):=(madrigalref1_Cos.f k (wrap64 ((Go.bits .and .i64 a0 65535) - 16384))).bind fun t306 => (some t306)
theorem madrigalref1_Sin.mono : ∀ a0 k,LeO (madrigalref1_Sin.f k a0) (madrigalref1_Sin.f (k + 1) a0):=by
 intro a0 k
 unfold madrigalref1_Sin.f
 repeat' first|(with_reducible first|exact madrigalref1_Cos.mono _ _|exact LeO.refl _|exact LeO.none _|refine LeO.ite ?_ ?_|refine LeO.bind ?_ (fun _ => ?_))|exact madrigalref1_Cos.mono _ _|exact LeO.none _|refine LeO.ite ?_ ?_|refine LeO.bind ?_ (fun _ => ?_)
set_option maxHeartbeats 8000000 in
set_option maxRecDepth 100000 in
theorem madrigalref1_Sin.calls (k : Nat) (a0 : Int) (r : Int) (w : World) (h : madrigalref1_Sin.f k a0 = some r) :
  Calls Try.prog 34 #[.int .i64 a0] w fun e w' => e = .returned (.int .i64 r) ∧ Below w.heap.size w w':=by
 have HB:=ak_ (Below.refl w.heap.size w)
 have H : ((madrigalref1_Cos.f k (wrap64 ((Go.bits .and .i64 a0 65535) - 16384))).bind fun t306 => (some t306)) = some r:=h
 clear h
 replace H:=Option.bind_eq_some_iff.mp H
 obtain ⟨t306,A20,H⟩:=H
 (try dsimp only at H)
 have A2:=ak_ A20
 clear A20
 obtain rfl:=Option.some.inj H
 go_enter Try.func34,Try.ntmps34
 go_wp2_with (first|((with_reducible refine gate_callee (f:=38) rfl ?_);refine goesL_ (some 6) rfl rfl Try.func38 (by kernel_rfl) rfl #[.int .i64 (wrap64 ((Go.bits .and .i64 a0 65535) - 16384))] rfl (by (try simp only [List.map_toArray,List.map_cons,List.map_nil]);first|done|rfl|(simp only [List.length_drop,List.length_take];rfl)) ?_;(with_reducible refine (madrigalref1_Cos.calls k (wrap64 ((Go.bits .and .i64 a0 65535) - 16384)) t306 _ A2.out).mono ?_);rintro e w3 ⟨rfl,hb⟩;refine ⟨_,rfl,?_⟩;have n0_:=ak_ (below_step (by repeat (first|(with_reducible first|exact HB.out|apply ba_|apply bb_|apply bc_)|exact HB.out)) hb);clear HB;have HB:=n0_;clear n0_;(try clear hb)))
 go_ret
 exact ⟨by first|rfl|(simp [errW_none,errW_some] <;> rfl)|(simp [*,errW_none,errW_some] <;> rfl),by repeat (first|(with_reducible first|exact HB.out|apply ba_|apply bb_|apply bc_)|exact HB.out)⟩

/-! ### madrigalref1_Down: function 35 -/
def madrigalref1_Down.f (a0 : Int) (a1 : Int) : Option (Int):=if a1 = 0 then (none) else (if (Int.tmod a0 a1) < 0 then (some (wrap64 ((wrap64 (Int.tdiv a0 a1)) - 1))) else (some (wrap64 (Int.tdiv a0 a1))))
set_option maxHeartbeats 8000000 in
set_option maxRecDepth 100000 in
theorem madrigalref1_Down.calls (a0 : Int) (a1 : Int) (r : Int) (w : World) (h : madrigalref1_Down.f a0 a1 = some r) :
  Calls Try.prog 35 #[.int .i64 a0,.int .i64 a1] w fun e w' => e = .returned (.int .i64 r) ∧ Drawn0 w w':=by
 have H : (if a1 = 0 then (none) else (if (Int.tmod a0 a1) < 0 then (some (wrap64 ((wrap64 (Int.tdiv a0 a1)) - 1))) else (some (wrap64 (Int.tdiv a0 a1))))) = some r:=h
 clear h
 by_cases c3 : a1 = 0
 ·rw [if_pos c3] at H
  exact absurd H (by simp)
 ·rw [if_neg c3] at H
  have c3b0 : (a1 == 0) = false:=beq_eq_false_iff_ne.mpr c3
  have c3b1 : (a1 != 0) = true:=bne_iff_ne.mpr c3
  by_cases c4 : (Int.tmod a0 a1) < 0
  ·rw [if_pos c4] at H
   have c4b0:=decide_eq_true c4
   clear c4
   obtain rfl:=Option.some.inj H
   go_enter Try.func35,Try.ntmps35
   go_wp2
   go_ret
   exact ⟨by first|rfl|(simp;done)|(simp [*];done),by repeat (first|exact Drawn0.refl _|apply Drawn0.step)⟩
  ·rw [if_neg c4] at H
   have c4b0:=decide_eq_false c4
   clear c4
   obtain rfl:=Option.some.inj H
   go_enter Try.func35,Try.ntmps35
   go_wp2
   go_ret
   exact ⟨by first|rfl|(simp;done)|(simp [*];done),by repeat (first|exact Drawn0.refl _|apply Drawn0.step)⟩

end Go.Proofs.Ytcicenmmpbgmoaa.P
