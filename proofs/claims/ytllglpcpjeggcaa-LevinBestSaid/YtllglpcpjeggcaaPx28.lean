/- The machine side of the laws of one chapter, without conditions: each call of a Go function comes to what the Lean function of its name answers. Written for this claim by a program of the prover. -/
import Derived.Test.YtllglpcpjeggcaaPx0
import Derived.Test.YtllglpcpjeggcaaPx27
namespace Go.Proofs.Ytllglpcpjeggcaa.P
open Go.RowKit Go.Proofs.YtllglpcpjeggcaaW.PrintWords Go.Proofs.YtllglpcpjeggcaaW.PrintLast Go.Proofs.YtllglpcpjeggcaaW.PrintMore
attribute [local go_sem] max2_int min2_int max_two min_two max_three min_three max_four min_four   -- for this text's walks alone
set_option linter.unusedVariables false
set_option linter.unusedSimpArgs false

/-! ### madrigalref6_clamped: function 31 -/
def madrigalref6_clamped.l0 : Nat → List Int → Int → Int → List Int → Int → Option (List Int)
 | 0,_,_,_,_,_ => none
 | k + 1,x0,x1,x2,x7,x8 => if x8 < (x0.length : Int) then (if 0 ≤ x8 then ((madrigalref1_Clamp.f k (rd x0 x8) x1 x2).bind fun t442 => (if x7.length < 17592186044416 then (madrigalref6_clamped.l0 k x0 x1 x2 (x7 ++ [t442]) (wrap64 (x8 + 1))) else (none))) else (none)) else (some x7)
def madrigalref6_clamped.f (k : Nat) (l0 : List Int) (a1 : Int) (a2 : Int) : Option (List Int):=madrigalref6_clamped.l0 k l0 a1 a2 ([] : List Int) 0
theorem madrigalref6_clamped.mono_l : ∀ k,(∀ y0 y1 y2 y3 y4,LeO (madrigalref6_clamped.l0 k y0 y1 y2 y3 y4) (madrigalref6_clamped.l0 (k + 1) y0 y1 y2 y3 y4))
 | 0 => fun _ _ _ _ _ r h => by simp [madrigalref6_clamped.l0] at h
 | k + 1 => by
  have ih0:=madrigalref6_clamped.mono_l k
  all_goals (intros;first|unfold madrigalref6_clamped.l0)
  all_goals (repeat' first|(with_reducible first|exact ih0 _ _ _ _ _|exact madrigalref1_Clamp.mono _ _ _ _|exact LeO.refl _|exact LeO.none _|refine LeO.ite ?_ ?_|refine LeO.bind ?_ (fun _ => ?_))|exact ih0 _ _ _ _ _|exact madrigalref1_Clamp.mono _ _ _ _|exact LeO.none _|refine LeO.ite ?_ ?_|refine LeO.bind ?_ (fun _ => ?_))
theorem madrigalref6_clamped.mono : ∀ a0 a1 a2 k,LeO (madrigalref6_clamped.f k a0 a1 a2) (madrigalref6_clamped.f (k + 1) a0 a1 a2):=by
 intro a0 a1 a2 k
 have ih0:=madrigalref6_clamped.mono_l k
 unfold madrigalref6_clamped.f
 repeat' first|(with_reducible first|exact ih0 _ _ _ _ _|exact madrigalref1_Clamp.mono _ _ _ _|exact LeO.refl _|exact LeO.none _|refine LeO.ite ?_ ?_|refine LeO.bind ?_ (fun _ => ?_))|exact ih0 _ _ _ _ _|exact madrigalref1_Clamp.mono _ _ _ _|exact LeO.none _|refine LeO.ite ?_ ?_|refine LeO.bind ?_ (fun _ => ?_)
set_option maxHeartbeats 8000000 in
set_option maxRecDepth 100000 in
theorem madrigalref6_clamped.calls (k : Nat) (A0 : Option Addr) (c0 : Nat) (l0 : List Int) (a1 : Int) (a2 : Int) (r : List Int) (w : World) (hr0 : Kd.C (Kd.int .i64) w A0 l0.length l0) (hc0 : l0.length ≤ c0) (h : madrigalref6_clamped.f k l0 a1 a2 = some r) :
  Calls Try.prog 31 #[.slice A0 l0.length c0,.int .i64 a1,.int .i64 a2] w fun e w' => ∃ v0_ : Value,e = .returned (v0_) ∧ Kd.R (Kd.int .i64) 2 w' w.heap.size (fun _ => True) v0_ r ∧ Below w.heap.size w w':=by
 have HR0:=ak_ hr0
 have HC0:=ak_ hc0
 clear hr0 hc0
 have HB:=ak_ (Below.refl w.heap.size w)
 have H : (madrigalref6_clamped.l0 k l0 a1 a2 ([] : List Int) 0) = some r:=h
 clear h
 have H':=ak_ H
 clear H
 go_enter Try.func31,Try.ntmps31
 go_wp2
 go_loopg [7,8] k (fun kq v7 v8 w' => ∃ (x7_1 : List Int) (x8_1 : Int),v8 = .int .i64 x8_1 ∧ Aside0 (madrigalref6_clamped.l0 kq l0 a1 a2 x7_1 x8_1 = some r) ∧ Aside0 (kq ≤ k) ∧ Aside0 (Kd.R (Kd.int .i64) 2 w' w.heap.size (fun _ => True) v7 x7_1) ∧ Aside0 (Below w.heap.size w w'))
 case atStart => exact ⟨(([] : List Int)),(0),(by first|rfl|(simp;done)|(simp [*];done)),H',⟨Nat.le_refl _⟩,⟨by first|exact Kd.R_nil _ _ _ _ _|exact Kd.N_nil _ _ _ _ _|exact Kd.V_nil _ _ _ _ _|exact Kd.Q_nil _ _ _ _ _|exact Kd.S_nil _ _ _ _ _⟩,⟨by repeat (first|(with_reducible first|exact HB.out|apply ba_|apply bb_|apply bc_)|exact HB.out)⟩⟩
 case round =>
  clear H'
  try clear p2
  try clear c3
  obtain ⟨x7_1,x8_1,rfl,HA,HK1,HO_7,HB⟩:=hrel
  (try simp only [i64_w,i32_w])
  cases gk with
  | zero => exact absurd HA.out (by simp [madrigalref6_clamped.l0])
  | succ k1 =>
   have H:=HA.out
   clear HA
   simp only [madrigalref6_clamped.l0] at H
   by_cases c4 : x8_1 < (l0.length : Int)
   ·rw [if_pos c4] at H
    have c4b0:=decide_eq_true c4
    clear c4
    by_cases c5 : 0 ≤ x8_1
    ·rw [if_pos c5] at H
     have c5b0:=decide_eq_true c5
     clear c5
     replace H:=Option.bind_eq_some_iff.mp H
     obtain ⟨t442,A60,H⟩:=H
     (try dsimp only at H)
     have A6:=ak_ A60
     clear A60
     by_cases c7 : x7_1.length < 17592186044416
     ·rw [if_pos c7] at H
      have LMc7:=ak_ c7
      clear c7
      obtain ⟨y443,hy443⟩ : ∃ y_ : List Int,y_ = (x7_1 ++ [t442]):=⟨_,rfl⟩
      replace H : (madrigalref6_clamped.l0 k1 l0 a1 a2 y443 (wrap64 (x8_1 + 1))) = some r:=by first|(rw [hy443];with_reducible exact H)|(have H2_:=(Option.bind_some _ _).symm.trans H;rw [hy443];with_reducible exact H2_)|(have H2_:=(Option.bind_some _ _).symm.trans H;with_reducible exact H2_)|with_reducible exact H|(rw [hy443];exact H)|exact H
      have Ny443:=ak_ hy443
      clear hy443
      have H':=ak_ H
      clear H
      have p441 : 0 ≤ (x8_1 : Int):=of_decide_eq_true (by first|(with_reducible assumption)|assumption)
      have q441 : x8_1 < (l0.length : Int):=of_decide_eq_true (by first|(with_reducible assumption)|assumption)
      obtain ⟨ad441,e441,hx441_0⟩:=Kd.at_int HR0.out x8_1 p441 q441
      cases e441
      replace hx441_0:=(HB.out.cell (World.block_lt_of_cell? w _ hx441_0)).trans hx441_0
      replace p441:=eq_true p441
      replace q441:=eq_true q441
      go_wp2_with (first|((with_reducible refine gate_callee (f:=32) rfl ?_);refine goesL_ (some 22) rfl rfl Try.func32 (by kernel_rfl) rfl #[.int .i64 (rd l0 x8_1),.int .i64 a1,.int .i64 a2] rfl (by (try simp only [List.map_toArray,List.map_cons,List.map_nil]);first|done|rfl|(simp only [List.length_drop,List.length_take];rfl)) ?_;(with_reducible refine (madrigalref1_Clamp.calls k1 (rd l0 x8_1) a1 a2 t442 _ A6.out).mono ?_);rintro e w' ⟨rfl,⟨nd,rfl⟩⟩;refine ⟨_,rfl,?_⟩)|((with_reducible refine gate_builtin (b:=.append) (xs:=#[.tmp 15,.tmp 23]) rfl ?_);at_builtin;refine Kd.R_append (Kd.int .i64) (w0:=w) w.heap.size rfl (.tmp 15) (.tmp 23) 23 2 (.int .i64 0) 8 rfl Try.underlying23 info2 rfl (by decide) (by omega) u7 x7_1 t442 [.int .i64 t442] (fun _ => True) (fun _ => False) rfl rfl ?aP (fun _ hk => hk.elim) ?aF ?aO ?aB ?aS ?aL ?_;(case aP => exact rfl);(case aB => exact (by repeat (first|(with_reducible first|exact HB.out|apply ba_|apply bb_|apply bc_)|exact HB.out)));(case aF => exact (fun _ _ => trivial));(case aO => exact (by (with_reducible repeat (first|apply ra_|apply rb_|apply rc_));exact HO_7.out));(case aS => exact (below_size (by repeat (first|(with_reducible first|exact HB.out|apply ba_|apply bb_|apply bc_)|exact HB.out))));(case aL => have:=LMc7.out;omega);intro v444 w8 ho hb hg hat;rw [← Ny443.out] at ho;have n0_:=ak_ (hb);have n1_:=ak_ (ho);clear HB;clear HO_7;have HB:=n0_;have HO445:=n1_;clear n0_ n1_;clear ho hb hg hat))
      go_roundg k1
      case measure => have:=HK1.out;omega
      case rel => exact ⟨(y443),(wrap64 (x8_1 + 1)),(by first|rfl|(simp;done)|(simp [*];done)),H',⟨by have:=HK1.out;omega⟩,⟨by (with_reducible repeat (first|apply ra_|apply rb_|apply rc_));exact HO445.out⟩,⟨by repeat (first|(with_reducible first|exact HB.out|apply ba_|apply bb_|apply bc_)|exact HB.out)⟩⟩
     ·rw [if_neg c7] at H
      exact absurd H (by simp)
    ·rw [if_neg c5] at H
     exact absurd H (by simp)
   ·rw [if_neg c4] at H
    have c4b0:=decide_eq_false c4
    clear c4
    obtain rfl:=Option.some.inj H
    go_wp2
    go_ret
    exact ⟨_,by first|rfl|(simp [errW_none,errW_some] <;> rfl)|(simp [*,errW_none,errW_some] <;> rfl),by (with_reducible repeat (first|apply ra_|apply rb_|apply rc_));exact HO_7.out,by repeat (first|(with_reducible first|exact HB.out|apply ba_|apply bb_|apply bc_)|exact HB.out)⟩

end Go.Proofs.Ytllglpcpjeggcaa.P
