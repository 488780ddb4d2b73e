/- The machine side of the laws of one chapter, without conditions: each call of a Go function comes to what the Lean function of its name answers. Written for this claim by a program of the prover. -/
import Derived.Test.YtlmacbiahofmcaaPx0
import Derived.Test.YtlmacbiahofmcaaPx24
import Derived.Test.YtlmacbiahofmcaaPx27
namespace Go.Proofs.Ytlmacbiahofmcaa.P
open Go.RowKit Go.Proofs.YtlmacbiahofmcaaW.PrintWords Go.Proofs.YtlmacbiahofmcaaW.PrintLast Go.Proofs.YtlmacbiahofmcaaW.PrintMore
attribute [local go_sem] max2_int min2_int max_two min_two max_three min_three max_four min_four   -- for this text's walks alone
set_option linter.unusedVariables false
set_option linter.unusedSimpArgs false

/-! ### madrigalref1_Window: function 31 -/
mutual
def madrigalref1_Window.l0 : Nat → Int → List Int → Int → Option (List Int)
 | 0,_,_,_ => none
 | k + 1,x0,x3,x4 => if x4 < x0 then (madrigalref1_Window.j1 k x0 x3 x4 (decide (x0 ≤ 480))) else (madrigalref1_Window.j1 k x0 x3 x4 false)
def madrigalref1_Window.j1 : Nat → Int → List Int → Int → Bool → Option (List Int)
 | 0,_,_,_,_ => none
 | k + 1,x0,x3,x4,x12 => if x12 = true then (if x0 = 0 then (none) else ((madrigalref1_Sin.f k (wrap64 (Int.tdiv (wrap64 ((wrap64 (Int.tdiv (wrap64 ((wrap64 ((wrap64 (2 * x4)) + 1)) * 16384)) x0)) + 1)) 2))).bind fun t339 => ((madrigalref1_Mul.f k t339 t339 15).bind fun t340 => ((madrigalref1_Sin.f k (wrap64 (Int.tdiv (wrap64 (t340 + 1)) 2))).bind fun t341 => (if x3.length < 17592186044416 then (madrigalref1_Window.l0 k x0 (x3 ++ [t341]) (wrap64 (x4 + 1))) else (none)))))) else (some x3)
end
def madrigalref1_Window.f (k : Nat) (a0 : Int) : Option (List Int):=madrigalref1_Window.l0 k a0 ([] : List Int) 0
theorem madrigalref1_Window.mono_l : ∀ k,(∀ y0 y1 y2,LeO (madrigalref1_Window.l0 k y0 y1 y2) (madrigalref1_Window.l0 (k + 1) y0 y1 y2)) ∧ (∀ y0 y1 y2 y3,LeO (madrigalref1_Window.j1 k y0 y1 y2 y3) (madrigalref1_Window.j1 (k + 1) y0 y1 y2 y3))
 | 0 => ⟨fun _ _ _ r h => by simp [madrigalref1_Window.l0] at h,fun _ _ _ _ r h => by simp [madrigalref1_Window.j1] at h⟩
 | k + 1 => by
  obtain ⟨ih0,ih1⟩:=madrigalref1_Window.mono_l k
  refine ⟨?_,?_⟩
  all_goals (intros;first|unfold madrigalref1_Window.l0|unfold madrigalref1_Window.j1)
  all_goals (repeat' first|(with_reducible first|exact ih0 _ _ _|exact ih1 _ _ _ _|exact madrigalref1_Mul.mono _ _ _ _|exact madrigalref1_Sin.mono _ _|exact LeO.refl _|exact LeO.none _|refine LeO.ite ?_ ?_|refine LeO.bind ?_ (fun _ => ?_))|exact ih0 _ _ _|exact ih1 _ _ _ _|exact madrigalref1_Mul.mono _ _ _ _|exact madrigalref1_Sin.mono _ _|exact LeO.none _|refine LeO.ite ?_ ?_|refine LeO.bind ?_ (fun _ => ?_))
theorem madrigalref1_Window.mono : ∀ a0 k,LeO (madrigalref1_Window.f k a0) (madrigalref1_Window.f (k + 1) a0):=by
 intro a0 k
 obtain ⟨ih0,ih1⟩:=madrigalref1_Window.mono_l k
 unfold madrigalref1_Window.f
 repeat' first|(with_reducible first|exact ih0 _ _ _|exact ih1 _ _ _ _|exact madrigalref1_Mul.mono _ _ _ _|exact madrigalref1_Sin.mono _ _|exact LeO.refl _|exact LeO.none _|refine LeO.ite ?_ ?_|refine LeO.bind ?_ (fun _ => ?_))|exact ih0 _ _ _|exact ih1 _ _ _ _|exact madrigalref1_Mul.mono _ _ _ _|exact madrigalref1_Sin.mono _ _|exact LeO.none _|refine LeO.ite ?_ ?_|refine LeO.bind ?_ (fun _ => ?_)
set_option maxHeartbeats 8000000 in
set_option maxRecDepth 100000 in
theorem madrigalref1_Window.calls (k : Nat) (a0 : Int) (r : List Int) (w : World) (h : madrigalref1_Window.f k a0 = some r) :
  Calls Try.prog 31 #[.int .i64 a0] w fun e w' => ∃ v0_ : Value,e = .returned (v0_) ∧ Kd.R (Kd.int .i64) 2 w' w.heap.size (fun _ => True) v0_ r ∧ Below w.heap.size w w':=by
 have HB:=ak_ (Below.refl w.heap.size w)
 have H : (madrigalref1_Window.l0 k a0 ([] : List Int) 0) = some r:=h
 clear h
 have H':=ak_ H
 clear H
 go_enter Try.func31,Try.ntmps31
 go_wp2
 go_loopg [3,4] k (fun kq v3 v4 w' => ∃ (x3_1 : List Int) (x4_1 : Int),v4 = .int .i64 x4_1 ∧ Aside0 (madrigalref1_Window.l0 kq a0 x3_1 x4_1 = some r) ∧ Aside0 (kq ≤ k) ∧ Aside0 (Kd.R (Kd.int .i64) 2 w' w.heap.size (fun _ => True) v3 x3_1) ∧ Aside0 (Below w.heap.size w w'))
 case atStart => exact ⟨(([] : List Int)),(0),(by first|rfl|(simp;done)|(simp [*];done)),H',⟨Nat.le_refl _⟩,⟨by first|exact Kd.R_nil _ _ _ _ _|exact Kd.N_nil _ _ _ _ _|exact Kd.V_nil _ _ _ _ _|exact Kd.Q_nil _ _ _ _ _|exact Kd.S_nil _ _ _ _ _⟩,⟨by repeat (first|(with_reducible first|exact HB.out|apply ba_|apply bb_|apply bc_)|exact HB.out)⟩⟩
 case round =>
  clear H'
  obtain ⟨x3_1,x4_1,rfl,HA,HK1,HO_3,HB⟩:=hrel
  (try simp only [i64_w,i32_w])
  cases gk with
  | zero => exact absurd HA.out (by simp [madrigalref1_Window.l0])
  | succ k1 =>
   have H:=HA.out
   clear HA
   simp only [madrigalref1_Window.l0] at H
   have HC2:=ak_ H
   clear H
   go_upto_region 3 with (fail)
   go_cut [12] (fun v12 wc => ∃ (kq : Nat) (x12_1 : Bool),v12 = .bool x12_1 ∧ Aside0 (madrigalref1_Window.j1 kq a0 x3_1 x4_1 x12_1 = some r) ∧ Aside0 (kq ≤ k1) ∧ Aside0 (Kd.R (Kd.int .i64) 2 wc w.heap.size (fun _ => True) u3 x3_1) ∧ Aside0 (Below w.heap.size w wc))
   case first =>
    have H:=HC2.out
    clear HC2
    by_cases c3 : x4_1 < a0
    ·rw [if_pos c3] at H
     have c3b0:=decide_eq_true c3
     clear c3
     (first|rw [c3b0]|(simp only [i64_w,i32_w];rw [c3b0])|skip)
     have H':=ak_ H
     clear H
     go_wp2
     refine Met.intro ?_
     go_step
     (repeat apply Exists.intro)
     first|refine ⟨?rel60,rfl⟩|(refine ⟨?rel60,?st60⟩;case' st60 => (first|rw [c3b0]|simp only [c3b0]))
     case rel60 => exact ⟨_,(decide (a0 ≤ 480)),(by first|rfl|(simp;done)|(simp [*];done)),H',⟨by have:=HK1.out;first|omega|exact Nat.le_refl _⟩,⟨by (with_reducible repeat (first|apply ra_|apply rb_|apply rc_));exact HO_3.out⟩,⟨by repeat (first|(with_reducible first|exact HB.out|apply ba_|apply bb_|apply bc_)|exact HB.out)⟩⟩
    ·rw [if_neg c3] at H
     have c3b0:=decide_eq_false c3
     clear c3
     (first|rw [c3b0]|(simp only [i64_w,i32_w];rw [c3b0])|skip)
     have H':=ak_ H
     clear H
     go_wp2
     refine Met.intro ?_
     go_step
     (repeat apply Exists.intro)
     first|refine ⟨?rel69,rfl⟩|(refine ⟨?rel69,?st69⟩;case' st69 => (first|rw [c3b0]|simp only [c3b0]))
     case rel69 => exact ⟨_,(false),(by first|rfl|(simp;done)|(simp [*];done)),H',⟨by have:=HK1.out;first|omega|exact Nat.le_refl _⟩,⟨by (with_reducible repeat (first|apply ra_|apply rb_|apply rc_));exact HO_3.out⟩,⟨by repeat (first|(with_reducible first|exact HB.out|apply ba_|apply bb_|apply bc_)|exact HB.out)⟩⟩
   case rest =>
    clear HC2
    try clear p2
    try clear c3
    try clear c3b0
    obtain ⟨kq,x12_1,rfl,HA,HJ1,HO_3,HB⟩:=hcut
    (try simp only [i64_w,i32_w])
    cases kq with
    | zero => exact absurd HA.out (by simp [madrigalref1_Window.j1])
    | succ kj1 =>
     have H:=HA.out
     clear HA
     simp only [madrigalref1_Window.j1] at H
     by_cases c4 : x12_1 = true
     ·subst c4
      have H1 : (if a0 = 0 then (none) else ((madrigalref1_Sin.f kj1 (wrap64 (Int.tdiv (wrap64 ((wrap64 (Int.tdiv (wrap64 ((wrap64 ((wrap64 (2 * x4_1)) + 1)) * 16384)) a0)) + 1)) 2))).bind fun t339 => ((madrigalref1_Mul.f kj1 t339 t339 15).bind fun t340 => ((madrigalref1_Sin.f kj1 (wrap64 (Int.tdiv (wrap64 (t340 + 1)) 2))).bind fun t341 => (if x3_1.length < 17592186044416 then (madrigalref1_Window.l0 kj1 a0 (x3_1 ++ [t341]) (wrap64 (x4_1 + 1))) else (none)))))) = some r:=by rw [if_pos rfl] at H;exact H
      clear H
      have H:=H1
      clear H1
      by_cases c5 : a0 = 0
      ·rw [if_pos c5] at H
       exact absurd H (by simp)
      ·rw [if_neg c5] at H
       have c5b0 : (a0 == 0) = false:=beq_eq_false_iff_ne.mpr c5
       have c5b1 : (a0 != 0) = true:=bne_iff_ne.mpr c5
       replace H:=Option.bind_eq_some_iff.mp H
       obtain ⟨t339,A60,H⟩:=H
       (try dsimp only at H)
       have A6:=ak_ A60
       clear A60
       replace H:=Option.bind_eq_some_iff.mp H
       obtain ⟨t340,A70,H⟩:=H
       (try dsimp only at H)
       have A7:=ak_ A70
       clear A70
       replace H:=Option.bind_eq_some_iff.mp H
       obtain ⟨t341,A80,H⟩:=H
       (try dsimp only at H)
       have A8:=ak_ A80
       clear A80
       by_cases c9 : x3_1.length < 17592186044416
       ·rw [if_pos c9] at H
        have LMc9:=ak_ c9
        clear c9
        obtain ⟨y342,hy342⟩ : ∃ y_ : List Int,y_ = (x3_1 ++ [t341]):=⟨_,rfl⟩
        replace H : (madrigalref1_Window.l0 kj1 a0 y342 (wrap64 (x4_1 + 1))) = some r:=by first|(rw [hy342];with_reducible exact H)|(have H2_:=(Option.bind_some _ _).symm.trans H;rw [hy342];with_reducible exact H2_)|(have H2_:=(Option.bind_some _ _).symm.trans H;with_reducible exact H2_)|with_reducible exact H|(rw [hy342];exact H)|exact H
        have Ny342:=ak_ hy342
        clear hy342
        have H':=ak_ H
        clear H
        go_wp2_with (first|((with_reducible refine gate_callee (f:=42) rfl ?_);refine goesL_ (some 23) rfl rfl Try.func42 (by kernel_rfl) rfl #[.int .i64 (wrap64 (Int.tdiv (wrap64 ((wrap64 (Int.tdiv (wrap64 ((wrap64 ((wrap64 (2 * x4_1)) + 1)) * 16384)) a0)) + 1)) 2))] rfl (by (try simp only [List.map_toArray,List.map_cons,List.map_nil]);first|done|rfl|(simp only [List.length_drop,List.length_take];rfl)) ?_;(with_reducible refine (madrigalref1_Sin.calls kj1 (wrap64 (Int.tdiv (wrap64 ((wrap64 (Int.tdiv (wrap64 ((wrap64 ((wrap64 (2 * x4_1)) + 1)) * 16384)) a0)) + 1)) 2)) t339 _ A6.out).mono ?_);rintro e w10 ⟨rfl,hb⟩;refine ⟨_,rfl,?_⟩;have n0_:=ak_ (Kd.R_below (by (with_reducible repeat (first|apply ra_|apply rb_|apply rc_));exact HO_3.out) hb);have n1_:=ak_ (below_step (by repeat (first|(with_reducible first|exact HB.out|apply ba_|apply bb_|apply bc_)|exact HB.out)) hb);clear HO_3;clear HB;have HO_3:=n0_;have HB:=n1_;clear n0_ n1_;(try clear hb))|((with_reducible refine gate_callee (f:=33) rfl ?_);refine goesL_ (some 27) rfl rfl Try.func33 (by kernel_rfl) rfl #[.int .i64 t339,.int .i64 t339,.int .i64 15] rfl (by (try simp only [List.map_toArray,List.map_cons,List.map_nil]);first|done|rfl|(simp only [List.length_drop,List.length_take];rfl)) ?_;(with_reducible refine (madrigalref1_Mul.calls kj1 t339 t339 15 t340 _ A7.out).mono ?_);rintro e w' ⟨rfl,⟨nd,rfl⟩⟩;refine ⟨_,rfl,?_⟩)|((with_reducible refine gate_callee (f:=42) rfl ?_);refine goesL_ (some 30) rfl rfl Try.func42 (by kernel_rfl) rfl #[.int .i64 (wrap64 (Int.tdiv (wrap64 (t340 + 1)) 2))] rfl (by (try simp only [List.map_toArray,List.map_cons,List.map_nil]);first|done|rfl|(simp only [List.length_drop,List.length_take];rfl)) ?_;(with_reducible refine (madrigalref1_Sin.calls kj1 (wrap64 (Int.tdiv (wrap64 (t340 + 1)) 2)) t341 _ A8.out).mono ?_);rintro e w11 ⟨rfl,hb⟩;refine ⟨_,rfl,?_⟩;have n0_:=ak_ (Kd.R_below (by (with_reducible repeat (first|apply ra_|apply rb_|apply rc_));exact HO_3.out) hb);have n1_:=ak_ (below_step (by repeat (first|(with_reducible first|exact HB.out|apply ba_|apply bb_|apply bc_)|exact HB.out)) hb);clear HO_3;clear HB;have HO_3:=n0_;have HB:=n1_;clear n0_ n1_;(try clear hb))|((with_reducible refine gate_builtin (b:=.append) (xs:=#[.tmp 24,.tmp 31]) rfl ?_);at_builtin;refine Kd.R_append (Kd.int .i64) (w0:=w) w.heap.size rfl (.tmp 24) (.tmp 31) 23 2 (.int .i64 0) 8 rfl Try.underlying23 info2 rfl (by decide) (by omega) u3 x3_1 t341 [.int .i64 t341] (fun _ => True) (fun _ => False) rfl rfl ?aP (fun _ hk => hk.elim) ?aF ?aO ?aB ?aS ?aL ?_;(case aP => exact rfl);(case aB => exact (by repeat (first|(with_reducible first|exact HB.out|apply ba_|apply bb_|apply bc_)|exact HB.out)));(case aF => exact (fun _ _ => trivial));(case aO => exact (by (with_reducible repeat (first|apply ra_|apply rb_|apply rc_));exact HO_3.out));(case aS => exact (below_size (by repeat (first|(with_reducible first|exact HB.out|apply ba_|apply bb_|apply bc_)|exact HB.out))));(case aL => have:=LMc9.out;omega);intro v343 w12 ho hb hg hat;rw [← Ny342.out] at ho;have n0_:=ak_ (hb);have n1_:=ak_ (ho);clear HB;clear HO_3;have HB:=n0_;have HO344:=n1_;clear n0_ n1_;clear ho hb hg hat))
        go_roundg kj1
        case measure => have:=HK1.out;have:=HJ1.out;omega
        case rel => exact ⟨(y342),(wrap64 (x4_1 + 1)),(by first|rfl|(simp;done)|(simp [*];done)),H',⟨by have:=HK1.out;have:=HJ1.out;omega⟩,⟨by (with_reducible repeat (first|apply ra_|apply rb_|apply rc_));exact HO344.out⟩,⟨by repeat (first|(with_reducible first|exact HB.out|apply ba_|apply bb_|apply bc_)|exact HB.out)⟩⟩
       ·rw [if_neg c9] at H
        exact absurd H (by simp)
     ·replace c4:=Bool.eq_false_iff.mpr c4
      subst c4
      have H1 : (some x3_1) = some r:=by rw [if_neg (show ¬ (false = true) by decide)] at H;exact H
      clear H
      have H:=H1
      clear H1
      obtain rfl:=Option.some.inj H
      go_wp2
      go_ret
      exact ⟨_,by first|rfl|(simp [errW_none,errW_some] <;> rfl)|(simp [*,errW_none,errW_some] <;> rfl),by (with_reducible repeat (first|apply ra_|apply rb_|apply rc_));exact HO_3.out,by repeat (first|(with_reducible first|exact HB.out|apply ba_|apply bb_|apply bc_)|exact HB.out)⟩

end Go.Proofs.Ytlmacbiahofmcaa.P
