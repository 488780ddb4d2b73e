/- The machine side of the laws of one chapter, without conditions: each call of a Go function comes to what the Lean function of its name answers. Written for this claim by a program of the prover. -/
import Derived.Test.YtlmacbiahofmcaaPx0
import Derived.Test.YtlmacbiahofmcaaPx1
import Derived.Test.YtlmacbiahofmcaaPx7
namespace Go.Proofs.Ytlmacbiahofmcaa.P
open Go.RowKit Go.Proofs.YtlmacbiahofmcaaW.PrintWords Go.Proofs.YtlmacbiahofmcaaW.PrintLast Go.Proofs.YtlmacbiahofmcaaW.PrintMore
attribute [local go_sem] max2_int min2_int max_two min_two max_three min_three max_four min_four   -- for this text's walks alone
set_option linter.unusedVariables false
set_option linter.unusedSimpArgs false

/-! ### mdct_Shape: function 10 -/
mutual
def mdct_Shape.l0 : Nat → Int → Int → List Int → List Int → Int → Int → Int → Option (List Int × Int)
 | 0,_,_,_,_,_,_,_ => none
 | k + 1,x0,x1,x6,x7,x8,x26,x27 => if x27 < x26 then (if 0 ≤ x27 then (if x27 < (x7.length : Int) then (if 0 ≤ (wrap64 (x8 + x27)) then (if (wrap64 (x8 + x27)) < (x6.length : Int) then (if 0 ≤ (wrap64 ((wrap64 ((wrap64 ((wrap64 (2 * x0)) - 1)) - x8)) - x27)) then (if (wrap64 ((wrap64 ((wrap64 ((wrap64 (2 * x0)) - 1)) - x8)) - x27)) < (x6.length : Int) then (mdct_Shape.l0 k x0 x1 ((x6.set ((wrap64 (x8 + x27)) : Int).toNat (rd x7 x27)).set ((wrap64 ((wrap64 ((wrap64 ((wrap64 (2 * x0)) - 1)) - x8)) - x27)) : Int).toNat (rd x7 x27)) x7 x8 x26 (wrap64 (x27 + 1))) else (none)) else (none)) else (none)) else (none)) else (none)) else (none)) else (mdct_Shape.l1 k x0 x1 x6 x8 (wrap64 (x8 + x1)))
def mdct_Shape.l1 : Nat → Int → Int → List Int → Int → Int → Option (List Int × Int)
 | 0,_,_,_,_,_ => none
 | k + 1,x0,x1,x6,x8,x11 => if x11 < (wrap64 ((wrap64 ((wrap64 (2 * x0)) - x8)) - x1)) then (if 0 ≤ x11 then (if x11 < (x6.length : Int) then (mdct_Shape.l1 k x0 x1 (x6.set (x11 : Int).toNat 32768) x8 (wrap64 (x11 + 1))) else (none)) else (none)) else (some (x6,0))
end
def mdct_Shape.f (k : Nat) (a0 : Int) (a1 : Int) : Option (List Int × Int):=(mdct_Good.f a0 a1).bind fun t134 => (if t134 = true then (if 0 ≤ (wrap64 (2 * a0)) then (if (wrap64 (2 * a0) : Int).toNat ≤ 35184372088832 then ((tabs_Window.f k a1).bind fun t138 => (mdct_Shape.l0 k a0 a1 (List.replicate (wrap64 (2 * a0) : Int).toNat 0) t138 (wrap64 (Int.tdiv (wrap64 (a0 - a1)) 2)) (t138.length : Int) 0)) else (none)) else (none)) else (some (([] : List Int),1)))
theorem mdct_Shape.mono_l : ∀ k,(∀ y0 y1 y2 y3 y4 y5 y6,LeO (mdct_Shape.l0 k y0 y1 y2 y3 y4 y5 y6) (mdct_Shape.l0 (k + 1) y0 y1 y2 y3 y4 y5 y6)) ∧ (∀ y0 y1 y2 y3 y4,LeO (mdct_Shape.l1 k y0 y1 y2 y3 y4) (mdct_Shape.l1 (k + 1) y0 y1 y2 y3 y4))
 | 0 => ⟨fun _ _ _ _ _ _ _ r h => by simp [mdct_Shape.l0] at h,fun _ _ _ _ _ r h => by simp [mdct_Shape.l1] at h⟩
 | k + 1 => by
  obtain ⟨ih0,ih1⟩:=mdct_Shape.mono_l k
  refine ⟨?_,?_⟩
  all_goals (intros;first|unfold mdct_Shape.l0|unfold mdct_Shape.l1)
  all_goals (repeat' first|(with_reducible first|exact ih0 _ _ _ _ _ _ _|exact ih1 _ _ _ _ _|exact tabs_Window.mono _ _|exact LeO.refl _|exact LeO.none _|refine LeO.ite ?_ ?_|refine LeO.bind ?_ (fun _ => ?_))|exact ih0 _ _ _ _ _ _ _|exact ih1 _ _ _ _ _|exact tabs_Window.mono _ _|exact LeO.none _|refine LeO.ite ?_ ?_|refine LeO.bind ?_ (fun _ => ?_))
theorem mdct_Shape.mono : ∀ a0 a1 k,LeO (mdct_Shape.f k a0 a1) (mdct_Shape.f (k + 1) a0 a1):=by
 intro a0 a1 k
 obtain ⟨ih0,ih1⟩:=mdct_Shape.mono_l k
 unfold mdct_Shape.f
 repeat' first|(with_reducible first|exact ih0 _ _ _ _ _ _ _|exact ih1 _ _ _ _ _|exact tabs_Window.mono _ _|exact LeO.refl _|exact LeO.none _|refine LeO.ite ?_ ?_|refine LeO.bind ?_ (fun _ => ?_))|exact ih0 _ _ _ _ _ _ _|exact ih1 _ _ _ _ _|exact tabs_Window.mono _ _|exact LeO.none _|refine LeO.ite ?_ ?_|refine LeO.bind ?_ (fun _ => ?_)
set_option maxHeartbeats 8000000 in
set_option maxRecDepth 100000 in
theorem mdct_Shape.calls (k : Nat) (a0 : Int) (a1 : Int) (r1 : List Int) (r2 : Int) (w : World) (h : mdct_Shape.f k a0 a1 = some (r1,r2)) :
  Calls Try.prog 10 #[.int .i64 a0,.int .i64 a1] w fun e w' => ∃ v0_ : Value,e = .returned (.tuple #[v0_,.int .i64 r2]) ∧ Kd.R (Kd.int .i64) 2 w' w.heap.size (fun _ => True) v0_ r1 ∧ Below w.heap.size w w':=by
 have HB:=ak_ (Below.refl w.heap.size w)
 have H : ((mdct_Good.f a0 a1).bind fun t134 => (if t134 = true then (if 0 ≤ (wrap64 (2 * a0)) then (if (wrap64 (2 * a0) : Int).toNat ≤ 35184372088832 then ((tabs_Window.f k a1).bind fun t138 => (mdct_Shape.l0 k a0 a1 (List.replicate (wrap64 (2 * a0) : Int).toNat 0) t138 (wrap64 (Int.tdiv (wrap64 (a0 - a1)) 2)) (t138.length : Int) 0)) else (none)) else (none)) else (some (([] : List Int),1)))) = some (r1,r2):=h
 clear h
 replace H:=Option.bind_eq_some_iff.mp H
 obtain ⟨t134,A30,H⟩:=H
 (try dsimp only at H)
 have A3:=ak_ A30
 clear A30
 by_cases c4 : t134 = true
 ·subst c4
  have H1 : (if 0 ≤ (wrap64 (2 * a0)) then (if (wrap64 (2 * a0) : Int).toNat ≤ 35184372088832 then ((tabs_Window.f k a1).bind fun t138 => (mdct_Shape.l0 k a0 a1 (List.replicate (wrap64 (2 * a0) : Int).toNat 0) t138 (wrap64 (Int.tdiv (wrap64 (a0 - a1)) 2)) (t138.length : Int) 0)) else (none)) else (none)) = some (r1,r2):=by rw [if_pos rfl] at H;exact H
  clear H
  have H:=H1
  clear H1
  obtain ⟨ji5,hji5⟩ : ∃ j_ : Int,(wrap64 (2 * a0)) = j_:=⟨_,rfl⟩
  replace H : (if 0 ≤ (ji5) then (if (ji5 : Int).toNat ≤ 35184372088832 then ((tabs_Window.f k a1).bind fun t138 => (mdct_Shape.l0 k a0 a1 (List.replicate (ji5 : Int).toNat 0) t138 (wrap64 (Int.tdiv (wrap64 (a0 - a1)) 2)) (t138.length : Int) 0)) else (none)) else (none)) = some (r1,r2):=by first|(rw [hji5] at H;exact H)|(simp only [hji5] at H ⊢;exact H)
  (try rw [hji5] at A3)
  have hji5w : (IntKind.i64.wrap (2 * a0)) = ji5:=(i64_w _).trans hji5
  by_cases c6 : 0 ≤ (ji5)
  ·rw [if_pos c6] at H
   have c6b0:=eq_true c6
   have c6b1 : decide (0 ≤ (ji5)) = true:=decide_eq_true c6
   clear c6
   by_cases c7 : (ji5 : Int).toNat ≤ 35184372088832
   ·rw [if_pos c7] at H
    have c7b0:=eq_true c7
    have c7b1 : decide ((ji5 : Int).toNat ≤ 35184372088832) = true:=decide_eq_true c7
    clear c7
    obtain ⟨y135,hy135⟩ : ∃ y_ : List Int,y_ = (List.replicate (ji5 : Int).toNat 0):=⟨_,rfl⟩
    replace H : ((tabs_Window.f k a1).bind fun t138 => (mdct_Shape.l0 k a0 a1 y135 t138 (wrap64 (Int.tdiv (wrap64 (a0 - a1)) 2)) (t138.length : Int) 0)) = some (r1,r2):=by first|(rw [hy135];with_reducible exact H)|(have H2_:=(Option.bind_some _ _).symm.trans H;rw [hy135];with_reducible exact H2_)|(have H2_:=(Option.bind_some _ _).symm.trans H;with_reducible exact H2_)|with_reducible exact H|(rw [hy135];exact H)|exact H
    have Ny135:=ak_ hy135
    clear hy135
    replace H:=Option.bind_eq_some_iff.mp H
    obtain ⟨t138,A80,H⟩:=H
    (try dsimp only at H)
    have A8:=ak_ A80
    clear A80
    have H':=ak_ H
    clear H
    go_enter Try.func10,Try.ntmps10
    go_wp2_with (first|((with_reducible refine gate_callee (f:=16) rfl ?_);refine goesL_ (some 14) rfl rfl Try.func16 (by kernel_rfl) rfl #[.int .i64 a0,.int .i64 a1] rfl (by (try simp only [List.map_toArray,List.map_cons,List.map_nil]);first|done|rfl|(simp only [List.length_drop,List.length_take];rfl)) ?_;(with_reducible refine (mdct_Good.calls a0 a1 true _ A3.out).mono ?_);rintro e w' ⟨rfl,⟨nd,rfl⟩⟩;refine ⟨_,rfl,?_⟩)|((with_reducible refine gate_dst (N:=18) rfl ?_);refine Kd.R_make (Kd.int .i64) _ 2 rfl (N:=18) rfl 23 _ _ rfl ji5 rfl rfl Try.underlying23 (.int .i64 0) 8 info2 rfl (by decide) (by omega) 0 (ok:=fun _ => True) (okp:=fun _ => True) rfl (fun _ hk => hk) trivial (of_decide_eq_true (by first|(with_reducible assumption)|assumption)) (Nat.le_trans (Nat.mul_le_mul_right _ (of_decide_eq_true (by first|(with_reducible assumption)|assumption) : ji5.toNat ≤ 35184372088832)) (by omega)) (Below.refl _ _) (Nat.le_refl _) ?_;intro v136 w9 ho10 hb hg_ hnew_;clear hg_ hnew_;(first|rw [← Ny135.out] at ho10|(simp only [Int.reduceToNat] at ho10;rw [← Ny135.out] at ho10));have n0_:=ak_ (Kd.R_lower ho10 (below_size (by repeat (first|(with_reducible first|exact HB.out|apply ba_|apply bb_|apply bc_)|exact HB.out))));have n1_:=ak_ (below_step (by repeat (first|(with_reducible first|exact HB.out|apply ba_|apply bb_|apply bc_)|exact HB.out)) hb);clear HB;have HO137:=n0_;have HB:=n1_;clear n0_ n1_;clear hb ho10)|((with_reducible refine gate_callee (f:=26) rfl ?_);refine goesL_ (some 20) rfl rfl Try.func26 (by kernel_rfl) rfl #[.int .i64 a1] rfl (by (try simp only [List.map_toArray,List.map_cons,List.map_nil]);first|done|rfl|(simp only [List.length_drop,List.length_take];rfl)) ?_;(with_reducible refine (tabs_Window.calls k a1 t138 _ A8.out).mono ?_);rintro e w11 ⟨v139,rfl,ho0,hb⟩;refine ⟨_,rfl,?_⟩;have n0_:=ak_ (Kd.R_elder' (by (with_reducible repeat (first|apply ra_|apply rb_|apply rc_));exact HO137.out) (Kd.R_base ho0) hb);have n1_:=ak_ (Kd.R_lower (Kd.R_new' ho0 (Kd.R_lt (by (with_reducible repeat (first|apply ra_|apply rb_|apply rc_));exact HO137.out))) (below_size (by repeat (first|(with_reducible first|exact HB.out|apply ba_|apply bb_|apply bc_)|exact HB.out))));have n2_:=ak_ (below_step (by repeat (first|(with_reducible first|exact HB.out|apply ba_|apply bb_|apply bc_)|exact HB.out)) hb);clear HO137;clear HB;have HO137:=n0_;have HO140:=n1_;have HB:=n2_;clear n0_ n1_ n2_;(try clear hb);(try clear ho0);obtain ⟨Ao12,co12,eo12⟩:=Kd.R_slice HO140.out;subst eo12))
    go_loopg [27] k (fun kq v27 w' => ∃ (x6_1 : List Int) (x27_1 : Int),v27 = .int .i64 x27_1 ∧ Aside0 (mdct_Shape.l0 kq a0 a1 x6_1 t138 (wrap64 (Int.tdiv (wrap64 (a0 - a1)) 2)) (t138.length : Int) x27_1 = some (r1,r2)) ∧ Aside0 (kq ≤ k) ∧ Aside0 (Kd.R (Kd.int .i64) 2 w' w.heap.size (fun k_ => some k_ ≠ ((.slice Ao12 t138.length co12) : Value).ownBlock) v136 x6_1) ∧ Aside0 (Kd.R (Kd.int .i64) 2 w' w.heap.size (fun k_ => some k_ ≠ (v136 : Value).ownBlock) (.slice Ao12 t138.length co12) t138) ∧ Aside0 (Below w.heap.size w w'))
    case atStart => exact ⟨(y135),(0),(by first|rfl|(simp;done)|(simp [*];done)),H',⟨Nat.le_refl _⟩,⟨by (with_reducible repeat (first|apply ra_|apply rb_|apply rc_));exact Kd.R_mono HO137.out (fun _ hk => hk.2)⟩,⟨by (with_reducible repeat (first|apply ra_|apply rb_|apply rc_));exact Kd.R_mono HO140.out (fun _ hk => hk.2)⟩,⟨by repeat (first|(with_reducible first|exact HB.out|apply ba_|apply bb_|apply bc_)|exact HB.out)⟩⟩
    case round =>
     clear H'
     try clear c1
     try clear c2
     try clear p2
     try clear c4
     try clear c6
     try clear c6b0
     try clear c6b1
     try clear p6
     try clear c7
     try clear c7b0
     try clear c7b1
     try clear c10
     obtain ⟨x6_1,x27_1,rfl,HA,HK1,HO_6,HO_7,HB⟩:=hrel
     (try simp only [i64_w,i32_w])
     cases gk with
     | zero => exact absurd HA.out (by simp [mdct_Shape.l0])
     | succ k1 =>
      have H:=HA.out
      clear HA
      simp only [mdct_Shape.l0] at H
      by_cases c13 : x27_1 < (t138.length : Int)
      ·rw [if_pos c13] at H
       have c13b0:=decide_eq_true c13
       clear c13
       by_cases c14 : 0 ≤ x27_1
       ·rw [if_pos c14] at H
        have c14b0:=decide_eq_true c14
        clear c14
        by_cases c15 : x27_1 < (t138.length : Int)
        ·rw [if_pos c15] at H
         have c15b0:=decide_eq_true c15
         clear c15
         obtain ⟨ji16,hji16⟩ : ∃ j_ : Int,(wrap64 ((wrap64 (Int.tdiv (wrap64 (a0 - a1)) 2)) + x27_1)) = j_:=⟨_,rfl⟩
         replace H : (if 0 ≤ (ji16) then (if (ji16) < (x6_1.length : Int) then (if 0 ≤ (wrap64 ((wrap64 ((wrap64 ((wrap64 (2 * a0)) - 1)) - (wrap64 (Int.tdiv (wrap64 (a0 - a1)) 2)))) - x27_1)) then (if (wrap64 ((wrap64 ((wrap64 ((wrap64 (2 * a0)) - 1)) - (wrap64 (Int.tdiv (wrap64 (a0 - a1)) 2)))) - x27_1)) < (x6_1.length : Int) then (mdct_Shape.l0 k1 a0 a1 ((x6_1.set ((ji16) : Int).toNat (rd t138 x27_1)).set ((wrap64 ((wrap64 ((wrap64 ((wrap64 (2 * a0)) - 1)) - (wrap64 (Int.tdiv (wrap64 (a0 - a1)) 2)))) - x27_1)) : Int).toNat (rd t138 x27_1)) t138 (wrap64 (Int.tdiv (wrap64 (a0 - a1)) 2)) (t138.length : Int) (wrap64 (x27_1 + 1))) else (none)) else (none)) else (none)) else (none)) = some (r1,r2):=by first|(rw [hji16] at H;exact H)|(simp only [hji16] at H ⊢;exact H)
         have hji16w : (IntKind.i64.wrap ((wrap64 (Int.tdiv (wrap64 (a0 - a1)) 2)) + x27_1)) = ji16:=(i64_w _).trans hji16
         by_cases c17 : 0 ≤ (ji16)
         ·rw [if_pos c17] at H
          have c17b0:=decide_eq_true c17
          clear c17
          by_cases c18 : (ji16) < (x6_1.length : Int)
          ·rw [if_pos c18] at H
           have c18b0:=decide_eq_true c18
           clear c18
           obtain ⟨y142,hy142⟩ : ∃ y_ : List Int,y_ = (x6_1.set ((ji16) : Int).toNat (rd t138 x27_1)):=⟨_,rfl⟩
           replace H : (if 0 ≤ (wrap64 ((wrap64 ((wrap64 ((wrap64 (2 * a0)) - 1)) - (wrap64 (Int.tdiv (wrap64 (a0 - a1)) 2)))) - x27_1)) then (if (wrap64 ((wrap64 ((wrap64 ((wrap64 (2 * a0)) - 1)) - (wrap64 (Int.tdiv (wrap64 (a0 - a1)) 2)))) - x27_1)) < (x6_1.length : Int) then (mdct_Shape.l0 k1 a0 a1 (y142.set ((wrap64 ((wrap64 ((wrap64 ((wrap64 (2 * a0)) - 1)) - (wrap64 (Int.tdiv (wrap64 (a0 - a1)) 2)))) - x27_1)) : Int).toNat (rd t138 x27_1)) t138 (wrap64 (Int.tdiv (wrap64 (a0 - a1)) 2)) (t138.length : Int) (wrap64 (x27_1 + 1))) else (none)) else (none)) = some (r1,r2):=by first|(rw [hy142];with_reducible exact H)|(have H2_:=(Option.bind_some _ _).symm.trans H;rw [hy142];with_reducible exact H2_)|(have H2_:=(Option.bind_some _ _).symm.trans H;with_reducible exact H2_)|with_reducible exact H|(rw [hy142];exact H)|exact H
           have Ny142:=ak_ hy142
           clear hy142
           obtain ⟨ji20,hji20⟩ : ∃ j_ : Int,(wrap64 ((wrap64 ((wrap64 ((wrap64 (2 * a0)) - 1)) - (wrap64 (Int.tdiv (wrap64 (a0 - a1)) 2)))) - x27_1)) = j_:=⟨_,rfl⟩
           replace H : (if 0 ≤ (ji20) then (if (ji20) < (x6_1.length : Int) then (mdct_Shape.l0 k1 a0 a1 (y142.set ((ji20) : Int).toNat (rd t138 x27_1)) t138 (wrap64 (Int.tdiv (wrap64 (a0 - a1)) 2)) (t138.length : Int) (wrap64 (x27_1 + 1))) else (none)) else (none)) = some (r1,r2):=by first|(rw [hji20] at H;exact H)|(simp only [hji20] at H ⊢;exact H)
           have hji20w : (IntKind.i64.wrap ((wrap64 ((wrap64 ((wrap64 (2 * a0)) - 1)) - (wrap64 (Int.tdiv (wrap64 (a0 - a1)) 2)))) - x27_1)) = ji20:=(i64_w _).trans hji20
           (try rw [hji5] at hji20);(try rw [hji5] at hji20w)
           by_cases c21 : 0 ≤ (ji20)
           ·rw [if_pos c21] at H
            have c21b0:=decide_eq_true c21
            clear c21
            by_cases c22 : (ji20) < (x6_1.length : Int)
            ·rw [if_pos c22] at H
             have c22b0:=decide_eq_true c22
             clear c22
             obtain ⟨y143,hy143⟩ : ∃ y_ : List Int,y_ = (y142.set ((ji20) : Int).toNat (rd t138 x27_1)):=⟨_,rfl⟩
             replace H : (mdct_Shape.l0 k1 a0 a1 y143 t138 (wrap64 (Int.tdiv (wrap64 (a0 - a1)) 2)) (t138.length : Int) (wrap64 (x27_1 + 1))) = some (r1,r2):=by first|(rw [hy143];with_reducible exact H)|(have H2_:=(Option.bind_some _ _).symm.trans H;rw [hy143];with_reducible exact H2_)|(have H2_:=(Option.bind_some _ _).symm.trans H;with_reducible exact H2_)|with_reducible exact H|(rw [hy143];exact H)|exact H
             have Ny143:=ak_ hy143
             clear hy143
             have H':=ak_ H
             clear H
             have p141 : 0 ≤ (x27_1 : Int):=of_decide_eq_true (by first|(with_reducible assumption)|assumption)
             have q141 : x27_1 < (t138.length : Int):=of_decide_eq_true (by first|(with_reducible assumption)|assumption)
             obtain ⟨ad141,e141,hx141_0⟩:=Kd.at_int (Kd.R_reads' HO_7.out).2.2 x27_1 p141 q141
             cases e141
             replace p141:=eq_true p141
             replace q141:=eq_true q141
             have p19 : 0 ≤ ((ji16) : Int):=of_decide_eq_true (by first|(with_reducible assumption)|assumption)
             have q19 : ((ji16) : Int) < ((x6_1.length : Int) : Int):=of_decide_eq_true (by first|(with_reducible assumption)|assumption)
             obtain ⟨go19,co19,eo19,gb19,gl19,cl19,HG19⟩:=Kd.R_form HO_6.out (by omega)
             (first|cases eo19|(injection eo19 with ea_ en_ ec_;(first|subst ea_|(injection ea_ with ea_;subst ea_));subst ec_;clear en_))
             have GB19:=ak_ gb19
             have GG19:=ak_ HG19
             clear gb19 gl19 HG19
             obtain ⟨hx19_0,hf19_0⟩:=Kd.R_celln 0 HO_6.out ((ji16) : Int) p19 q19
             replace p19:=eq_true p19
             replace q19:=eq_true q19
             have HP24:=Kd.R_putg HO_6.out ((ji16) : Int) (rd t138 x27_1)
             go_wp2_with (first|((with_reducible refine gate_store (t:=2) (p:=37) rfl ?_);refine store_event (t:=2) (p:=37) (v:=?vo_w25) (w1:=(wr.setCell ⟨go19,((ji16) : Int).toNat,none⟩ (.int .i64 (rd t138 x27_1)))) ?hg ?ho ?hn ?hr ?_;(case ho => rfl);(case hg => rfl);(case hn => rfl);(case hr => first|(go_simp;done)|(go_simp;rfl));intro w25 hw;have hg : wr.grownBy w25 (some go19):=(by rw [hw];exact HP24.2);have hp_ : Kd.R (Kd.int .i64) 2 w25 w.heap.size (fun k_ => some k_ ≠ (.slice (some ad141) t138.length co12 : Value).ownBlock) (.slice (some ⟨go19,0,none⟩) x6_1.length co19) y142:=(by rw [hw,Ny142.out];exact HP24.1);clear HP24;have n0_:=ak_ (hp_);have n1_:=ak_ (Kd.R_after (v:=(.slice (some ⟨go19,0,none⟩) x6_1.length co19)) (v1:=(.slice (some ⟨go19,0,none⟩) x6_1.length co19)) (ok:=(fun _ => True)) (by (with_reducible repeat (first|apply ra_|apply rb_|apply rc_));exact Kd.R_mono HO_7.out (fun _ hk => ⟨trivial,hk⟩)) hg (.inl rfl));have n2_:=ak_ ((by rw [hw];exact below_set (HB.out) GB19.out : Below w.heap.size w w25));clear HO_6;clear HO_7;clear HB;have HO_6:=n0_;have HO_7:=n1_;have HB:=n2_;clear n0_ n1_ n2_;clear hg hw hp_;have p23 : 0 ≤ ((ji20) : Int):=of_decide_eq_true (by first|(with_reducible assumption)|assumption);have q23 : ((ji20) : Int) < ((x6_1.length : Int) : Int):=of_decide_eq_true (by first|(with_reducible assumption)|assumption);obtain ⟨hx23_0,hf23_0⟩:=Kd.R_celln 0 HO_6.out ((ji20) : Int) p23 q23;replace p23:=eq_true p23;replace q23:=eq_true q23;obtain ⟨hy26_,hz26_⟩:=Kd.R_celln 0 HO_6.out ((ji20) : Int) (of_decide_eq_true (by first|(with_reducible assumption)|assumption)) (of_decide_eq_true (by first|(with_reducible assumption)|assumption));have HP26:=Kd.R_putg HO_6.out ((ji20) : Int) (rd t138 x27_1))|((with_reducible refine gate_store (t:=2) (p:=47) rfl ?_);refine store_event (t:=2) (p:=47) (v:=?vo_w27) (w1:=(w25.setCell ⟨go19,((ji20) : Int).toNat,none⟩ (.int .i64 (rd t138 x27_1)))) ?hg ?ho ?hn ?hr ?_;(case ho => rfl);(case hg => rfl);(case hn => rfl);(case hr => first|(go_simp;done)|(go_simp;rfl));intro w27 hw;have hg : w25.grownBy w27 (some go19):=(by rw [hw];exact HP26.2);have hp_ : Kd.R (Kd.int .i64) 2 w27 w.heap.size (fun k_ => some k_ ≠ (.slice (some ad141) t138.length co12 : Value).ownBlock) (.slice (some ⟨go19,0,none⟩) x6_1.length co19) y143:=(by rw [hw,Ny143.out];exact HP26.1);clear HP26;have n0_:=ak_ (hp_);have n1_:=ak_ (Kd.R_after (v:=(.slice (some ⟨go19,0,none⟩) x6_1.length co19)) (v1:=(.slice (some ⟨go19,0,none⟩) x6_1.length co19)) (ok:=(fun _ => True)) (by (with_reducible repeat (first|apply ra_|apply rb_|apply rc_));exact HO_7.out) hg (.inl rfl));have n2_:=ak_ ((by rw [hw];exact below_set (HB.out) GB19.out : Below w.heap.size w w27));clear HO_6;clear HO_7;clear HB;have HO_6:=n0_;have HO_7:=n1_;have HB:=n2_;clear n0_ n1_ n2_;clear hg hw hp_))
             go_roundg k1
             case measure => have:=HK1.out;omega
             case rel => exact ⟨(y143),(wrap64 (x27_1 + 1)),(by first|rfl|(simp;done)|(simp [*];done)),H',⟨by have:=HK1.out;omega⟩,⟨by (with_reducible repeat (first|apply ra_|apply rb_|apply rc_));exact HO_6.out⟩,⟨by (with_reducible repeat (first|apply ra_|apply rb_|apply rc_));exact Kd.R_mono HO_7.out (fun _ hk => hk.2)⟩,⟨by repeat (first|(with_reducible first|exact HB.out|apply ba_|apply bb_|apply bc_)|exact HB.out)⟩⟩
            ·rw [if_neg c22] at H
             exact absurd H (by simp)
           ·rw [if_neg c21] at H
            exact absurd H (by simp)
          ·rw [if_neg c18] at H
           exact absurd H (by simp)
         ·rw [if_neg c17] at H
          exact absurd H (by simp)
        ·rw [if_neg c15] at H
         exact absurd H (by simp)
       ·rw [if_neg c14] at H
        exact absurd H (by simp)
      ·rw [if_neg c13] at H
       have c13b0:=decide_eq_false c13
       clear c13
       have H':=ak_ H
       clear H
       go_wp2
       go_loopg [11] k1 (fun kq v11 w' => ∃ (x6_2 : List Int) (x11_2 : Int),v11 = .int .i64 x11_2 ∧ Aside0 (mdct_Shape.l1 kq a0 a1 x6_2 (wrap64 (Int.tdiv (wrap64 (a0 - a1)) 2)) x11_2 = some (r1,r2)) ∧ Aside0 (kq ≤ k1) ∧ Aside0 (Kd.R (Kd.int .i64) 2 w' w.heap.size (fun _ => True) v136 x6_2) ∧ Aside0 (Below w.heap.size w w'))
       case atStart => exact ⟨(x6_1),(wrap64 ((wrap64 (Int.tdiv (wrap64 (a0 - a1)) 2)) + a1)),(by first|rfl|(simp;done)|(simp [*];done)),H',⟨Nat.le_refl _⟩,⟨by (with_reducible repeat (first|apply ra_|apply rb_|apply rc_));exact Kd.R_mono HO_6.out (fun _ hk => trivial)⟩,⟨by repeat (first|(with_reducible first|exact HB.out|apply ba_|apply bb_|apply bc_)|exact HB.out)⟩⟩
       case round =>
        clear H'
        try clear c1
        try clear p1
        try clear q1
        try clear hx1
        try clear c2
        try clear p2
        try clear q2
        try clear hx2
        try clear hf2
        try clear c4
        try clear c6
        try clear c6b0
        try clear c6b1
        try clear p6
        try clear c7
        try clear c7b0
        try clear c7b1
        try clear c10
        try clear c13
        try clear c13b0
        try clear c14
        try clear c14b0
        try clear p14
        try clear q14
        try clear hx14
        try clear c15
        try clear c15b0
        try clear c16
        try clear c17
        try clear c17b0
        try clear c18
        try clear c18b0
        try clear p19
        try clear q19
        try clear hx19
        try clear hf19
        try clear c21
        try clear c21b0
        try clear c22
        try clear c22b0
        try clear p23
        try clear q23
        try clear hx23
        try clear hf23
        try clear c26
        try clear hx141_0
        try clear hx19_0
        try clear hx23_0
        try clear p141
        try clear p19
        try clear p2
        try clear p23
        try clear p6
        try clear q141
        try clear q19
        try clear q23
        obtain ⟨x6_2,x11_2,rfl,HA,HK2,HO_6,HB⟩:=hrel
        (try simp only [i64_w,i32_w])
        cases gk with
        | zero => exact absurd HA.out (by simp [mdct_Shape.l1])
        | succ k2 =>
         have H:=HA.out
         clear HA
         simp only [mdct_Shape.l1] at H
         by_cases c28 : x11_2 < (wrap64 ((wrap64 ((wrap64 (2 * a0)) - (wrap64 (Int.tdiv (wrap64 (a0 - a1)) 2)))) - a1))
         ·rw [if_pos c28] at H
          have c28b0:=decide_eq_true c28
          (try rw [hji5] at c28b0)
          clear c28
          by_cases c29 : 0 ≤ x11_2
          ·rw [if_pos c29] at H
           have c29b0:=decide_eq_true c29
           clear c29
           by_cases c30 : x11_2 < (x6_2.length : Int)
           ·rw [if_pos c30] at H
            have c30b0:=decide_eq_true c30
            clear c30
            obtain ⟨y144,hy144⟩ : ∃ y_ : List Int,y_ = (x6_2.set (x11_2 : Int).toNat 32768):=⟨_,rfl⟩
            replace H : (mdct_Shape.l1 k2 a0 a1 y144 (wrap64 (Int.tdiv (wrap64 (a0 - a1)) 2)) (wrap64 (x11_2 + 1))) = some (r1,r2):=by first|(rw [hy144];with_reducible exact H)|(have H2_:=(Option.bind_some _ _).symm.trans H;rw [hy144];with_reducible exact H2_)|(have H2_:=(Option.bind_some _ _).symm.trans H;with_reducible exact H2_)|with_reducible exact H|(rw [hy144];exact H)|exact H
            have Ny144:=ak_ hy144
            clear hy144
            have H':=ak_ H
            clear H
            have p31 : 0 ≤ (x11_2 : Int):=of_decide_eq_true (by first|(with_reducible assumption)|assumption)
            have q31 : (x11_2 : Int) < ((x6_2.length : Int) : Int):=of_decide_eq_true (by first|(with_reducible assumption)|assumption)
            obtain ⟨go31,co31,eo31,gb31,gl31,cl31,HG31⟩:=Kd.R_form HO_6.out (by omega)
            (first|cases eo31|(injection eo31 with ea_ en_ ec_;(first|subst ea_|(injection ea_ with ea_;subst ea_));subst ec_;clear en_))
            have GB31:=ak_ gb31
            have GG31:=ak_ HG31
            clear gb31 gl31 HG31
            obtain ⟨hx31_0,hf31_0⟩:=Kd.R_celln 0 HO_6.out (x11_2 : Int) p31 q31
            replace p31:=eq_true p31
            replace q31:=eq_true q31
            have HP32:=Kd.R_putg HO_6.out (x11_2 : Int) 32768
            go_wp2_with (first|((with_reducible refine gate_store (t:=2) (p:=64) rfl ?_);refine store_event (t:=2) (p:=64) (v:=?vo_w33) (w1:=(wr.setCell ⟨go31,(x11_2 : Int).toNat,none⟩ (.int .i64 32768))) ?hg ?ho ?hn ?hr ?_;(case ho => rfl);(case hg => rfl);(case hn => rfl);(case hr => first|(go_simp;done)|(go_simp;rfl));intro w33 hw;have hg : wr.grownBy w33 (some go31):=(by rw [hw];exact HP32.2);have hp_ : Kd.R (Kd.int .i64) 2 w33 w.heap.size (fun _ => True) (.slice (some ⟨go31,0,none⟩) x6_2.length co31) y144:=(by rw [hw,Ny144.out];exact HP32.1);clear HP32;have n0_:=ak_ (hp_);have n1_:=ak_ ((by rw [hw];exact below_set (HB.out) GB31.out : Below w.heap.size w w33));clear HO_6;clear HB;have HO_6:=n0_;have HB:=n1_;clear n0_ n1_;clear hg hw hp_))
            go_roundg k2
            case measure => have:=HK1.out;have:=HK2.out;omega
            case rel => exact ⟨(y144),(wrap64 (x11_2 + 1)),(by first|rfl|(simp;done)|(simp [*];done)),H',⟨by have:=HK1.out;have:=HK2.out;omega⟩,⟨by (with_reducible repeat (first|apply ra_|apply rb_|apply rc_));exact HO_6.out⟩,⟨by repeat (first|(with_reducible first|exact HB.out|apply ba_|apply bb_|apply bc_)|exact HB.out)⟩⟩
           ·rw [if_neg c30] at H
            exact absurd H (by simp)
          ·rw [if_neg c29] at H
           exact absurd H (by simp)
         ·rw [if_neg c28] at H
          have c28b0:=decide_eq_false c28
          (try rw [hji5] at c28b0)
          clear c28
          simp only [Option.some.injEq,Prod.mk.injEq] at H
          obtain ⟨rfl,rfl⟩:=H
          go_wp2
          go_ret2
          exact ⟨_,by first|rfl|(simp [errW_none,errW_some] <;> rfl)|(simp only [← hji5];first|rfl|(simp [errW_none,errW_some] <;> rfl))|(simp [*,errW_none,errW_some] <;> rfl),by (with_reducible repeat (first|apply ra_|apply rb_|apply rc_));exact HO_6.out,by repeat (first|(with_reducible first|exact HB.out|apply ba_|apply bb_|apply bc_)|exact HB.out)⟩
   ·rw [if_neg c7] at H
    exact absurd H (by simp)
  ·rw [if_neg c6] at H
   exact absurd H (by simp)
 ·replace c4:=Bool.eq_false_iff.mpr c4
  subst c4
  have H1 : (some (([] : List Int),1)) = some (r1,r2):=by rw [if_neg (show ¬ (false = true) by decide)] at H;exact H
  clear H
  have H:=H1
  clear H1
  simp only [Option.some.injEq,Prod.mk.injEq] at H
  obtain ⟨rfl,rfl⟩:=H
  go_enter Try.func10,Try.ntmps10
  go_wp2_with (first|((with_reducible refine gate_callee (f:=16) rfl ?_);refine goesL_ (some 14) rfl rfl Try.func16 (by kernel_rfl) rfl #[.int .i64 a0,.int .i64 a1] rfl (by (try simp only [List.map_toArray,List.map_cons,List.map_nil]);first|done|rfl|(simp only [List.length_drop,List.length_take];rfl)) ?_;(with_reducible refine (mdct_Good.calls a0 a1 false _ A3.out).mono ?_);rintro e w' ⟨rfl,⟨nd,rfl⟩⟩;refine ⟨_,rfl,?_⟩))
  go_ret2
  exact ⟨_,by first|rfl|(simp [errW_none,errW_some] <;> rfl)|(simp [*,errW_none,errW_some] <;> rfl),by first|exact Kd.R_nil _ _ _ _ _|exact Kd.N_nil _ _ _ _ _|exact Kd.V_nil _ _ _ _ _|exact Kd.Q_nil _ _ _ _ _|exact Kd.S_nil _ _ _ _ _,by repeat (first|(with_reducible first|exact HB.out|apply ba_|apply bb_|apply bc_)|exact HB.out)⟩

end Go.Proofs.Ytlmacbiahofmcaa.P
